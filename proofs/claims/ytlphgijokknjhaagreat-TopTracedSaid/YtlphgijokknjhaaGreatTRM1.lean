/- The evaluator, the functions of this seat and what they compute: some texts in one, in short names. Conditions: those of each law. -/
import Derived.LoopNIn
import Derived.OrdersIn
import Derived.RangeFuncRecord
import Derived.RangeFuncCalls
import Derived.Laws.Externs
import Derived.ProofKit
import Derived.DataReads
import Derived.IntWalk
import Derived.Test.YtlphgijokknjhaaGreatProg
import Derived.Test.YtlphgijokknjhaaGreatTRM0
set_option linter.all false
set_option maxRecDepth 100000
set_option maxHeartbeats 4000000
namespace Go.Proofs.YtlphgijokknjhaaGreat.Ev
open Go Go.RowKit
section swap
variable{P:Program}{T:Table}{A:fw}{N:Nat}{ops:Array Oper}{α:Type}
theorem RJ{env:Env}{d:Nat}{v:V}{x:Operand}(h:x≠.tmp d):aR (env.set d v) x=aR env x:=by
 cases x with
 |tmp t=>
  have:t≠d:=fun e=>h (by rw[e])
  simp[aR,Env.set,c8 this]
 |_=>rfl
theorem W5{o:Oper}{at_:Option Nat}{env:Env}{d:Nat}{v:V}{h:H}(bF:d∉o.looksAt ops)(k:V→H→Option α):
  gO P T A o at_ (env.set d v) h k=gO P T A o at_ env h k:=by
 have hx:∀x∈o.op.operands,aR (env.set d v) x=aR env x:=fun x hx=>RJ fun e=>bF (by
  subst e
  exact List.mem_append_left _ (List.mem_filterMap.2 ⟨.tmp d,by simpa using hx,rfl⟩))
 have La:∀(y:Option Operand),(∀x,y=some x→aR (env.set d v) x=aR env x)→y.map (aR (env.set d v))=y.map (aR env):=fun y aK=>by
  cases y with
  |none=>rfl
  |some x=>simp[aK x rfl]
 obtain⟨dst,op,type,pos,after,guard⟩:=o
 cases op<;>simp only[Op.operands]at hx<;>simp only[gO]
 case move x=>rw[hx x (by simp)]
 case assign x=>rw[hx x (by simp)]
 case pick c a b=>rw[hx c (by simp),hx a (by simp),hx b (by simp)]
 case box e x=>rw[hx x (by simp)]
 case build t ps=>
  have:oM (env.set d v) ps=oM env ps:=List.map_congr_left fun p aa=>by rw[hx p.2 (by simp;exact ⟨p.1,by simpa using aa⟩)]
  rw[this]
 case buildSlice t n ps=>
  have:oM (env.set d v) ps=oM env ps:=List.map_congr_left fun p aa=>by rw[hx p.2 (by simp;exact ⟨p.1,by simpa using aa⟩)]
  rw[this]
 case load t x=>rw[hx x (by simp)]
 case store t x y=>rw[hx x (by simp),hx y (by simp)]
 case nilCheck x=>rw[hx x (by simp)]
 case binOp op t x y ea=>rw[hx x (by simp),hx y (by simp)]
 case unOp op t x=>rw[hx x (by simp)]
 case convert s t x=>rw[hx x (by simp)]
 case makeFunc f first cs=>
  have:cs.toList.map (aR (env.set d v))=cs.toList.map (aR env):=List.map_congr_left fun x hm=>hx x (by simp;exact .inr (by simpa using hm))
  cases f<;>simp only[this]
 case makeSlice t l c=>rw[hx l (by simp),hx c (by simp)]
 case slice t x lo hi ju=>
  rw[hx x (by simp),La lo (fun y aK=>hx y (by simp[aK])),La hi (fun y aK=>hx y (by simp[aK])),La ju (fun y aK=>hx y (by simp[aK]))]
 case fieldAddr t x f=>rw[hx x (by simp)]
 case field t x f=>rw[hx x (by simp)]
 case indexAddr t x y=>rw[hx x (by simp),hx y (by simp)]
 case index t x y=>rw[hx x (by simp),hx y (by simp)]
 case extract x i=>rw[hx x (by simp)]
 case lookup t m x c=>rw[hx m (by simp),hx x (by simp)]
 case mapUpdate t m x y=>rw[hx m (by simp),hx x (by simp),hx y (by simp)]
 case mapEntry t m x=>rw[hx m (by simp),hx x (by simp)]
 case entryStore t m i y=>rw[hx m (by simp),hx i (by simp),hx y (by simp)]
 case range t m=>rw[hx m (by simp)]
 case entry x=>rw[hx x (by simp)]
 case call c=>
  obtain⟨callee,args,ts⟩:=c
  have y7:args.toList.map (aR (env.set d v))=args.toList.map (aR env):=List.map_congr_left fun x hm=>hx x (by simp[Call.operands];exact .inr (by simpa using hm))
  cases callee with
  |value f=>simp only[y7,hx f (by simp[Call.operands])]
  |builtin b=>cases b<;>simp only[y7]
  |invoke _ _=>rfl
def jR(ops:Array Oper)(env:Env)(o:Oper):Option Bool:=
 match o.guard with
 |none=>some true
 |some (j,want)=>
  match(ops[j]?).bind (·.dst)with
  |none=>none
  |some t=>match env t with
   |.bool g=>some (g==want)
   |.tuple []=>some false
   |_=>none
theorem Env.oL(env:Env)(t:Nat):env.set t (env t)=env:=by
 funext i
 simp only[Env.set]
 by_cases hi:i=t
 ·subst hi;simp
 ·simp[c8 hi]
theorem Env.set_comm(env:Env){s t:Nat}(bS:s≠t)(u v:V):(env.set s u).set t v=(env.set t v).set s u:=by
 funext i
 simp only[Env.set]
 by_cases hi:i=t
 ·subst hi;simp[c8 (Ne.symm bS)]
 ·by_cases ad:i=s
  ·subst ad;simp[c8 bS]
  ·simp[c8 hi,c8 ad]
theorem Wg{o:Oper}{env:Env}{d:Nat}{v:V}(bF:d∉o.looksAt ops):jR ops (env.set d v) o=jR ops env o:=by
 unfold jR
 cases aQ:o.guard with
 |none=>rfl
 |some EF=>
  obtain⟨j,want⟩:=EF
  simp only
  cases bk:(ops[j]?).bind (·.dst)with
  |none=>rfl
  |some t=>
   have bS:t≠d:=fun e=>bF (by subst e;simp[Oper.looksAt,aQ,bk])
   simp[Env.set,c8 bS]
def c1 (P:Program)(T:Table)(A:fw)(ops:Array Oper)(p:Oper×Option Nat)(env:Env)(h:H):Option (V×H):=
 match jR ops env p.1 with
 |some true=>gO P T A p.1 p.2 env h fun v h=>some (v,h)
 |some false=>some (.tuple [],h)
 |none=>none
theorem OK(bt:eT P T)(p:Oper×Option Nat)(os:List (Oper×Option Nat))(env:Env)(h:H)(k:Env→H→Option α):
  hN P T A N ops (p::os) env h k=(c1 P T A ops p env h).bind fun q=>p5 N p.1.dst q.1 env fun env=>hN P T A N ops os env q.2 k:=by
 obtain⟨o,at_⟩:=p
 simp only[hN,c1,jR]
 cases aQ:o.guard with
 |none=>
  simp only
  rw[IT bt]
 |some EF=>
  obtain⟨j,want⟩:=EF
  simp only
  cases bk:(ops[j]?).bind (·.dst)with
  |none=>rfl
  |some t=>
   simp only
   split
   ·rename_i g he
    have ad:env.set t (.bool g)=env:=by rw[←he];exact Env.oL env t
    simp only[he]
    cases g<;>cases want<;>simp only[cond_true,cond_false,Bool.not_true,Bool.not_false,BEq.rfl,Option.bind_some,beq_self_eq_true,ad,show(false==true)=false from rfl,show(true==false)=false from rfl]
    ·exact IT bt ..
    ·exact IT bt ..
   ·rename_i he
    simp only[he]
    rfl
   ·rename_i h1 h2
    have:(match env t with
     |.bool g=>some (g==want)
     |.tuple []=>some false
     |_=>none)=(none:Option Bool):=by
     split
     ·rename_i g he;exact absurd he (h1 g)
     ·rename_i he;exact absurd he h2
     ·rfl
    rw[this]
    rfl
theorem Ra{p:Oper×Option Nat}{env:Env}{d:Nat}{v:V}{h:H}(bF:d∉p.1.looksAt ops):c1 P T A ops p (env.set d v) h=c1 P T A ops p env h:=by
 unfold c1
 rw[Wg bF,W5 bF]
theorem Cg{p:Oper×Option Nat}(ao:cls T A p.1=.p)(env:Env):∃r:Option V,∀h,c1 P T A ops p env h=r.map fun v=>(v,h):=by
 obtain⟨o,at_⟩:=p
 simp only at ao
 have key:∃r:Option V,∀h,gO P T A o at_ env h (fun v h=>some (v,h))=r.map fun v=>(v,h):=by
  obtain⟨dst,op,type,pos,after,guard⟩:=o
  have vK:∀(r:Option V) (h:H),(r.bind fun v=>some (v,h))=r.map fun v=>(v,h):=fun r h=>by cases r<;>rfl
  have cZ:∀{q:Prop} [Decidable q] (r:Option V) (h:H),aJ q (r.map fun v=>(v,h))=(aJ q r).map fun v=>(v,h):=fun{q} _ r h=>by unfold aJ;split<;>rfl
  cases op<;>simp only[cls,reduceCtorEq]at ao<;>simp only[gO]
  case move x=>exact ⟨some (aR env x),fun h=>rfl⟩
  case assign x=>exact ⟨some (aR env x),fun h=>rfl⟩
  case box e x=>
   have aq:(A.wR.any fun t=>dst==some t)=true:=by
    cases aE:oU A dst with
    |false=>rw[aE]at ao;simp at ao
    |true=>exact aE
   refine⟨mY P e (aR env x) fun z=>some (.lp true z 0),fun h=>?_⟩
   simp only[aq,cond_true]
   rw[Option.map_eq_bind,Bs]
   rfl
  case load t x=>
   have aq:(A.DC.any fun t=>dst==some t)=true:=by
    cases aE:oP A dst with
    |false=>rw[aE]at ao;simp at ao
    |true=>exact aE
   simp only[aq,cond_true]
   split
   ·rename_i ty _
    refine⟨(ah ty H.empty (aR env x)).map ty.un,fun h=>?_⟩
    cases ah ty H.empty (aR env x)<;>rfl
   ·exact ⟨none,fun h=>rfl⟩
  case pick c a b=>
   split
   ·rename_i b p q _ _ _;exact ⟨some (.bool (cond b p q)),fun h=>rfl⟩
   ·rename_i b _ _;exact ⟨some (cond b (aR env a) (aR env ‹_›)),fun h=>by cases b<;>rfl⟩
   ·exact ⟨none,fun h=>rfl⟩
  case build t ps=>
   split
   ·rename_i z place _ _
    exact ⟨(oT place z (oM env ps)).map .agg,fun h=>by cases oT place z (oM env ps)<;>rfl⟩
   ·exact ⟨none,fun h=>rfl⟩
  case buildSlice t n ps=>
   have aq:(A.lits.any fun t=>dst==some t)=false:=by
    cases aE:oO A dst with
    |true=>rw[aE]at ao;simp at ao
    |false=>exact aE
   split
   ·rename_i e _
    split
    ·rename_i bo _
     refine⟨((if n*bo=0 then some []else (zeroCells P e).bind fun z=>aJ (z.length=bo) (some (eI z n))).bind fun iO=>
      (oT (fun i=>some (i*bo,bo)) iO (oM env ps)).bind fun cs=>aJ (n*bo≤2^20) (some (.slice (.lp true cs 0) n n false))),fun h=>?_⟩
     simp only[aq,cond_false]
     rw[Option.map_bind]
     congr 1;funext iO
     simp only[Function.comp,Option.map_bind]
     congr 1;funext cs
     simp only[Function.comp]
     rw[←cZ]
     rfl
    ·exact ⟨none,fun h=>rfl⟩
   ·exact ⟨none,fun h=>rfl⟩
  case nilCheck x=>exact ⟨aJ ((aR env x).cS=true) (some (aR env x)),fun h=>by rw[←cZ];rfl⟩
  case binOp op t x y ea=>exact ⟨uI P op t (aR env x) (aR env y) some,fun h=>by rw[Jp,vK]⟩
  case unOp op t x=>exact ⟨wQ op (aR env x) some,fun h=>by rw[JG,vK]⟩
  case convert s t x=>
   cases(P.underlying s).isNone
   ·simp only[cond_false]
    split
    ·rename_i kd _ n _ _;exact ⟨some (.int kd (kd.wrap n)),fun h=>rfl⟩
    ·rename_i s _ _
     split
     ·exact ⟨some (.str s),fun h=>rfl⟩
     ·exact ⟨none,fun h=>rfl⟩
    ·exact ⟨none,fun h=>rfl⟩
   ·exact ⟨none,fun h=>rfl⟩
  case makeFunc f first cs=>
   cases f<;>simp only
   case func f=>
    split
    ·exact ⟨some (.func f (cs.toList.map (aR env))),fun h=>rfl⟩
    ·exact ⟨none,fun h=>rfl⟩
   all_goals exact ⟨none,fun h=>rfl⟩
  case slice t x lo hi ju=>
   split
   ·split
    ·split
     ·exact ⟨_,fun h=>by rw[yf,vK]⟩
     ·exact ⟨none,fun h=>rfl⟩
    ·exact ⟨none,fun h=>rfl⟩
   ·split
    ·split
     ·exact ⟨_,fun h=>by rw[yf,vK,cZ]⟩
     ·exact ⟨none,fun h=>rfl⟩
    ·exact ⟨none,fun h=>rfl⟩
  case fieldAddr t x f=>
   split
   ·rename_i off pn _
    split
    ·exact ⟨aJ ((aR env x).bm=true) (some ((aR env x).add off)),fun h=>by rw[←cZ];rfl⟩
    ·exact ⟨none,fun h=>rfl⟩
   ·exact ⟨none,fun h=>rfl⟩
  case field t x f=>
   split
   ·rename_i off pn cs _ _;exact ⟨uz P pn cs off,fun h=>by rw[vK]⟩
   ·exact ⟨none,fun h=>rfl⟩
  case indexAddr t x y=>
   split
   ·split
    ·rename_i v l c gZ kd i _ _
     split
     ·rename_i size _;exact ⟨aJ (0≤i∧i<l) (some (v.add (i.toNat*size))),fun h=>by rw[←cZ];rfl⟩
     ·exact ⟨none,fun h=>rfl⟩
    ·exact ⟨none,fun h=>rfl⟩
   ·split
    ·rename_i n e kd i _ _
     split
     ·rename_i size _;exact ⟨aJ ((aR env x).bm=true∧0≤i∧i<n) (some ((aR env x).add (i.toNat*size))),fun h=>by rw[←cZ];rfl⟩
     ·exact ⟨none,fun h=>rfl⟩
    ·exact ⟨none,fun h=>rfl⟩
  case index t x y=>
   split
   ·rename_i cs kd i _ _
    split
    ·rename_i n e _
     split
     ·rename_i size _;exact ⟨aJ (0≤i∧i<n) (uz P e cs (i.toNat*size)),fun h=>by rw[vK,cZ]⟩
     ·exact ⟨none,fun h=>rfl⟩
    ·exact ⟨none,fun h=>rfl⟩
   ·rename_i s kd i _ _
    split
    ·exact ⟨aJ (0≤i∧i<s.size) (some (.int .u8 (((s.data[i.toNat]?).map UInt8.toNat).getD 0:Nat))),fun h=>by rw[←cZ];rfl⟩
    ·exact ⟨none,fun h=>rfl⟩
   ·exact ⟨none,fun h=>rfl⟩
  case extract x i=>
   split
   ·rename_i vs _;exact ⟨vs[i]?,fun h=>by rw[vK]⟩
   ·exact ⟨none,fun h=>rfl⟩
  case call c=>
   obtain⟨callee,args,ts⟩:=c
   cases callee with
   |value f=>
    cases f with
    |func g=>cases j7:(T.st g).quiet<;>cases hX:(T.st g).mono<;>cases jm:(T.st g).free<;>cases hz:(T.st g).loc<;>simp[j7,hX,jm,hz]at ao
    |_=>revert ao;(try dsimp only);cases(A.ix.any fun t=>dst==some t)<;>cases(A.mL.any fun t=>dst==some t)<;>simp
   |invoke _ _=>simp at ao
   |builtin b=>
    cases b
    case append=>revert ao;cases(A.apps.any fun t=>dst==some t)<;>simp
    case len=>
     have fQ:(A.wS.any fun t=>dst==some t)=false:=by
      cases aE:m4 A dst with
      |true=>rw[aE]at ao;simp at ao
      |false=>exact aE
     generalize args.toList.map (aR env)=l
     simp only[fQ,cond_false,lF]
     repeat' split
     all_goals first |exact ⟨none,fun h=>rfl⟩|exact ⟨some _,fun h=>rfl⟩|(exfalso;simp_all;done)
    all_goals simp only[reduceCtorEq]at ao
    all_goals
     generalize args.toList.map (aR env)=l
     simp only[lF]
     repeat' split
     all_goals first |exact ⟨none,fun h=>rfl⟩|exact ⟨some _,fun h=>rfl⟩|(exfalso;simp_all;done)
 unfold c1
 obtain⟨r,af⟩:=key
 cases jR ops env o with
 |none=>exact ⟨none,fun h=>rfl⟩
 |some b=>
  cases b with
  |false=>exact ⟨some (.tuple []),fun h=>rfl⟩
  |true=>exact ⟨r,af⟩
theorem uA(bt:eT P T){p:Oper×Option Nat}(ao:cls T A p.1=.r∨cls T A p.1=.l∨cls T A p.1=.m)(env:Env)(h:H):∀q,c1 P T A ops p env h=some q→q.2=h:=by
 obtain⟨o,at_⟩:=p
 simp only at ao
 intro q aV
 unfold c1 at aV
 cases hw:jR ops env o with
 |none=>rw[hw]at aV;simp at aV
 |some b=>
  rw[hw]at aV
  cases b with
  |false=>simp at aV;rw[←aV]
  |true=>
   simp only at aV
   obtain⟨dst,op,type,pos,after,guard⟩:=o
   cases op<;>simp only[cls,reduceCtorEq,or_false,false_or,or_self]at ao<;>simp only[gO]at aV
   case load t x=>
    split at aV
    ·simp only[Option.bind_eq_some_iff,Option.some.injEq]at aV
     obtain⟨_,_,rfl⟩:=aV
     rfl
    ·cases aV
   case lookup t m x c=>
    split at aV
    ·split at aV
     ·obtain⟨_,aV⟩:=fe aV
      split at aV
      ·cases aV
      ·simp only[Option.bind_eq_some_iff,Option.some.injEq]at aV
       obtain⟨_,_,rfl⟩:=aV
       rfl
     ·cases aV
    ·split at aV
     ·simp only[Option.bind_eq_some_iff,Option.some.injEq]at aV
      obtain⟨_,_,_,_,_,_,_,_,rfl⟩:=aV
      rfl
     ·cases aV
   case box e x=>cases aq:oU A dst<;>rw[aq]at ao<;>simp at ao
   case buildSlice t n ps=>cases aq:oO A dst<;>rw[aq]at ao<;>simp at ao
   case call c=>
    obtain⟨callee,args,ts⟩:=c
    cases callee with
    |invoke _ _=>simp at ao
    |builtin b=>
     by_cases aE:b=.len
     ·subst aE
      cases fQ:(A.wS.any fun t=>dst==some t)with
      |false=>
       have:m4 A dst=false:=fQ
       rw[this]at ao
       simp at ao
      |true=>
       simp only[fQ,cond_true,vN]at aV
       split at aV
       ·split at aV
        ·simp only[Option.bind_eq_some_iff,Option.some.injEq]at aV
         obtain⟨_,_,rfl⟩:=aV
         rfl
        ·cases aV
       ·cases aV
     ·cases b<;>first |exact absurd rfl aE|(simp at ao;done)|(revert ao;cases(A.apps.any fun t=>dst==some t)<;>simp)
    |value f=>
     obtain⟨aV,DI,_⟩:=Jm aV
     obtain⟨g,cs,Aa,lZ⟩:∃g cs,aR env f=.func g cs∧((T.at f).fn g).quiet=true:=by
      cases f with
      |func g=>
       refine⟨g,[],rfl, ?_⟩
       show(T.st g).quiet=true
       cases aE:(T.st g).quiet<;>cases hm:(T.st g).mono<;>cases eg:(T.st g).free<;>cases hY:(T.st g).loc<;>simp[aE,hm,eg,hY]at ao⊢
      |_=>
       refine DI ?_
       cases aE:(A.ix.any fun t=>dst==some t)
       ·cases aK:(A.mL.any fun t=>dst==some t)<;>simp[aE,aK]at ao
       ·rfl
     obtain⟨kP,dw,r,ar,aU,Lb,aN⟩:=(Jl (bt.at _) aV).resolve_right (fun⟨id,_,_,e,_⟩=>by rw[Aa]at e;cases e)
     rw[Aa]at aU
     simp only[V.func.injEq]at aU
     obtain⟨rfl,rfl⟩:=aU
     have:=(((bt.at f).1 g _ h).2 r ar Lb).1 lZ
     have aN:=IS aN
     simp only[Option.some.injEq]at aN
     rw[←aN]
     exact this
theorem abc (bt:eT P T){p:Oper×Option Nat}(ao:cls T A p.1=.m)(env:Env){h:H}{i:Nat}(s:Slot)(ak:h.m i=.fresh):∀q,c1 P T A ops p env h=some q→c1 P T A ops p env (h.put i s)=some (q.1,q.2.put i s):=by
 obtain⟨o,at_⟩:=p
 simp only at ao
 intro q aV
 unfold c1 at aV⊢
 cases hw:jR ops env o with
 |none=>rw[hw]at aV;simp at aV
 |some b=>
  rw[hw]at aV
  cases b with
  |false=>simp at aV⊢;rw[←aV];exact ⟨rfl,rfl⟩
  |true=>
   simp only at aV⊢
   obtain⟨dst,op,type,pos,after,guard⟩:=o
   cases op<;>simp only[cls,reduceCtorEq]at ao<;>simp only[gO]at aV⊢
   case load t x=>cases aq:oP A dst<;>rw[aq]at ao<;>simp at ao
   case box e x=>cases aq:oU A dst<;>rw[aq]at ao<;>simp at ao
   case buildSlice t n ps=>cases aq:oO A dst<;>rw[aq]at ao<;>simp at ao
   case call c=>
    obtain⟨callee,args,ts⟩:=c
    cases callee with
    |invoke _ _=>simp at ao
    |builtin b=>cases b<;>first |(simp at ao;done)|(exfalso;revert ao;cases m4 A dst<;>simp<;>done)|(revert ao;cases(A.apps.any fun t=>dst==some t)<;>simp)
    |value f=>
     cases f with
     |func g=>
      have hX:(T.st g).quiet=true∧(T.st g).mono=true:=by
       cases aE:(T.st g).quiet<;>cases hm:(T.st g).mono<;>cases eg:(T.st g).free<;>cases hY:(T.st g).loc<;>simp[aE,hm,eg,hY]at ao⊢
      simp only[aR]at aV⊢
      have a6:∀{R:Type} (h:H) (k:V→H→Option R),m3 (A.ix.any fun t=>dst==some t) (K6 A dst (.func g)) (T.at (.func g)) (.func g []) (args.toList.map (aR env)) h k=(T.st g).fC (args.toList.map (aR env)) h k:=fun h k=>by
       have gG:∀{R:Type} (k:V→H→Option R),((T.at (.func g)).fn g).fC (args.toList.map (aR env)++[]) h k=(T.st g).fC (args.toList.map (aR env)) h k:=fun k=>by
        rw[List.append_nil];rfl
       cases(A.ix.any fun t=>dst==some t)with
       |false=>exact gG k
       |true=>
        show(bif ((T.at (.func g)).fn g).quiet then _ else _)=_
        rw[show((T.at (.func g)).fn g).quiet=true from hX.1]
        exact gG k
      rw[a6]at aV⊢
      obtain⟨⟨r,aM⟩,_⟩:=bt.1 g (args.toList.map (aR env)) h
      obtain⟨⟨fa,tm⟩,_⟩:=bt.1 g (args.toList.map (aR env)) (h.put i s)
      rw[aM]at aV
      simp only[Option.bind_eq_some_iff]at aV
      obtain⟨⟨v,ar⟩,af,aV⟩:=aV
      have h1:(T.st g).fC (args.toList.map (aR env)) h (fun v h=>some (v,h))=some (v,ar):=by rw[aM,af];rfl
      have h2:=(T.st g).Km hX.2 _ h i s v ar ak h1
      rw[tm]at h2⊢
      cases fa with
      |none=>simp at h2
      |some fa=>
       obtain⟨gJ,Ab⟩:=fa
       simp only[Option.bind_some,Option.some.injEq,Prod.mk.injEq]at h2⊢
       obtain⟨rfl,rfl⟩:=h2
       simp only at aV
       rw[vw]at aV⊢
       cases o6:q_ (A.CU.any fun t=>dst==some t) P type gJ some with
       |none=>rw[o6]at aV;simp at aV
       |some z=>
        rw[o6]at aV
        simp only[Option.bind_some,Option.some.injEq]at aV⊢
        rw[←aV]
     |_=>revert ao;(try dsimp only);cases(A.ix.any fun t=>dst==some t)<;>cases(A.mL.any fun t=>dst==some t)<;>simp
theorem y8(bt:eT P T){p:Oper×Option Nat}(ao:cls T A p.1=.y)(env:Env){h:H}:∀q,c1 P T A ops p env h=some q→h.next≤q.2.next∧(∀j,h.m j≠.fresh→q.2.m j=h.m j)∧∀(i:Nat) (s:Slot),i<h.next→h.m i=.fresh→q.2.m i=.fresh∧c1 P T A ops p env (h.put i s)=some (q.1,q.2.put i s):=by
 obtain⟨o,at_⟩:=p
 simp only at ao
 intro q aV
 unfold c1 at aV⊢
 cases hw:jR ops env o with
 |none=>rw[hw]at aV;simp at aV
 |some b=>
  rw[hw]at aV
  cases b with
  |false=>
   simp at aV
   subst aV
   exact ⟨Nat.le_refl _,fun _ _=>rfl,fun i s _ ak=>⟨ak,by simp⟩⟩
  |true=>
   simp only at aV⊢
   obtain⟨dst,op,type,pos,after,guard⟩:=o
   cases op<;>simp only[cls,reduceCtorEq]at ao<;>simp only[gO]at aV⊢
   case load t x=>cases aq:oP A dst<;>rw[aq]at ao<;>simp at ao
   case box e x=>cases aq:oU A dst<;>rw[aq]at ao<;>simp at ao
   case buildSlice t n ps=>cases aq:oO A dst<;>rw[aq]at ao<;>simp at ao
   case call c=>
    obtain⟨callee,args,ts⟩:=c
    cases callee with
    |invoke _ _=>simp at ao
    |builtin b=>cases b<;>first |(simp at ao;done)|(exfalso;revert ao;cases m4 A dst<;>simp<;>done)|(revert ao;cases(A.apps.any fun t=>dst==some t)<;>simp)
    |value f=>
     obtain⟨DJ,DI,Tt⟩:=Jm aV
     obtain⟨g,cs,Aa,eg,jm⟩:∃g cs,aR env f=.func g cs∧((T.at f).fn g).free=true∧((A.ix.any fun t=>dst==some t)=true→((T.at f).fn g).quiet=true):=by
      cases f with
      |func g=>
       refine⟨g,[],rfl, ?_,fun e=>?_⟩
       ·show(T.st g).free=true
        cases aE:(T.st g).quiet<;>cases hm:(T.st g).mono<;>cases eg:(T.st g).free<;>cases hY:(T.st g).loc<;>simp[aE,hm,eg,hY]at ao⊢
       ·obtain⟨kP,dw,aG,e2⟩:=DI e
        simp only[aR,V.func.injEq]at aG
        obtain⟨rfl,rfl⟩:=aG
        exact e2
      |_=>
       cases aE:(A.ix.any fun t=>dst==some t)
       ·cases aK:(A.mL.any fun t=>dst==some t)
        ·simp[aE,aK]at ao
        ·obtain⟨g,cs,aG,e2⟩:=Tt aE aK
         exact ⟨g,cs,aG,e2,fun e=>by cases e⟩
       ·simp[aE]at ao
     obtain⟨kP,dw,v,ar,aU,Lb,aN⟩:=(Jl (bt.at _) DJ).resolve_right (fun⟨id,_,_,e,_⟩=>by rw[Aa]at e;cases e)
     rw[Aa]at aU
     simp only[V.func.injEq]at aU
     obtain⟨rfl,rfl⟩:=aU
     obtain⟨aw,aW,aH⟩:=((T.at f).fn g).Kn eg _ h v ar Lb
     rw[vw]at aN
     cases o6:q_ (A.CU.any fun t=>dst==some t) P type v some with
     |none=>rw[o6]at aN;simp at aN
     |some z=>
      rw[o6]at aN
      simp only[Option.bind_some,Option.some.injEq]at aN
      subst aN
      refine⟨aw,aW,fun i s bn ak=>⟨(aH i s bn ak).1, ?_⟩⟩
      simp only
      rw[Aa,WM (bt.at _) jm (fun _=>eg) (aH i s bn ak).2,vw,o6]
      rfl
theorem vT{o:Oper}{i:Nat}(ao:cls T A o=.n)(env:Env):∃r:Option (V×Option Slot),∀h,c1 P T A ops (o,some i) env h=r.map fun v=>(v.1,match v.2 with|some s=>h.put i s|none=>h):=by
 have key:∃r:Option (V×Slot),∀h,gO P T A o (some i) env h (fun v h=>some (v,h))=r.map fun v=>(v.1,h.put i v.2):=by
  obtain⟨dst,op,type,pos,after,guard⟩:=o
  cases op<;>simp only[cls,reduceCtorEq]at ao<;>simp only[gO,newAt]
  case load t x=>cases aq:oP A dst<;>rw[aq]at ao<;>simp at ao
  case alloc e=>exact ⟨(zeroCells P e).map fun z=>(.aa i z.length 0,.own z z.length),fun h=>by cases zeroCells P e<;>rfl⟩
  case box e x=>
   have aq:(A.wR.any fun t=>dst==some t)=false:=by
    cases aE:oU A dst with
    |true=>rw[aE]at ao;simp at ao
    |false=>exact aE
   refine⟨mY P e (aR env x) fun z=>some (.aa i z.length 0,.own z z.length),fun h=>?_⟩
   simp only[aq,cond_false]
   rw[Option.map_eq_bind,Bs]
   rfl
  case buildSlice t n ps=>
   have aq:(A.lits.any fun t=>dst==some t)=true:=by
    cases aE:oO A dst with
    |false=>rw[aE]at ao;simp at ao
    |true=>exact aE
   split
   ·rename_i e _
    split
    ·rename_i bo _
     refine⟨((if n*bo=0 then some []else (zeroCells P e).bind fun z=>aJ (z.length=bo) (some (eI z n))).bind fun iO=>
      (oT (fun i=>some (i*bo,bo)) iO (oM env ps)).bind fun cs=>aJ (n*bo≤2^20) (some (.slice (.aa i cs.length 0) n n false,.own cs bo))),fun h=>?_⟩
     simp only[aq,cond_true]
     rw[Option.map_bind]
     congr 1;funext iO
     simp only[Function.comp,Option.map_bind]
     congr 1;funext cs
     simp only[Function.comp,aJ]
     split<;>rfl
    ·exact ⟨none,fun h=>rfl⟩
   ·exact ⟨none,fun h=>rfl⟩
  case makeSlice t l c=>
   split
   ·rename_i e l c _ _ _
    split
    ·rename_i z bytes bo _ _ _
     refine⟨aJ (0≤l∧l≤c∧c≤ei∧bytes≤2^11∧z.length=bo) (some (.slice (.aa i (c.toNat*bo) 0) l.toNat c.toNat true,.own (eI z c.toNat) bo)),fun h=>?_⟩
     simp only[aJ]
     split<;>rfl
    ·exact ⟨none,fun h=>rfl⟩
   ·exact ⟨none,fun h=>rfl⟩
  case call c=>
   obtain⟨callee,args,ts⟩:=c
   cases callee with
   |value f=>
    cases f with
    |func g=>cases j7:(T.st g).quiet<;>cases hX:(T.st g).mono<;>cases jm:(T.st g).free<;>cases hz:(T.st g).loc<;>simp[j7,hX,jm,hz]at ao
    |_=>revert ao;(try dsimp only);cases(A.ix.any fun t=>dst==some t)<;>cases(A.mL.any fun t=>dst==some t)<;>simp
   |invoke _ _=>simp at ao
   |builtin b=>cases b<;>first |(simp at ao;done)|(exfalso;revert ao;cases m4 A dst<;>simp<;>done)|(revert ao;cases(A.apps.any fun t=>dst==some t)<;>simp)
 unfold c1
 obtain⟨r,af⟩:=key
 cases jR ops env o with
 |none=>exact ⟨none,fun h=>rfl⟩
 |some b=>
  cases b with
  |false=>exact ⟨some (.tuple [],none),fun h=>rfl⟩
  |true=>exact ⟨r.map fun v=>(v.1,some v.2),fun h=>by rw[af];cases r<;>rfl⟩
def l0:Option (Nat×Slot)→H→H
 |none,h=>h
 |some (i,s),h=>h.put i s
structure Loc (P:Program)(T:Table)(A:fw)(ops:Array Oper)(p:Oper×Option Nat)(env:Env)(h:H)(v:V)(ar:H)(up:Option (Nat×Slot)):Prop where
 here:ar=l0 up h
 at_:∀i s,up=some (i,s)→∃g o,addrOf p.1 p.2 env=.aa i g o
 all:∀cG:H,(∀id g o,addrOf p.1 p.2 env=.aa id g o→cG.m id=h.m id)→c1 P T A ops p env cG=some (v,l0 up cG)
theorem Jq{p:Oper×Option Nat}{env:Env}{h ar:H}{v:V}(hw:jR ops env p.1=some false)(he:c1 P T A ops p env h=some (v,ar)):Loc P T A ops p env h v ar none:=by
 unfold c1 at he
 rw[hw]at he
 simp only[Option.some.injEq,Prod.mk.injEq]at he
 obtain⟨rfl,rfl⟩:=he
 refine⟨rfl,(by simp),fun cG _=>?_⟩
 unfold c1
 rw[hw]
 rfl
theorem H.W6{h cG:H}{a:V}(hh:∀id g o,a=.aa id g o→cG.m id=h.m id):cG.from a=h.from a:=by
 cases a<;>try rfl
 rename_i id g o
 simp only[H.from,hh id g o rfl]
theorem Ch{p:Oper×Option Nat}(ao:cls T A p.1=.l){env:Env}{h ar:H}{v:V}(he:c1 P T A ops p env h=some (v,ar)):Loc P T A ops p env h v ar none:=by
 cases hw:jR ops env p.1 with
 |none=>unfold c1 at he;rw[hw]at he;cases he
 |some b=>
  cases b with
  |false=>exact Jq hw he
  |true=>
   obtain⟨o,at_⟩:=p
   have DF:=he
   unfold c1 at he
   rw[hw]at he
   obtain⟨dst,op,type,pos,after,guard⟩:=o
   simp only at ao he hw
   cases op<;>simp only[cls,reduceCtorEq]at ao
   case box e x=>cases aq:oU A dst<;>rw[aq]at ao<;>simp at ao
   case buildSlice t n ps=>cases aq:oO A dst<;>rw[aq]at ao<;>simp at ao
   case call c=>
    obtain⟨callee,args,ts⟩:=c
    cases callee with
    |invoke _ _=>simp at ao
    |builtin b=>cases b<;>first |(simp at ao;done)|(exfalso;revert ao;cases m4 A dst<;>simp<;>done)|(revert ao;cases(A.apps.any fun t=>dst==some t)<;>simp)
    |value f=>
     cases f with
     |func g=>cases j7:(T.st g).quiet<;>cases hX:(T.st g).mono<;>cases jm:(T.st g).free<;>cases hz:(T.st g).loc<;>simp[j7,hX,jm,hz]at ao
     |_=>revert ao;(try dsimp only);cases(A.ix.any fun t=>dst==some t)<;>cases(A.mL.any fun t=>dst==some t)<;>simp
   case load t x=>
    have ga:(A.DC.any fun t=>dst==some t)=false:=by
     cases aE:oP A dst with
     |true=>rw[aE]at ao;simp at ao
     |false=>exact aE
    have key:∀cG:H,(∀id g o,aR env x=.aa id g o→cG.m id=h.m id)→∀ty,ah ty cG (aR env x)=ah ty h (aR env x):=fun cG hh ty=>by
     cases ty<;>simp only[ah,H.rd,H.fv,H.W6 hh]
    refine⟨?_,(by simp),fun cG hh=>?_⟩
    ·simp only[gO,ga,cond_false]at he
     split at he
     ·simp only[Option.bind_eq_some_iff,Option.some.injEq,Prod.mk.injEq]at he
      obtain⟨y,aK,rfl,rfl⟩:=he
      rfl
     ·cases he
    ·unfold c1
     rw[hw]
     simp only[gO,ga,cond_false]at he⊢
     split at he
     ·rw[key cG hh]
      simp only[Option.bind_eq_some_iff,Option.some.injEq,Prod.mk.injEq]at he
      obtain⟨y,aK,rfl,rfl⟩:=he
      rw[aK];rfl
     ·cases he
theorem XU{h cG:H}{a:V}{ty:ai}{y:ty.C}(hh:∀id g o,a=.aa id g o→h.m id≠.fresh→cG.m id=h.m id)(aK:ah ty h a=some y):ah ty cG a=some y:=by
 have key:cG.from a=h.from a∨h.from a=none:=by
  cases a<;>try exact .inl rfl
  rename_i id g o
  by_cases ak:h.m id=.fresh
  ·exact .inr (by simp[H.from,ak])
  ·exact .inl (by simp only[H.from,hh id g o rfl ak])
 rcases key with e |e
 ·cases ty<;>simp only[ah,H.rd,H.fv,e]at aK⊢<;>exact aK
 ·cases ty<;>simp[ah,H.rd,H.fv,e]at aK
theorem aaw{p:Oper×Option Nat}(ao:cls T A p.1=.l){env:Env}{h ar:H}{v:V}(he:c1 P T A ops p env h=some (v,ar)):∀cG:H,(∀id g o,addrOf p.1 p.2 env=.aa id g o→h.m id≠.fresh→cG.m id=h.m id)→c1 P T A ops p env cG=some (v,cG):=by
 cases hw:jR ops env p.1 with
 |none=>unfold c1 at he;rw[hw]at he;cases he
 |some b=>
  cases b with
  |false=>
   intro cG _
   unfold c1 at he⊢
   rw[hw]at he⊢
   simp only[Option.some.injEq,Prod.mk.injEq]at he⊢
   exact ⟨he.1,trivial⟩
  |true=>
   obtain⟨o,at_⟩:=p
   have DF:=he
   unfold c1 at he
   rw[hw]at he
   obtain⟨dst,op,type,pos,after,guard⟩:=o
   simp only at ao he hw
   cases op<;>simp only[cls,reduceCtorEq]at ao
   case box e x=>cases aq:oU A dst<;>rw[aq]at ao<;>simp at ao
   case buildSlice t n ps=>cases aq:oO A dst<;>rw[aq]at ao<;>simp at ao
   case call c=>
    obtain⟨callee,args,ts⟩:=c
    cases callee with
    |invoke _ _=>simp at ao
    |builtin b=>cases b<;>first |(simp at ao;done)|(exfalso;revert ao;cases m4 A dst<;>simp<;>done)|(revert ao;cases(A.apps.any fun t=>dst==some t)<;>simp)
    |value f=>
     cases f with
     |func g=>cases j7:(T.st g).quiet<;>cases hX:(T.st g).mono<;>cases jm:(T.st g).free<;>cases hz:(T.st g).loc<;>simp[j7,hX,jm,hz]at ao
     |_=>revert ao;(try dsimp only);cases(A.ix.any fun t=>dst==some t)<;>cases(A.mL.any fun t=>dst==some t)<;>simp
   case load t x=>
    have ga:(A.DC.any fun t=>dst==some t)=false:=by
     cases aE:oP A dst with
     |true=>rw[aE]at ao;simp at ao
     |false=>exact aE
    intro cG hh
    unfold c1
    rw[hw]
    simp only[gO,ga,cond_false]at he⊢
    split at he
    ·simp only[Option.bind_eq_some_iff,Option.some.injEq,Prod.mk.injEq]at he
     obtain⟨y,aK,rfl,rfl⟩:=he
     rw[XU (a:=aR env x) hh aK];rfl
    ·cases he
theorem Kq{o:Oper}{i:Nat}(ao:cls T A o=.n){env:Env}{h ar:H}{v:V}(he:c1 P T A ops (o,some i) env h=some (v,ar)):∃up,Loc P T A ops (o,some i) env h v ar up:=by
 obtain⟨r,af⟩:=vT (P:=P) (ops:=ops) (i:=i) ao env
 rw[af]at he
 cases r with
 |none=>simp at he
 |some r=>
  obtain⟨u,s⟩:=r
  simp only[Option.map_some,Option.some.injEq,Prod.mk.injEq]at he
  obtain⟨rfl,rfl⟩:=he
  have bD:addrOf o (some i) env=.aa i 0 0:=by
   obtain⟨dst,op,type,pos,after,guard⟩:=o
   cases op<;>simp only[cls,reduceCtorEq]at ao<;>try rfl
   case load t x=>cases aq:oP A dst<;>rw[aq]at ao<;>simp at ao
   rename_i c
   obtain⟨callee,args,ts⟩:=c
   cases callee with
   |invoke _ _=>simp at ao
   |builtin b=>cases b<;>first |(simp at ao;done)|(exfalso;revert ao;cases m4 A dst<;>simp<;>done)|(revert ao;cases(A.apps.any fun t=>dst==some t)<;>simp)
   |value f=>
    cases f with
    |func g=>cases j7:(T.st g).quiet<;>cases hX:(T.st g).mono<;>cases jm:(T.st g).free<;>cases hz:(T.st g).loc<;>simp[j7,hX,jm,hz]at ao
    |_=>revert ao;(try dsimp only);cases(A.ix.any fun t=>dst==some t)<;>cases(A.mL.any fun t=>dst==some t)<;>simp
  cases s with
  |none=>exact ⟨none,rfl,(by simp),fun cG _=>by rw[af];rfl⟩
  |some s=>
   refine⟨some (i,s),rfl,fun j bc e=>?_,fun cG _=>by rw[af];rfl⟩
   simp only[Option.some.injEq,Prod.mk.injEq]at e
   obtain⟨rfl,rfl⟩:=e
   exact ⟨0,0,bD⟩
theorem RK(bt:eT P T){p:Oper×Option Nat}(ao:cls T A p.1=.w){env:Env}{h ar:H}{v:V}(he:c1 P T A ops p env h=some (v,ar)):∃up,Loc P T A ops p env h v ar up∧∀i s,up=some (i,s)→h.m i≠.fresh:=by
 cases hw:jR ops env p.1 with
 |none=>unfold c1 at he;rw[hw]at he;cases he
 |some b=>
  cases b with
  |false=>exact ⟨none,Jq hw he,by simp⟩
  |true=>
   obtain⟨o,at_⟩:=p
   unfold c1 at he
   rw[hw]at he
   obtain⟨dst,op,type,pos,after,guard⟩:=o
   simp only at ao he hw
   cases op<;>simp only[cls,reduceCtorEq]at ao
   case box e x=>cases aq:oU A dst<;>rw[aq]at ao<;>simp at ao
   case load t x=>cases aq:oP A dst<;>rw[aq]at ao<;>simp at ao
   case buildSlice t n ps=>cases aq:oO A dst<;>rw[aq]at ao<;>simp at ao
   case call c=>
    obtain⟨callee,args,ts⟩:=c
    cases callee with
    |invoke _ _=>simp at ao
    |builtin b=>cases b<;>first |(simp at ao;done)|(exfalso;revert ao;cases m4 A dst<;>simp<;>done)|(revert ao;cases(A.apps.any fun t=>dst==some t)<;>simp)
    |value f=>
     cases f with
     |func g=>
      have hX:(T.st g).quiet=false∧(T.st g).loc=true:=by
       cases j7:(T.st g).quiet<;>cases hX:(T.st g).mono<;>cases jm:(T.st g).free<;>cases hz:(T.st g).loc<;>simp[j7,hX,jm,hz]at ao⊢
      have a6:∀{R:Type} (h:H) (k:V→H→Option R),m3 (A.ix.any fun t=>dst==some t) (K6 A dst (.func g)) (T.at (.func g)) (.func g []) (args.toList.map (aR env)) h k=bif (A.ix.any fun t=>dst==some t)then none else (T.st g).fC (args.toList.map (aR env)) h k:=fun h k=>by
       have gG:∀{R:Type} (k:V→H→Option R),((T.at (.func g)).fn g).fC (args.toList.map (aR env)++[]) h k=(T.st g).fC (args.toList.map (aR env)) h k:=fun k=>by
        rw[List.append_nil];rfl
       cases(A.ix.any fun t=>dst==some t)with
       |false=>exact gG k
       |true=>
        show(bif ((T.at (.func g)).fn g).quiet then _ else _)=_
        rw[show((T.at (.func g)).fn g).quiet=false from hX.1]
        rfl
      simp only[gO,aR]at he
      rw[a6]at he
      cases Mo:(A.ix.any fun t=>dst==some t)with
      |true=>rw[Mo]at he;cases he
      |false=>
       rw[Mo,cond_false]at he
       obtain⟨⟨r,aM⟩,_⟩:=bt.1 g (args.toList.map (aR env)) h
       rw[aM]at he
       simp only[Option.bind_eq_some_iff]at he
       obtain⟨⟨v0,h1⟩,af,he⟩:=he
       have dD:(T.st g).fC (args.toList.map (aR env)) h (fun v h=>some (v,h))=some (v0,h1):=by rw[aM,af];rfl
       obtain⟨id,ox,NC,EG,iO,t0,rest,s,bD,agk,rfl,ey⟩:=(T.st g).adE hX.2 _ h v0 h1 dD
       simp only at he
       rw[vw]at he
       cases o6:q_ (A.CU.any fun t=>dst==some t) P type v0 some with
       |none=>rw[o6]at he;simp at he
       |some z=>
        rw[o6]at he
        simp only[Option.bind_some,Option.some.injEq,Prod.mk.injEq]at he
        obtain⟨rfl,rfl⟩:=he
        have sq:addrOf {dst:=dst,op:=.call {callee:=.value (.func g),args:=args,argTypes:=ts},type:=type,pos:=pos,after:=after,guard:=guard} at_ env=.aa id ox NC:=by
         simp only[addrOf,bD,PF]
        refine⟨some (id,s),⟨rfl,fun i bc e=>?_,fun cG hh=>?_⟩,fun i bc e=>by cases e;exact agk⟩
        ·simp only[Option.some.injEq,Prod.mk.injEq]at e
         obtain⟨rfl,rfl⟩:=e
         exact ⟨ox,NC,sq⟩
        ·have h2:=ey cG (hh id ox NC sq)
         unfold c1
         rw[hw]
         simp only[gO,aR]
         rw[a6,Mo,cond_false]
         obtain⟨⟨fa,tm⟩,_⟩:=bt.1 g (args.toList.map (aR env)) cG
         rw[tm]at h2⊢
         cases fa with
         |none=>simp at h2
         |some fa=>
          obtain⟨gJ,Ab⟩:=fa
          simp only[Option.bind_some,Option.some.injEq,Prod.mk.injEq]at h2⊢
          obtain⟨rfl,rfl⟩:=h2
          rw[vw,o6]
          rfl
     |_=>revert ao;(try dsimp only);cases(A.ix.any fun t=>dst==some t)<;>cases(A.mL.any fun t=>dst==some t)<;>simp
   case store t x y=>
    have key:∃r:H→Option H,(∀cG,gO P T A {dst:=dst,op:=.store t x y,type:=type,pos:=pos,after:=after,guard:=guard} at_ env cG (fun v h=>some (v,h))=(r cG).map fun ar=>(.tuple [],ar))∧
      ∀h1 eV,r h1=some eV→∃id g off s,aR env x=.aa id g off∧h1.m id≠.fresh∧eV=h1.put id s∧∀cG:H,cG.m id=h1.m id→r cG=some (cG.put id s):=by
     have ZZ:∀(a:V) (vs:List V) (h1 eV:H),h1.aY a vs=some eV→∃id g off s,a=.aa id g off∧h1.m id≠.fresh∧eV=h1.put id s∧∀cG:H,cG.m id=h1.m id→cG.aY a vs=some (cG.put id s):=fun a vs h1 eV aV=>by
      cases a<;>simp only[H.aY,reduceCtorEq]at aV
      rename_i id gen off
      cases hm:h1.m id<;>rw[hm]at aV<;>simp only[reduceCtorEq]at aV
      rename_i cs e
      split at aV
      ·rename_i oX
       simp only[Option.some.injEq]at aV
       refine⟨id,gen,off,_,rfl,by rw[hm];simp,aV.symm,fun cG hh=>?_⟩
       simp only[H.aY,hh,hm]
       rw[if_pos oX]
      ·cases aV
     have w3:∀{γ:Type} (f:List V→Option γ),mY P t (aR env y) f=(mY P t (aR env y) some).bind f:=fun f=>by rw[Bs];rfl
     refine⟨fun cG=>(eL P t).bind fun n=>(mY P t (aR env y) some).bind fun vs=>if vs.length=n then cG.aY (aR env x) vs else none,fun cG=>?_,fun h1 eV aV=>?_⟩
     ·simp only[gO]
      cases eL P t with
      |none=>rfl
      |some n=>
       simp only[Option.bind_some]
       rw[w3,Option.map_bind]
       congr 1;funext vs
       simp only[Function.comp]
       split
       ·cases cG.aY (aR env x) vs<;>rfl
       ·rfl
     ·simp only[Option.bind_eq_some_iff]at aV
      obtain⟨n,aM,vs,agl,aV⟩:=aV
      split at aV
      ·rename_i aq
       obtain⟨id,g,off,s,ep,ND,aD,gd⟩:=ZZ _ vs h1 eV aV
       refine⟨id,g,off,s,ep,ND,aD,fun cG hh=>?_⟩
       simp only[aM,agl,Option.bind_some,aq,if_true,gd cG hh]
      ·cases aV
    obtain⟨r,aw,aH⟩:=key
    rw[aw]at he
    cases Mp:r h with
    |none=>rw[Mp]at he;simp at he
    |some h1=>
     rw[Mp]at he
     simp only[Option.map_some,Option.some.injEq,Prod.mk.injEq]at he
     obtain⟨rfl,rfl⟩:=he
     obtain⟨id,g,off,s,ep,ND,aD,gd⟩:=aH h h1 Mp
     refine⟨some (id,s),⟨aD,fun i bc e=>?_,fun cG hh=>?_⟩,fun i bc e=>by cases e;exact ND⟩
     ·simp only[Option.some.injEq,Prod.mk.injEq]at e
      obtain⟨rfl,rfl⟩:=e
      exact ⟨g,off,ep⟩
     ·unfold c1
      rw[hw]
      simp only
      rw[aw,gd cG (hh id g off ep)]
      rfl
theorem Gd (bt:eT P T){p:Oper×Option Nat}(ao:cls T A p.1=.w){env:Env}{h ar:H}{v:V}(he:c1 P T A ops p env h=some (v,ar)):∃up,Loc P T A ops p env h v ar up:=
 let ⟨up,aq,_⟩:=RK bt ao he
 ⟨up,aq⟩
theorem Wh{h ar:H}{i bo bytes n:Nat}{s sv:au}{cs:List V}(he:c7 h (some i) bo bytes s cs n=some (sv,ar)):
  ∃up,ar=l0 up h∧(∀j bc,up=some (j,bc)→(∃g o,s.a=.aa j g o)∨((∀id g o,s.a≠.aa id g o)∧j=i))∧
   ∀cG:H,(∀id g o,s.a=.aa id g o→cG.m id=h.m id)→c7 cG (some i) bo bytes s cs n=some (sv,l0 up cG):=by
 obtain⟨a,len,cap,tail⟩:=s
 unfold c7 iF at he⊢
 simp only at he⊢
 by_cases aM:n=0
 ·rw[if_pos aM]at he
  simp only[Option.some.injEq,Prod.mk.injEq]at he
  obtain⟨rfl,rfl⟩:=he
  exact ⟨none,rfl,(by simp),fun cG _=>by rw[if_pos aM];rfl⟩
 ·rw[if_neg aM]at he
  obtain⟨aQ,he⟩:=fe he
  have hA:∀{R:Type} (x:Option R),aJ (len+n≤ei∧bytes≤2^11) x=x:=fun x=>by unfold aJ;rw[if_pos aQ]
  have fresh:(∀id g o,a≠.aa id g o)→(if cap=0∧tail=false∧len=0 then newAt h (some i) cs bo (n*bo) (fun p ar=>(match(V.slice p n n true)with|.slice a l c t=>some ((⟨a,l,c,t⟩:au),ar)|_=>none))else if tail=false∧cap<len+n then(cellsOf h (.slice a len cap tail) bo).bind (fun o=>newAt h (some i) (o.2++cs) bo ((len+n)*bo) (fun p ar=>(match(V.slice p (len+n) (len+n) true)with|.slice a l c t=>some ((⟨a,l,c,t⟩:au),ar)|_=>none)))else none)=some (sv,ar)→
    ∃up,ar=l0 up h∧(∀j bc,up=some (j,bc)→j=i)∧∀cG:H,(if cap=0∧tail=false∧len=0 then newAt cG (some i) cs bo (n*bo) (fun p ar=>(match(V.slice p n n true)with|.slice a l c t=>some ((⟨a,l,c,t⟩:au),ar)|_=>none))else if tail=false∧cap<len+n then(cellsOf cG (.slice a len cap tail) bo).bind (fun o=>newAt cG (some i) (o.2++cs) bo ((len+n)*bo) (fun p ar=>(match(V.slice p (len+n) (len+n) true)with|.slice a l c t=>some ((⟨a,l,c,t⟩:au),ar)|_=>none)))else none)=some (sv,l0 up cG):=fun j8 aV=>by
   have dP:∀cG:H,cellsOf cG (.slice a len cap tail) bo=cellsOf h (.slice a len cap tail) bo:=fun cG=>by
    cases a<;>first |rfl |exact absurd rfl (j8 _ _ _)
   split at aV
   ·rename_i ao
    simp only[newAt,Option.some.injEq,Prod.mk.injEq]at aV
    obtain⟨rfl,rfl⟩:=aV
    exact ⟨some (i,.own cs bo),rfl,fun j bc e=>by cases e;rfl,fun cG=>by rw[if_pos ao];rfl⟩
   ·rename_i ao
    split at aV
    ·rename_i rG
     simp only[Option.bind_eq_some_iff]at aV
     obtain⟨o,a8,aV⟩:=aV
     simp only[newAt,Option.some.injEq,Prod.mk.injEq]at aV
     obtain⟨rfl,rfl⟩:=aV
     exact ⟨some (i,.own (o.2++cs) bo),rfl,fun j bc e=>by cases e;rfl,fun cG=>by rw[if_neg ao,if_pos rG,dP,a8];rfl⟩
    ·cases aV
  cases a with
  |aa id gen off=>
   simp only at he
   split at he
   ·rename_i eA e hm
    split at he
    ·simp at he
    ·rename_i jl
     split at he
     ·rename_i j0
      simp only[Option.bind_eq_some_iff]at he
      obtain⟨h1,hw,he⟩:=he
      simp only[Option.some.injEq,Prod.mk.injEq]at he
      obtain⟨rfl,rfl⟩:=he
      simp only[H.aY,hm]at hw
      split at hw
      ·rename_i oX
       simp only[Option.some.injEq]at hw
       subst hw
       refine⟨some (id,_),rfl,fun j bc e=>by cases e;exact .inl ⟨_,_,rfl⟩,fun cG hh=>?_⟩
       have iq:=hh id gen off rfl
       rw[hm]at iq
       rw[if_neg aM,hA]
       simp only[iq,if_neg jl,if_pos j0,H.aY,if_pos oX,Option.bind_some]
       rfl
      ·cases hw
     ·rename_i j0
      split at he
      ·rename_i abd
       simp only[Option.some.injEq,Prod.mk.injEq]at he
       obtain⟨rfl,rfl⟩:=he
       refine⟨some (id,_),rfl,fun j bc e=>by cases e;exact .inl ⟨_,_,rfl⟩,fun cG hh=>?_⟩
       have iq:=hh id gen off rfl
       rw[hm]at iq
       rw[if_neg aM,hA]
       simp only[iq,if_neg jl,if_neg j0,if_pos abd]
       rfl
      ·simp at he
   ·cases he
  |_=>
   obtain⟨up,aw,aH,aW⟩:=fresh (fun _ _ _ e=>by cases e) he
   refine⟨up,aw,fun j bc e=> .inr ⟨fun _ _ _ e=>(by cases e),aH j bc e⟩,fun cG _=>?_⟩
   rw[if_neg aM,hA]
   exact aW cG
theorem Ge{o:Oper}{i:Nat}(ao:cls T A o=.g){env:Env}{h ar:H}{v:V}(he:c1 P T A ops (o,some i) env h=some (v,ar))(rI:∀cs,addrOf o (some i) env≠.agg cs):∃up,Loc P T A ops (o,some i) env h v ar up:=by
 cases hw:jR ops env o with
 |none=>unfold c1 at he;rw[hw]at he;cases he
 |some b=>
  cases b with
  |false=>exact ⟨none,Jq hw he⟩
  |true=>
   unfold c1 at he
   rw[hw]at he
   obtain⟨dst,op,type,pos,after,guard⟩:=o
   simp only at ao he hw
   cases op<;>simp only[cls,reduceCtorEq]at ao
   case box e x=>cases aq:oU A dst<;>rw[aq]at ao<;>simp at ao
   case load t x=>cases aq:oP A dst<;>rw[aq]at ao<;>simp at ao
   case buildSlice t n ps=>cases aq:oO A dst<;>rw[aq]at ao<;>simp at ao
   case call c=>
    obtain⟨callee,args,ts⟩:=c
    cases callee with
    |invoke _ _=>simp at ao
    |value f=>
     cases f with
     |func g=>cases j7:(T.st g).quiet<;>cases hX:(T.st g).mono<;>cases jm:(T.st g).free<;>cases hz:(T.st g).loc<;>simp[j7,hX,jm,hz]at ao
     |_=>revert ao;(try dsimp only);cases(A.ix.any fun t=>dst==some t)<;>cases(A.mL.any fun t=>dst==some t)<;>simp
    |builtin b=>
     cases b
     case append=>
      have y7:∃s x,args.toList.map (aR env)=[s,x]:=by
       simp only[addrOf]at rI
       match aq:args.toList.map (aR env)with
       |[s,x]=>exact ⟨s,x,rfl⟩
       |[]=>rw[aq]at rI;exact absurd rfl (rI [])
       |[_]=>rw[aq]at rI;exact absurd rfl (rI [])
       |_::_::_::_=>rw[aq]at rI;exact absurd rfl (rI [])
      obtain⟨s,x,aq⟩:=y7
      have sq:addrOf {dst:=dst,op:=.call {callee:=.builtin .append,args:=args,argTypes:=ts},type:=type,pos:=pos,after:=after,guard:=guard} (some i) env=FO s x (some i):=by
       simp only[addrOf,aq]
      rw[sq]at rI
      have hx:∃f cs off len c t,x=.slice (.lp f cs off) len c t:=by
       cases x with
       |slice a len c t=>
        cases a with
        |lp f cs off=>exact ⟨f,cs,off,len,c,t,rfl⟩
        |_=>exact absurd rfl (rI [])
       |_=>exact absurd rfl (rI [])
      obtain⟨f,xs,off,len,EB,t,rfl⟩:=hx
      have rf:∀(EH cG:H) u z b bo,se P u z b EH (.slice (.lp f xs off) len EB t) bo=se P u z b cG (.slice (.lp f xs off) len EB t) bo:=fun _ _ u _ _ _=>by
       unfold se
       split
       ·rfl
       ·rfl
      have key:∀EH:H,gO P T A {dst:=dst,op:=.call {callee:=.builtin .append,args:=args,argTypes:=ts},type:=type,pos:=pos,after:=after,guard:=guard} (some i) env EH (fun v h=>some (v,h))=lF P .append ts (some i) [s,.slice (.lp f xs off) len EB t] EH (fun v h=>some (v,h)):=fun EH=>by
       simp only[gO,aq]
      rw[key]at he
      simp only[lF]at he
      split at he
      ·rename_i t1 t2 agm jH
       split at he
       ·rename_i aG Mk
        split at he
        ·rename_i bo bytes z eG gq agn
         split at he
         ·rename_i o5
          split at he
          ·rename_i a l akq gZ
           simp only[Option.bind_eq_some_iff,Option.some.injEq,Prod.mk.injEq]at he
           obtain⟨c,rG,⟨sv,h1⟩,mC,rfl,rfl⟩:=he
           obtain⟨up,aw,aH,aW⟩:=Wh mC
           refine⟨up,aw,fun j bc e=>?_,fun cG hh=>?_⟩
           ·simp only[sq]
            rcases aH j bc e with⟨g,o,bD⟩|⟨j8,rfl⟩
            ·simp only at bD
             subst bD
             exact ⟨g,o,rfl⟩
            ·refine⟨0,0, ?_⟩
             cases a
             case aa id g o=>exact absurd rfl (j8 id g o)
             all_goals rfl
           ·unfold c1
            rw[hw]
            simp only
            rw[key]
            simp only[lF,agm,jH,Mk,eG,gq,agn,if_pos o5]
            rw[rf cG h,rG]
            simp only[Option.bind_some]
            rw[aW cG (fun id g o bD=>hh id g o (by
             simp only at bD
             subst bD
             simp only[sq]
             rfl))]
            rfl
          ·cases he
         ·cases he
        ·cases he
       ·cases he
      ·cases he
     all_goals first |(simp at ao;done)|(revert ao;cases m4 A dst<;>simp)
theorem Y1{x y:Oper×Option Nat}{env:Env}{h h1 h2:H}{u v:V}{ux rV:Option (Nat×Slot)}(hx:Loc P T A ops x env h u h1 ux)(aK:Loc P T A ops y env h1 v h2 rV)
  (bD:fg (addrOf x.1 x.2 env) (addrOf y.1 y.2 env)=true):∃eV,c1 P T A ops y env h=some (v,eV)∧c1 P T A ops x env eV=some (u,h2):=by
 have bS:∀i g o j kP dL,addrOf x.1 x.2 env=.aa i g o→addrOf y.1 y.2 env=.aa j kP dL→i≠j:=fun i g o j kP dL aG e2=>by
  rw[aG,e2]at bD
  intro e
  subst e
  simp[fg]at bD
 refine⟨l0 rV h,aK.all h fun id g o e=>?_, ?_⟩
 ·rw[hx.here]
  cases ux with
  |none=>rfl
  |some p=>
   obtain⟨i,s⟩:=p
   obtain⟨kP,dL,dn⟩:=hx.at_ i s rfl
   have:=bS i kP dL id g o dn e
   simp[l0,H.put,c8 (Ne.symm this)]
 ·rw[hx.all (l0 rV h) fun id g o e=>?_,aK.here,hx.here]
  ·congr 2
   cases ux with
   |none=>rfl
   |some p=>
    obtain⟨i,s⟩:=p
    cases rV with
    |none=>rfl
    |some q=>
     obtain⟨j,bc⟩:=q
     obtain⟨bu,nr,aG⟩:=hx.at_ i s rfl
     obtain⟨bs,mc,e2⟩:=aK.at_ j bc rfl
     have iS:=bS i bu nr j bs mc aG e2
     simp only[l0,H.put]
     congr 1
     funext n
     by_cases h1:n=i
     ·subst h1;simp[c8 iS]
     ·by_cases h2:n=j
      ·subst h2;simp[c8 (Ne.symm iS)]
      ·simp[c8 h1,c8 h2]
  ·cases rV with
   |none=>rfl
   |some p=>
    obtain⟨i,s⟩:=p
    obtain⟨kP,dL,dn⟩:=aK.at_ i s rfl
    have:=bS id g o i kP dL e dn
    simp[l0,H.put,c8 this]
end swap
end Go.Proofs.YtlphgijokknjhaaGreat.Ev
namespace Go.Proofs.YtlphgijokknjhaaGreat.Ev
open Go Go.RowKit
def Marks(base:Nat)(lo:Nat→Prop)(ρ:Ren)(ds:List Deferred):Prop:=
 (∀D,lo D→ρ.eQ D)∧∃mM:List Nat,ds=mM.map (fun D=>{target:=.collected D,args:= #[]})∧mM.Nodup∧∀D∈mM,base≤D∧ρ.eQ D∧¬lo D
theorem Marks.mono{base:Nat}{lo:Nat→Prop}{ρ a7:Ren}{ds:List Deferred}(h:Marks base lo ρ ds)(aq:ρ.le a7):Marks base lo a7 ds:=
 let ⟨aE,mM,e,aM,bF⟩:=h
 ⟨fun D cP=>aq.2.2.1 D (aE D cP),mM,e,aM,fun D cP=>⟨(bF D cP).1,aq.2.2.1 D (bF D cP).2.1,(bF D cP).2.2⟩⟩
structure me (P:Program)(T:Table)(base:Nat)(lo:Nat→Prop)(N:Nat)(ρ:Ren)(env:Env)(h:H)(a:Act)(w:World):Prop where
 rel:Rel base ρ h w
 env:du ρ env a
 size:a.tmps.size=N
 j9:ob P base ρ T.dg.l8
 defers:Marks base lo ρ a.defers
section regions
variable{P:Program}{T:Table}{A:fw}{N base:Nat}{lo:Nat→Prop}{ops:Array Oper}{α:Type}{ro:Option Nat}
theorem W7{ρ:Ren}{env:Env}{a:Act}(he:du ρ env a){o:Oper}{b:Bool}(hw:jR ops env o=some b):Region.wanted o (yielded ops a.tmps)=b:=by
 unfold jR at hw
 unfold Region.wanted
 cases aQ:o.guard with
 |none=>rw[aQ]at hw;simpa using hw
 |some EF=>
  obtain⟨j,want⟩:=EF
  rw[aQ]at hw
  simp only at hw⊢
  unfold yielded
  cases bk:(ops[j]?).bind (·.dst)with
  |none=>rw[bk]at hw;simp at hw
  |some t=>
   rw[bk]at hw
   simp only[Option.bind_some]at hw⊢
   have af:=he t
   split at hw
   ·rename_i g aU
    rw[aU,hk]at af
    simp only[Option.some.injEq]at hw
    have:a.tmps[t]? =some (.bool g):=by
     rw[Array.getD_eq_getD_getElem?]at af
     cases hx:a.tmps[t]? with
     |none=>rw[hx]at af;simp[undef]at af
     |some x=>rw[hx]at af;simp at af;rw[af]
    rw[this,←hw]
    cases g<;>cases want<;>rfl
   ·rename_i aU
    rw[aU]at af
    simp only[R]at af
    obtain⟨us,hu,aq⟩:=af
    have:us=[]:=by simpa[cm]using aq
    subst this
    simp only[Option.some.injEq]at hw
    subst hw
    rw[Array.getD_eq_getD_getElem?]at hu
    cases hx:a.tmps[t]? with
    |none=>rfl
    |some x=>rw[hx]at hu;simp at hu;subst hu;rfl
   ·cases hw
theorem du.put{ρ:Ren}{env:Env}{a:Act}(he:du ρ env a){d:Nat}{v:V}{val:Value}(bF:d<a.tmps.size)(aU:R ρ v val):du ρ (env.set d v) (a.put (some d) val):=by
 intro t
 simp only[Env.set,Act.put]
 by_cases bk:t=d
 ·subst bk
  simpa[bF]using aU
 ·have:=he t
  simp only[c8 bk,cond_false]
  simpa[Array.getElem?_setIfInBounds_ne (Ne.symm bk)]using this
theorem PW{dst:Option Tmp}{v:V}{env:Env}{k:Env→Option α}{res:α}(h:p5 N dst v env k=some res):
  ∃bz,k bz=some res∧((dst=none∧bz=env)∨∃d,dst=some d∧d<N∧bz=env.set d v):=by
 unfold p5 at h
 split at h
 ·exact ⟨env,h,.inl ⟨rfl,rfl⟩⟩
 ·rename_i d
  cases aE:Nat.blt d N with
  |false=>rw[aE]at h;simp at h
  |true=>rw[aE]at h;exact ⟨_,h,.inr ⟨d,rfl,by simpa using aE,rfl⟩⟩
theorem Z0{dst:Option Tmp}{v:V}{env bz:Env}{k:Env→Option α}(h:(dst=none∧bz=env)∨∃d,dst=some d∧d<N∧bz=env.set d v):p5 N dst v env k=k bz:=by
 rcases h with⟨rfl,rfl⟩|⟨d,rfl,bF,rfl⟩
 ·rfl
 ·have aE:Nat.blt d N=true:=by simpa using bF
  simp only[p5,aE,cond_true]
theorem Sk(bt:eT P T){p:Oper×Option Nat}{ρ:Ren}{env:Env}{h:H}{a:Act}{w:World}{k:Env→H→Option α}{res:α}(a6:me P T base lo N ρ env h a w)
  (gG:∀i,p.2=some i→h.m i=.fresh∧i<h.next)
  (ad:((c1 P T A ops p env h).bind fun q=>p5 N p.1.dst q.1 env fun env=>k env q.2)=some res){K:Act→World→Prop}{Q:Exit→Act→World→Prop}
  (aN:∀a7 bz ar cb ay,ρ.le a7→me P T base lo N a7 bz ar cb ay→Below base w ay→(∀t,p.1.dst≠some t→bz t=env t)→(∃v,c1 P T A ops p env h=some (v,ar))→k bz ar=some res→K cb ay):
  if Region.wanted p.1 (yielded ops a.tmps)then p.1.wpIn (iW ro) 0 P a w K Q else K (a.put p.1.dst undef) w:=by
 simp only[Option.bind_eq_some_iff]at ad
 obtain⟨⟨v,ar⟩,he,ad⟩:=ad
 obtain⟨bz,ad,j1⟩:=PW ad
 have fin:∀a7 val ay,ρ.le a7→Rel base a7 ar ay→Below base w ay→R a7 v val→K (a.put p.1.dst val) ay:=fun a7 val ay bu bs b6 cd=>by
  refine aN a7 bz ar _ ay bu ?_ b6 ?_ ⟨v,he⟩ ad
  ·rcases j1 with⟨bF,rfl⟩|⟨d,bF,bn,rfl⟩
   ·rw[bF];exact ⟨bs,a6.env.mono bu,a6.size,a6.j9.mono bu,a6.defers.mono bu⟩
   ·rw[bF];exact ⟨bs,(a6.env.mono bu).put (by rw[a6.size];exact bn) cd,by simp[Act.put,a6.size],a6.j9.mono bu,a6.defers.mono bu⟩
  ·intro t bk
   rcases j1 with⟨bF,rfl⟩|⟨d,bF,bn,rfl⟩
   ·rfl
   ·have:t≠d:=fun e=>bk (by rw[bF,e])
    simp[Env.set,c8 this]
 have fP:=he
 unfold c1 at fP
 cases hw:jR ops env p.1 with
 |none=>rw[hw]at fP;simp at fP
 |some b=>
  rw[W7 a6.env hw]
  rw[hw]at fP
  cases b with
  |false=>
   simp only[Option.some.injEq,Prod.mk.injEq]at fP
   obtain⟨rfl,rfl⟩:=fP
   simp only[Bool.false_eq_true,if_false]
   exact fin ρ _ w (Ren.le.refl _) a6.rel (Below.refl _ _) ur
  |true=>
   simp only[if_true]
   simp only at fP
   refine RF (fun c ao=>by unfold gO at fP;rw[ao]at fP;simp at fP) (VT bt a6.j9 a6.rel a6.env gG fP fun a7 gJ h2 val ay bu bs b6 cd cp=>?_)
   simp only[Option.some.injEq,Prod.mk.injEq]at cp
   obtain⟨rfl,rfl⟩:=cp
   exact fin a7 val ay bu bs b6 cd
theorem vF(bt:eT P T){ρ₀:Ren}{env₀:Env}{w₀:World}{k:Env→H→Option α}{res:α}{Q:Exit→Act→World→Prop}
  (aN:∀a7 bz ar cb ay,ρ₀.le a7→me P T base lo N a7 bz ar cb ay→Below base w₀ ay→(∀t,t∉t_ ops.toList→bz t=env₀ t)→k bz ar=some res→Q .normal cb ay):
  ∀(l:List Oper) (j:Nat),ops.toList.drop j=l→∀ρ env h a w,ρ₀.le ρ→me P T base lo N ρ env h a w→Below base w₀ w→(∀t,t∉t_ ops.toList→env t=env₀ t)→
   hN P T A N ops (l.map fun o=>(o,none)) env h k=some res→wpOpsIn (iW ro) 0 P ops Q (List.range' j l.length) a w
 |[],j,aq,ρ,env,h,a,w,bu,bs,b6,cd,ad=>aN ρ env h a w bu bs b6 cd ad
 |o::l,j,aq,ρ,env,h,a,w,bu,bs,b6,cd,ad=>by
  have a8:ops[j]? =some o:=by
   have:(ops.toList.drop j)[0]? =some o:=by rw[aq];rfl
   simpa using this
  have e6:o∈ops.toList:=by
   have:o∈ops.toList.drop j:=by rw[aq];simp
   exact List.mem_of_mem_drop this
  rw[List.map_cons,OK bt]at ad
  have:=Sk (ro:=ro) (K:=wpOpsIn (iW ro) 0 P ops Q (List.range' (j+1) l.length)) (Q:=Q) bt (p:=(o,none)) bs (fun i hi=>by cases hi) ad (fun a7 bz ar cb ay aw aH aW bq _ bU=>
   vF bt aN l (j+1) (by rw[←List.tail_drop,aq];rfl) a7 bz ar cb ay (bu.trans aw) aH (b6.trans aW) (fun t bk=>by
    rw[bq t (fun bF=>bk (List.mem_filterMap.2 ⟨o,e6,bF⟩)),cd t bk]) bU)
  simp only[List.length_cons,List.range'_succ,wpOpsIn,a8]
  simp only at this
  split
  ·rename_i hw;rw[if_pos hw]at this;exact this
  ·rename_i hw;rw[if_neg hw]at this;exact ⟨fun _ _=>trivial,this⟩
theorem H.put_comm(h:H){i j:Nat}(bS:i≠j)(s t:Slot):(h.put i s).put j t=(h.put j t).put i s:=by
 simp only[H.put]
 congr 1
 funext n
 by_cases hi:n=i
 ·subst hi;simp[c8 bS]
 ·by_cases aL:n=j
  ·subst aL;simp[c8 (Ne.symm bS)]
  ·simp[c8 hi,c8 aL]
theorem XV(bt:eT P T){x y:Oper×Option Nat}{env:Env}(aa:lL (cls T A x.1) (cls T A y.1)=true∨(mZ (cls T A x.1) (cls T A y.1)=true∧fg (addrOf x.1 x.2 env) (addrOf y.1 y.2 env)=true))(hx:(cls T A x.1).mD=true→∃i,x.2=some i)(aK:(cls T A y.1).mD=true→∃i,y.2=some i)
  (bS:∀i j,x.2=some i→y.2=some j→i≠j){h h1 h2:H}{u v:V}(dD:c1 P T A ops x env h=some (u,h1))(gr:c1 P T A ops y env h1=some (v,h2))(Mq:cls T A y.1=.n→∀id,y.2=some id→h.m id=.fresh∧id<h.next)(l1:cls T A y.1=.l→∀id g o,addrOf y.1 y.2 env=.aa id g o→h.m id≠.fresh):
  ∃eV,c1 P T A ops y env h=some (v,eV)∧c1 P T A ops x env eV=some (u,h2):=by
 have gx:cls T A x.1=.p→∃eV,c1 P T A ops y env h=some (v,eV)∧c1 P T A ops x env eV=some (u,h2):=fun ao=>by
  obtain⟨r,af⟩:=Cg (P:=P) (ops:=ops) ao env
  rw[af]at dD
  cases r with
  |none=>simp at dD
  |some r=>
   simp at dD
   obtain⟨rfl,rfl⟩:=dD
   exact ⟨h2,gr,by rw[af];rfl⟩
 have mb:cls T A y.1=.p→∃eV,c1 P T A ops y env h=some (v,eV)∧c1 P T A ops x env eV=some (u,h2):=fun ao=>by
  obtain⟨r,af⟩:=Cg (P:=P) (ops:=ops) ao env
  rw[af]at gr
  cases r with
  |none=>simp at gr
  |some r=>
   simp at gr
   obtain⟨rfl,rfl⟩:=gr
   exact ⟨h,by rw[af];rfl,dD⟩
 rcases aa with aa|⟨aa,ir⟩
 rotate_left
 ·have gY:∃up,Loc P T A ops x env h u h1 up:=by
   cases cN:cls T A x.1 with
   |l=>exact ⟨none,Ch cN dD⟩
   |w=>exact Gd bt cN dD
   |n=>
    obtain⟨AI,AJ⟩:=x
    obtain⟨i,hi⟩:=hx (by rw[cN];rfl)
    simp only at hi cN
    subst hi
    exact Kq cN dD
   |g=>
    obtain⟨AI,AJ⟩:=x
    obtain⟨i,hi⟩:=hx (by rw[cN];rfl)
    simp only at hi cN
    subst hi
    exact Ge cN dD (fun cs e=>by rw[e]at ir;simp[fg]at ir)
   |_=>rw[cN]at aa;simp[mZ]at aa
  have h5:∃up,Loc P T A ops y env h1 v h2 up:=by
   cases dx:cls T A y.1 with
   |l=>exact ⟨none,Ch dx gr⟩
   |w=>exact Gd bt dx gr
   |n=>
    obtain⟨HN,HO⟩:=y
    obtain⟨i,hi⟩:=aK (by rw[dx];rfl)
    simp only at hi dx
    subst hi
    exact Kq dx gr
   |g=>
    obtain⟨HN,HO⟩:=y
    obtain⟨i,hi⟩:=aK (by rw[dx];rfl)
    simp only at hi dx
    subst hi
    exact Ge dx gr (fun cs e=>by rw[e]at ir;revert ir;cases addrOf _ _ _<;>simp[fg])
   |_=>rw[dx]at aa;cases cN:cls T A x.1<;>rw[cN]at aa<;>simp[mZ]at aa
  obtain⟨ux,gY⟩:=gY
  obtain⟨rV,h5⟩:=h5
  exact Y1 gY h5 ir
 have tI:(cls T A x.1=.r∨cls T A x.1=.l∨cls T A x.1=.m)→(cls T A y.1=.r∨cls T A y.1=.l∨cls T A y.1=.m)→∃eV,c1 P T A ops y env h=some (v,eV)∧c1 P T A ops x env eV=some (u,h2):=fun cN dx=>by
  have aG:=uA bt cN env h _ dD
  simp only at aG
  subst aG
  have e2:=uA bt dx env h1 _ gr
  simp only at e2
  subst e2
  exact ⟨h2,gr,dD⟩
 cases cN:cls T A x.1<;>cases dx:cls T A y.1<;>rw[cN,dx]at aa<;>simp only[lL,Bool.false_eq_true]at aa<;>(try exact gx cN)<;>(try exact mb dx)<;>(try first |exact tI (.inl cN) (.inl dx)|exact tI (.inl cN) (.inr (.inl dx))|exact tI (.inl cN) (.inr (.inr dx))|exact tI (.inr (.inl cN)) (.inl dx)|exact tI (.inr (.inl cN)) (.inr (.inl dx))|exact tI (.inr (.inl cN)) (.inr (.inr dx))|exact tI (.inr (.inr cN)) (.inl dx)|exact tI (.inr (.inr cN)) (.inr (.inl dx))|exact tI (.inr (.inr cN)) (.inr (.inr dx)))
 case m.n=>
  obtain⟨HN,HO⟩:=y
  obtain⟨j,aL⟩:=aK (by rw[dx];rfl)
  simp only at aL dx
  subst aL
  have aG:=uA bt (.inr (.inr cN)) env h _ dD
  simp only at aG
  subst aG
  obtain⟨s,ad⟩:=vT (P:=P) (ops:=ops) (i:=j) dx env
  rw[ad]at gr⊢
  cases s with
  |none=>simp at gr
  |some s=>
   obtain⟨gJ,sv⟩:=s
   simp only[Option.map_some,Option.some.injEq,Prod.mk.injEq]at gr
   obtain⟨rfl,rfl⟩:=gr
   refine⟨_,rfl, ?_⟩
   cases sv with
   |none=>exact dD
   |some sl=>exact abc bt cN env sl (Mq dx j rfl).1 _ dD
 case y.n=>
  obtain⟨HN,HO⟩:=y
  obtain⟨j,aL⟩:=aK (by rw[dx];rfl)
  simp only at aL dx
  subst aL
  obtain⟨s,ad⟩:=vT (P:=P) (ops:=ops) (i:=j) dx env
  rw[ad]at gr⊢
  cases s with
  |none=>simp at gr
  |some s=>
   obtain⟨gJ,sv⟩:=s
   simp only[Option.map_some,Option.some.injEq,Prod.mk.injEq]at gr
   obtain⟨rfl,rfl⟩:=gr
   refine⟨_,rfl, ?_⟩
   cases sv with
   |none=>exact dD
   |some sl=>exact ((y8 bt cN env _ dD).2.2 j sl (Mq dx j rfl).2 (Mq dx j rfl).1).2
 case y.l=>
  have e2:=(Ch dx gr).here
  simp only[l0]at e2
  subst e2
  obtain⟨_,aH,_⟩:=y8 bt cN env _ dD
  have ey:=(Ch dx gr).all h fun id g o bD=>(aH id (l1 dx id g o bD)).symm
  exact ⟨h,ey,dD⟩
 case l.y=>
  have aG:=(Ch cN dD).here
  simp only[l0]at aG
  subst aG
  obtain⟨_,aH,_⟩:=y8 bt dx env _ gr
  exact ⟨h2,gr,aaw cN dD h2 fun id g o _ ak=>aH id ak⟩
 case n.n=>
  obtain⟨AI,AJ⟩:=x
  obtain⟨HN,HO⟩:=y
  obtain⟨i,hi⟩:=hx (by rw[cN];rfl)
  obtain⟨j,aL⟩:=aK (by rw[dx];rfl)
  simp only at hi aL cN dx
  subst hi;subst aL
  have iS:=bS i j rfl rfl
  obtain⟨r,af⟩:=vT (P:=P) (ops:=ops) (i:=i) cN env
  obtain⟨s,ad⟩:=vT (P:=P) (ops:=ops) (i:=j) dx env
  rw[af]at dD
  rw[ad]at gr
  cases r with
  |none=>simp at dD
  |some r=>
   cases s with
   |none=>simp at gr
   |some s=>
    obtain⟨kg,ajm⟩:=r
    obtain⟨gJ,sv⟩:=s
    simp only[Option.map_some,Option.some.injEq,Prod.mk.injEq]at dD gr
    obtain⟨rfl,rfl⟩:=dD
    obtain⟨rfl,rfl⟩:=gr
    refine⟨_,by rw[ad];rfl, ?_⟩
    rw[af]
    simp only[Option.map_some,Option.some.injEq,Prod.mk.injEq,true_and]
    cases ajm<;>cases sv<;>simp[H.put_comm _ iS]
theorem adL{o:Oper}(ao:cls T A o=.l):∃t x,o.op=.load t x:=by
 obtain⟨dst,op,type,pos,after,guard⟩:=o
 cases op<;>simp only[cls,reduceCtorEq]at ao
 case box e x=>cases aq:oU A dst<;>rw[aq]at ao<;>simp at ao
 case buildSlice t n ps=>cases aq:oO A dst<;>rw[aq]at ao<;>simp at ao
 case call c=>
  obtain⟨callee,args,ts⟩:=c
  cases callee with
  |invoke _ _=>simp at ao
  |builtin b=>cases b<;>first |(simp at ao;done)|(exfalso;revert ao;cases m4 A dst<;>simp<;>done)|(revert ao;cases(A.apps.any fun t=>dst==some t)<;>simp)
  |value f=>
   cases f with
   |func g=>cases j7:(T.st g).quiet<;>cases hX:(T.st g).mono<;>cases jm:(T.st g).free<;>cases hz:(T.st g).loc<;>simp[j7,hX,jm,hz]at ao
   |_=>revert ao;(try dsimp only);cases(A.ix.any fun t=>dst==some t)<;>cases(A.mL.any fun t=>dst==some t)<;>simp
 case load t x=>exact ⟨t,x,rfl⟩
theorem aax{o:Oper}{id:Nat}{env:Env}(ao:cls T A o=.n):addrOf o (some id) env=.aa id 0 0:=by
 obtain⟨dst,op,type,pos,after,guard⟩:=o
 cases op<;>simp only[cls,reduceCtorEq]at ao<;>try rfl
 case load t x=>cases aq:oP A dst<;>rw[aq]at ao<;>simp at ao
 case call c=>
  obtain⟨callee,args,ts⟩:=c
  cases callee with
  |invoke _ _=>simp at ao
  |builtin b=>cases b<;>first |(simp at ao;done)|rfl |(exfalso;revert ao;cases m4 A dst<;>simp<;>done)|(revert ao;cases(A.apps.any fun t=>dst==some t)<;>simp)
  |value f=>
   cases f with
   |func g=>cases j7:(T.st g).quiet<;>cases hX:(T.st g).mono<;>cases jm:(T.st g).free<;>cases hz:(T.st g).loc<;>simp[j7,hX,jm,hz]at ao
   |_=>rfl
theorem Wi(bt:eT P T){x y:Oper×Option Nat}{env:Env}(aa:lL (cls T A x.1) (cls T A y.1)=true∨(mZ (cls T A x.1) (cls T A y.1)=true∧fg (addrOf x.1 x.2 env) (addrOf y.1 y.2 env)=true))(dx:cls T A y.1=.n)(hx:(cls T A x.1).mD=true→∃i,x.2=some i)
  (bS:∀i j,x.2=some i→y.2=some j→i≠j){h h1:H}{u:V}(dD:c1 P T A ops x env h=some (u,h1)){id:Nat}(aT:y.2=some id)(ak:h.m id=.fresh∧id<h.next):h1.m id=.fresh∧id<h1.next:=by
 have loc:∀up,Loc P T A ops x env h u h1 up→fg (addrOf x.1 x.2 env) (addrOf y.1 y.2 env)=true→h1.m id=.fresh∧id<h1.next:=fun up aq bD=>by
  rw[aq.here]
  cases up with
  |none=>exact ak
  |some q=>
   obtain⟨i,s⟩:=q
   obtain⟨g,o,e⟩:=aq.at_ i s rfl
   rw[e,aT,aax dx]at bD
   have aM:id≠i:=fun e=>by subst e;simp[fg]at bD
   simp[l0,H.put,c8 aM,ak.1,ak.2]
 have same:(cls T A x.1=.r∨cls T A x.1=.l∨cls T A x.1=.m)→h1.m id=.fresh∧id<h1.next:=fun cN=>by
  have aG:=uA bt cN env h _ dD
  simp only at aG
  rw[aG];exact ak
 cases cN:cls T A x.1 with
 |p=>
  obtain⟨r,af⟩:=Cg (P:=P) (ops:=ops) cN env
  rw[af]at dD
  cases r with
  |none=>simp at dD
  |some r=>simp at dD;rw[←dD.2];exact ak
 |r=>exact same (.inl cN)
 |l=>exact same (.inr (.inl cN))
 |m=>exact same (.inr (.inr cN))
 |n=>
  obtain⟨AI,AJ⟩:=x
  obtain⟨i,hi⟩:=hx (by rw[cN];rfl)
  simp only at hi cN
  subst hi
  have aM:=bS i id rfl aT
  obtain⟨r,af⟩:=vT (P:=P) (ops:=ops) (i:=i) cN env
  rw[af]at dD
  cases r with
  |none=>simp at dD
  |some r=>
   obtain⟨kg,s⟩:=r
   simp only[Option.map_some,Option.some.injEq,Prod.mk.injEq]at dD
   obtain⟨rfl,rfl⟩:=dD
   cases s with
   |none=>exact ak
   |some s=>simp[H.put,c8 (Ne.symm aM),ak.1,ak.2]
 |w=>
  rw[cN,dx]at aa
  rcases aa with aa|⟨_,bD⟩
  ·simp[lL]at aa
  ·obtain⟨up,aq⟩:=Gd bt cN dD
   exact loc up aq bD
 |g=>
  rw[cN,dx]at aa
  rcases aa with aa|⟨_,bD⟩
  ·simp[lL]at aa
  ·obtain⟨AI,AJ⟩:=x
   obtain⟨i,hi⟩:=hx (by rw[cN];rfl)
   simp only at hi cN
   subst hi
   obtain⟨up,aq⟩:=Ge cN dD (fun cs e=>by rw[e]at bD;simp[fg]at bD)
   exact loc up aq bD
 |y=>
  obtain⟨aw,_,aH⟩:=y8 bt cN env _ dD
  exact ⟨(aH id .dead ak.2 ak.1).1,Nat.lt_of_lt_of_le ak.2 aw⟩
 |x=>
  rw[cN,dx]at aa
  rcases aa with aa|⟨aa,_⟩
  ·simp[lL]at aa
  ·simp[mZ]at aa
theorem W8(bt:eT P T){x y:Oper×Option Nat}{env:Env}(aa:lL (cls T A x.1) (cls T A y.1)=true∨(mZ (cls T A x.1) (cls T A y.1)=true∧fg (addrOf x.1 x.2 env) (addrOf y.1 y.2 env)=true))(dx:cls T A y.1=.l)(hx:(cls T A x.1).mD=true→∃i,x.2=some i)
  {h h1:H}{u:V}(dD:c1 P T A ops x env h=some (u,h1)){id g o:Nat}(bD:addrOf y.1 y.2 env=.aa id g o)(ak:h.m id≠.fresh):h1.m id=h.m id:=by
 have loc:∀up,Loc P T A ops x env h u h1 up→fg (addrOf x.1 x.2 env) (addrOf y.1 y.2 env)=true→h1.m id=h.m id:=fun up aq ir=>by
  rw[aq.here]
  cases up with
  |none=>rfl
  |some q=>
   obtain⟨i,s⟩:=q
   obtain⟨kP,dL,e⟩:=aq.at_ i s rfl
   rw[e,bD]at ir
   have aM:id≠i:=fun e=>by subst e;simp[fg]at ir
   simp[l0,H.put,c8 aM]
 have same:(cls T A x.1=.r∨cls T A x.1=.l∨cls T A x.1=.m)→h1.m id=h.m id:=fun cN=>by
  have aG:=uA bt cN env h _ dD
  simp only at aG
  rw[aG]
 cases cN:cls T A x.1 with
 |p=>
  obtain⟨r,af⟩:=Cg (P:=P) (ops:=ops) cN env
  rw[af]at dD
  cases r with
  |none=>simp at dD
  |some r=>simp at dD;rw[←dD.2]
 |r=>exact same (.inl cN)
 |l=>exact same (.inr (.inl cN))
 |m=>exact same (.inr (.inr cN))
 |y=>exact (y8 bt cN env _ dD).2.1 id ak
 |n=>
  rw[cN,dx]at aa
  rcases aa with aa|⟨_,ir⟩
  ·simp[lL]at aa
  ·obtain⟨AI,AJ⟩:=x
   obtain⟨i,hi⟩:=hx (by rw[cN];rfl)
   simp only at hi cN
   subst hi
   obtain⟨up,aq⟩:=Kq cN dD
   exact loc up aq ir
 |w=>
  rw[cN,dx]at aa
  rcases aa with aa|⟨_,ir⟩
  ·simp[lL]at aa
  ·obtain⟨up,aq⟩:=Gd bt cN dD
   exact loc up aq ir
 |g=>
  rw[cN,dx]at aa
  rcases aa with aa|⟨_,ir⟩
  ·simp[lL]at aa
  ·obtain⟨AI,AJ⟩:=x
   obtain⟨i,hi⟩:=hx (by rw[cN];rfl)
   simp only at hi cN
   subst hi
   obtain⟨up,aq⟩:=Ge cN dD (fun cs e=>by rw[e]at ir;simp[fg]at ir)
   exact loc up aq ir
 |x=>
  rw[cN,dx]at aa
  rcases aa with aa|⟨aa,_⟩
  ·simp[lL]at aa
  ·simp[mZ]at aa
def ago(N:Nat)(dst:Option Tmp)(v:V)(env bz:Env):Prop:=(dst=none∧bz=env)∨∃d,dst=some d∧d<N∧bz=env.set d v
def uM(P:Program)(T:Table)(A:fw)(N:Nat)(ops:Array Oper)(ids:List (Oper×Option Nat))(hot:Nat→Prop)(τ:Nat→V):List Nat→Env→H→Env→H→Prop
 |[],env,h,bz,ar=>bz=env∧ar=h
 |i::l,env,h,bz,ar=>∃p v h1 gn,ids[i]? =some p∧c1 P T A ops p env h=some (v,h1)∧ago N p.1.dst v env gn∧(hot i→addrOf p.1 p.2 env=τ i)∧uM P T A N ops ids hot τ l gn h1 bz ar
theorem Fc{o:Oper}{at_:Option Nat}{env:Env}{d:Nat}{v:V}(bF:d∉o.looksAt ops):addrOf o at_ (env.set d v)=addrOf o at_ env:=by
 have hx:∀x∈o.op.operands,aR (env.set d v) x=aR env x:=fun x hx=>RJ fun e=>bF (by
  subst e
  exact List.mem_append_left _ (List.mem_filterMap.2 ⟨.tmp d,by simpa using hx,rfl⟩))
 obtain⟨dst,op,type,pos,after,guard⟩:=o
 cases op<;>simp only[Op.operands]at hx<;>simp only[addrOf]
 case load t x=>exact hx x (by simp)
 case store t x y=>exact hx x (by simp)
 case call c=>
  obtain⟨callee,args,ts⟩:=c
  cases callee with
  |value f=>
   have aq:args.toList.map (aR (env.set d v))=args.toList.map (aR env):=List.map_congr_left fun x hm=>hx x (by simp[Call.operands];exact .inr (by simpa using hm))
   cases f<;>simp only[aq]
  |invoke _ _=>rfl
  |builtin b=>
   cases b<;>try rfl
   have aq:args.toList.map (aR (env.set d v))=args.toList.map (aR env):=List.map_congr_left fun x hm=>hx x (by simp[Call.operands];simpa using hm)
   simp only[aq]
section runs
variable{ids:List (Oper×Option Nat)}{hot:Nat→Prop}{τ:Nat→V}
def Tu(T:Table)(A:fw)(ops:Array Oper)(hot:Nat→Prop)(τ:Nat→V)(i j:Nat)(x y:Oper×Option Nat):Prop:=
 (lL (cls T A x.1) (cls T A y.1)=true∨(mZ (cls T A x.1) (cls T A y.1)=true∧hot i∧hot j∧fg (τ i) (τ j)=true))∧x.1.apart ops y.1=true∧
  ((cls T A x.1).mD=true→∃i,x.2=some i)∧((cls T A y.1).mD=true→∃i,y.2=some i)∧∀i j,x.2=some i→y.2=some j→i≠j
theorem Z1 (bt:eT P T){i j:Nat}{l:List Nat}{env bz:Env}{h ar:H}(hm:∀x y,ids[i]? =some x→ids[j]? =some y→Tu T A ops hot τ i j x y)(eg:∀y,ids[j]? =some y→cls T A y.1=.n→∀id,y.2=some id→h.m id=.fresh∧id<h.next)
  (l1:∀y,ids[j]? =some y→cls T A y.1=.l→∀id g o,addrOf y.1 y.2 env=.aa id g o→h.m id≠.fresh)
  (ad:uM P T A N ops ids hot τ (i::j::l) env h bz ar):uM P T A N ops ids hot τ (j::i::l) env h bz ar:=by
 obtain⟨x,u,h1,gn,uU,dD,vU,Ac,y,v,h2,ry,DK,gr,abe,Ad,ad⟩:=ad
 obtain⟨aa,ir,hx,aK,bS⟩:=hm x y uU DK
 obtain⟨a1,a2,a3⟩:=Oper.apart_spec ir
 have Lc:addrOf y.1 y.2 gn=addrOf y.1 y.2 env:=by
  rcases vU with⟨_,rfl⟩|⟨d,bF,_,rfl⟩
  ·rfl
  ·exact Fc (a1 d bF)
 have adM:c1 P T A ops y env h1=some (v,h2):=by
  rcases vU with⟨_,rfl⟩|⟨d,bF,_,rfl⟩
  ·exact gr
  ·rw[Ra (a1 d bF)]at gr;exact gr
 have nd:lL (cls T A x.1) (cls T A y.1)=true∨(mZ (cls T A x.1) (cls T A y.1)=true∧fg (addrOf x.1 x.2 env) (addrOf y.1 y.2 env)=true):=by
  rcases aa with aa|⟨aa,aw,aH,aW⟩
  ·exact .inl aa
  ·exact .inr ⟨aa,by rw[Ac aw,←Lc,Ad aH];exact aW⟩
 obtain⟨eV,aw,aH⟩:=XV bt nd hx aK bS dD adM (eg y DK) (l1 y DK)
 rcases abe with⟨uV,rfl⟩|⟨d2,uV,jk,rfl⟩
 ·exact ⟨y,v,eV,env,DK,aw,.inl ⟨uV,rfl⟩,fun hh=>by rw[←Lc];exact Ad hh,x,u,h2,_,uU,aH,vU,Ac,ad⟩
 ·refine⟨y,v,eV,env.set d2 v,DK,aw,.inr ⟨d2,uV,jk,rfl⟩,fun hh=>by rw[←Lc];exact Ad hh,x,u,h2,_,uU,by rw[Ra (a3 d2 uV)];exact aH, ?_,fun hh=>by rw[Fc (a3 d2 uV)];exact Ac hh,ad⟩
  rcases vU with⟨Ae,rfl⟩|⟨d1,Ae,nb,rfl⟩
  ·exact .inl ⟨Ae,rfl⟩
  ·refine .inr ⟨d1,Ae,nb, ?_⟩
   exact Env.set_comm env (fun e=>a2 d1 Ae (by rw[uV,e])) u v
theorem PX{j:Nat}{post:List Nat}{bz:Env}{ar:H}{y:Oper×Option Nat}(aK:ids[j]? =some y)(aL:hot j):∀(pre:List Nat) (env:Env) (h:H),(∀i∈pre,∀x,ids[i]? =some x→x.1.apart ops y.1=true)→uM P T A N ops ids hot τ (pre++j::post) env h bz ar→addrOf y.1 y.2 env=τ j
 |[],env,h,_,⟨p,v,h1,gn,aa,_,_,bD,_⟩=>by
  rw[aa]at aK;cases aK
  exact bD aL
 |i::pre,env,h,ey,⟨p,v,h1,gn,aa,_,j1,bD,ad⟩=>by
  have:=PX aK aL pre gn h1 (fun z bH=>ey z (by simp[bH])) ad
  obtain⟨a1,_,_⟩:=Oper.apart_spec (ey i (by simp) p aa)
  rcases j1 with⟨_,rfl⟩|⟨d,bF,_,rfl⟩
  ·exact this
  ·rw[Fc (a1 d bF)]at this;exact this
theorem Qu(bt:eT P T){j:Nat}{post:List Nat}{bz:Env}{ar:H}:∀(pre:List Nat) (env:Env) (h:H),
  (∀i∈pre,∀x y,ids[i]? =some x→ids[j]? =some y→Tu T A ops hot τ i j x y)→(∀y,ids[j]? =some y→cls T A y.1=.n→∀id,y.2=some id→h.m id=.fresh∧id<h.next)→
  (∀y,ids[j]? =some y→cls T A y.1=.l→∀id g o,addrOf y.1 y.2 env=.aa id g o→h.m id≠.fresh)→
  uM P T A N ops ids hot τ (pre++j::post) env h bz ar→uM P T A N ops ids hot τ (j::(pre++post)) env h bz ar
 |[],env,h,_,_,_,ad=>ad
 |i::pre,env,h,ey,eg,l1,ad=>by
  refine Z1 bt (ey i (by simp)) eg l1 ?_
  obtain⟨x,u,h1,gn,uU,dD,vU,Ac,ad⟩:=ad
  have DL:∀y,ids[j]? =some y→(lL (cls T A x.1) (cls T A y.1)=true∨(mZ (cls T A x.1) (cls T A y.1)=true∧fg (addrOf x.1 x.2 env) (addrOf y.1 y.2 env)=true))∧addrOf y.1 y.2 gn=addrOf y.1 y.2 env:=fun y aK=>by
   obtain⟨aa,ir,hx,Tv,bS⟩:=ey i (by simp) x y uU aK
   obtain⟨a1,_,_⟩:=Oper.apart_spec ir
   have Ad:addrOf y.1 y.2 gn=addrOf y.1 y.2 env:=by
    rcases vU with⟨_,rfl⟩|⟨d,bF,_,rfl⟩
    ·rfl
    ·exact Fc (a1 d bF)
   refine⟨?_,Ad⟩
   rcases aa with aa|⟨aa,aw,aH,aW⟩
   ·exact .inl aa
   ·refine .inr ⟨aa, ?_⟩
    have:=PX aK aH pre gn h1 (fun z bH fm w6=>(ey z (by simp[bH]) fm y w6 aK).2.1) ad
    rw[←Ad,this,Ac aw];exact aW
  refine⟨x,u,h1,gn,uU,dD,vU,Ac,Qu bt pre gn h1 (fun z bH=>ey z (by simp[bH])) (fun y aK dx id aT=>?_) (fun y aK dx id g o bD=>?_) ad⟩
  ·obtain⟨aa,ir,hx,Tv,bS⟩:=ey i (by simp) x y uU aK
   exact Wi bt (DL y aK).1 dx hx bS dD aT (eg y aK dx id aT)
  ·obtain⟨aa,ir,hx,Tv,bS⟩:=ey i (by simp) x y uU aK
   rw[(DL y aK).2]at bD
   have hu:=l1 y aK dx id g o bD
   rw[W8 bt (DL y aK).1 dx hx dD bD hu]
   exact hu
theorem Rb(bt:eT P T)(Ld:∀(i:Nat) p,ids[i]? =some p→ops[i]? =some p.1)(SG:∀i,hot i→steady ops i=true){k:Env→H→Option α}{res:α}:∀(l:List (Oper×Option Nat)) (n:Nat) (env:Env) (h:H),ids.drop n=l→
  hN P T A N ops l env h k=some res→∃bz ar,k bz ar=some res∧(∀t,(∀p∈l,p.1.dst≠some t)→bz t=env t)∧uM P T A N ops ids hot (yS ids bz) (List.range' n l.length) env h bz ar
 |[],n,env,h,_,ad=>⟨env,h,ad,fun _ _=>rfl,rfl,rfl⟩
 |p::l,n,env,h,aq,ad=>by
  rw[OK bt]at ad
  simp only[Option.bind_eq_some_iff]at ad
  obtain⟨⟨v,h1⟩,he,ad⟩:=ad
  obtain⟨gn,ad,j1⟩:=PW ad
  obtain⟨bz,ar,aN,dP,af⟩:=Rb bt Ld SG l (n+1) gn h1 (by rw[←List.tail_drop,aq];rfl) ad
  have aa:ids[n]? =some p:=by
   have:(ids.drop n)[0]? =some p:=by rw[aq];rfl
   simpa using this
  have RL:∀t,(∀q∈p::l,q.1.dst≠some t)→bz t=env t:=fun t bk=>by
   rw[dP t fun q aV=>bk q (by simp[aV])]
   rcases j1 with⟨_,rfl⟩|⟨d,bF,_,rfl⟩
   ·rfl
   ·have:t≠d:=fun e=>bk p (by simp) (by rw[bF,e])
    simp[Env.set,c8 this]
  refine⟨bz,ar,aN,RL, ?_⟩
  rw[List.length_cons,List.range'_succ]
  refine⟨p,v,h1,gn,aa,he,j1,fun hh=>?_,af⟩
  have a6:=SG n hh
  have Af:=Ld n p aa
  simp only[yS,aa]
  unfold steady at a6
  rw[Af]at a6
  have j8:∀t,t∈yu p.1→bz t=env t:=fun t bk=>by
   simp only[List.all_eq_true]at a6
   have a6:=a6 t bk
   refine RL t fun q aV=>?_
   have DJ:q∈ids.drop n:=by rw[aq];exact aV
   obtain⟨m,hm⟩:=List.mem_iff_getElem?.1 DJ
   rw[List.getElem?_drop]at hm
   have:=Ld _ q hm
   have e6:q.1∈ops.toList.drop n:=by
    refine List.mem_iff_getElem?.2 ⟨m, ?_⟩
    rw[List.getElem?_drop]
    simpa using this
   simpa using a6 q.1 e6
  obtain⟨⟨dst,op,type,pos,after,guard⟩,at_⟩:=p
  cases op<;>try rfl
  case load t x=>
   simp only[addrOf]
   cases x with
   |tmp t=>exact (j8 t (by simp[yu])).symm
   |_=>rfl
  case store t x y=>
   simp only[addrOf]
   cases x with
   |tmp t=>exact (j8 t (by simp[yu])).symm
   |_=>rfl
  case call c=>
   obtain⟨callee,args,ts⟩:=c
   cases callee with
   |value f=>
    cases f<;>try rfl
    have aq:args.toList.map (aR bz)=args.toList.map (aR env):=List.map_congr_left fun x hx=>by
     cases x with
     |tmp t=>exact (j8 t (by simp only[yu,List.mem_filterMap];exact ⟨.tmp t,hx,rfl⟩))
     |_=>rfl
    simp only[addrOf,aq]
   |invoke _ _=>rfl
   |builtin b=>
    cases b<;>try rfl
    have aq:args.toList.map (aR bz)=args.toList.map (aR env):=List.map_congr_left fun x hx=>by
     cases x with
     |tmp t=>exact j8 t (by simp only[yu,List.mem_filterMap];exact ⟨.tmp t,hx,rfl⟩)
     |_=>rfl
    simp only[addrOf,aq]
theorem Ot{env:Env}:∀{l:List (Nat×Nat)} {x:Option α} {res:α},FP ids env l x=some res→x=some res∧∀i j,(i,j)∈l→fg (yS ids env i) (yS ids env j)=true
 |[],x,res,h=>⟨h,by simp⟩
 |(i,j)::l,x,res,h=>by
  obtain⟨h1,h2⟩:=fe h
  obtain⟨h3,aI⟩:=Ot h2
  refine⟨h3,fun a b oc=>?_⟩
  rcases List.mem_cons.1 oc with e |e
  ·cases e;exact h1
  ·exact aI a b e
end runs
theorem PY(f:List Nat)(S:Nat→Prop)(ak:∀(j:Nat) m,f[j]? =some m→S j→∀i,m.testBit i=true→S i):∀(es:List Edge) (s:Nat),(∀i,s.testBit i=true→S i)→(∀e∈es,Region.binds .any e=true→S e.on)→
  ∀i,(es.foldl (fun s e=>if Region.binds .any e then s|||2^e.on |||f.getD e.on 0 else s) s).testBit i=true→S i
 |[],s,ad,_,i,hi=>ad i hi
 |e::es,s,ad,he,i,hi=>by
  simp only[List.foldl_cons]at hi
  refine PY f S ak es _ (fun n aM=>?_) (fun dn ar=>he dn (by simp[ar])) i hi
  split at aM
  ·rename_i aE
   have bh:=he e (by simp) aE
   simp only[Nat.testBit_or,Bool.or_eq_true,Nat.testBit_two_pow,decide_eq_true_eq]at aM
   rcases aM with(aM|aM)|aM
   ·exact ad n aM
   ·exact aM▸bh
   ·cases aQ:f[e.on]? with
    |none=>simp[List.getD,aQ]at aM
    |some m=>simp[List.getD,aQ]at aM;exact ak e.on m aQ bh n aM
  ·exact ad n aM
theorem OL(S:Nat→Prop):∀(l:List Oper) (acc:List Nat) (pre:List Oper),acc.length=pre.length→
  (∀(j:Nat) o,(pre++l)[j]? =some o→S j→∀e∈o.after,Region.binds .any e=true→S e.on)→(∀(j:Nat) m,acc[j]? =some m→S j→∀i,m.testBit i=true→S i)→
  ∀(j:Nat) m,(mX l acc)[j]? =some m→S j→∀i,m.testBit i=true→S i
 |[],acc,pre,_,_,dG=>dG
 |o::l,acc,pre,hlen,ha,dG=>by
  simp only[mX]
  refine OL S l (acc++[RD acc o]) (pre++[o]) (by simp[hlen]) (by simpa using ha) (fun j m aL bh i hi=>?_)
  rcases Nat.lt_or_ge j acc.length with bn |hy
  ·rw[List.getElem?_append_left bn]at aL
   exact dG j m aL bh i hi
  ·rw[List.getElem?_append_right hy]at aL
   have DM:j-acc.length=0:=by
    cases aV:j-acc.length with
    |zero=>rfl
    |succ n=>rw[aV]at aL;simp at aL
   rw[DM]at aL
   simp at aL
   subst aL
   have agp:j=pre.length:=by omega
   refine PY acc S dG o.after.toList 0 (by simp) (fun e he aE=>ha j o (by rw[agp];simp) bh e (by simpa using he) aE) i hi
theorem Ii:∀(l:List Oper) (b:Nat),(iG T A l b).length=l.length
 |[],b=>rfl
 |o::l,b=>by
  simp only[iG]
  cases(cls T A o).mD<;>simp[Ii l]
theorem pA:∀(l:List Oper) (b i:Nat) (p:Oper×Option Nat),(iG T A l b)[i]? =some p→
  l[i]? =some p.1∧((cls T A p.1).mD=true→∃id,p.2=some id)∧(∀id,p.2=some id→(cls T A p.1).mD=true∧b≤id∧id<b+rb T A l)
 |[],b,i,p,h=>by simp[iG]at h
 |o::l,b,i,p,h=>by
  simp only[iG,rb]at h⊢
  cases aM:(cls T A o).mD with
  |true=>
   rw[aM]at h
   simp only[cond_true]at h⊢
   cases i with
   |zero=>
    simp at h
    subst h
    exact ⟨rfl,fun _=>⟨b,rfl⟩,fun id aT=>by cases aT;exact ⟨aM,Nat.le_refl _,by omega⟩⟩
   |succ i=>
    simp at h
    obtain⟨h1,h2,h3⟩:=pA l (b+1) i p h
    exact ⟨by simpa using h1,h2,fun id aT=>by obtain⟨aw,aH,aW⟩:=h3 id aT;exact ⟨aw,by omega,by omega⟩⟩
  |false=>
   rw[aM]at h
   simp only[cond_false]at h⊢
   cases i with
   |zero=>
    simp at h
    subst h
    exact ⟨rfl,fun ao=>(by rw[ao]at aM;cases aM),fun id aT=>(by cases aT)⟩
   |succ i=>
    simp at h
    obtain⟨h1,h2,h3⟩:=pA l b i p h
    exact ⟨by simpa using h1,h2,h3⟩
theorem Bt:∀(l:List Oper) (b i j:Nat) (p q:Oper×Option Nat),i<j→(iG T A l b)[i]? =some p→(iG T A l b)[j]? =some q→∀x y,p.2=some x→q.2=some y→x<y
 |[],b,i,j,p,q,_,h,_=>by simp[iG]at h
 |o::l,b,i,j,p,q,iS,aa,aV=>by
  intro x y hx aK
  cases j with
  |zero=>omega
  |succ j=>
   simp only[iG]at aa aV
   cases aM:(cls T A o).mD with
   |true=>
    rw[aM]at aa aV
    simp only[cond_true,List.getElem?_cons_succ]at aa aV
    cases i with
    |zero=>
     simp at aa
     subst aa
     cases hx
     have:=((pA l (b+1) j q aV).2.2 y aK).2.1
     omega
    |succ i=>
     simp only[List.getElem?_cons_succ]at aa
     exact Bt l (b+1) i j p q (by omega) aa aV x y hx aK
   |false=>
    rw[aM]at aa aV
    simp only[cond_false,List.getElem?_cons_succ]at aa aV
    cases i with
    |zero=>simp at aa;subst aa;cases hx
    |succ i=>
     simp only[List.getElem?_cons_succ]at aa
     exact Bt l b i j p q (by omega) aa aV x y hx aK
theorem VA{h ar:H}{i bo bytes n:Nat}{s sv:au}{cs:List V}(he:c7 h (some i) bo bytes s cs n=some (sv,ar)):ar.next=h.next∧∀j,j≠i→h.m j=.fresh→ar.m j=.fresh:=by
 obtain⟨a,len,cap,tail⟩:=s
 unfold c7 iF at he
 simp only at he
 split at he
 ·simp only[Option.some.injEq,Prod.mk.injEq]at he
  obtain⟨_,rfl⟩:=he
  exact ⟨rfl,fun _ _ h=>h⟩
 ·obtain⟨_,he⟩:=fe he
  have fresh:∀{x:Option (au×H)},(if cap=0∧tail=false∧len=0 then newAt h (some i) cs bo (n*bo) (fun p ar=>(match(V.slice p n n true)with|.slice a l c t=>some ((⟨a,l,c,t⟩:au),ar)|_=>none))else if tail=false∧cap<len+n then(cellsOf h (.slice a len cap tail) bo).bind (fun o=>newAt h (some i) (o.2++cs) bo ((len+n)*bo) (fun p ar=>(match(V.slice p (len+n) (len+n) true)with|.slice a l c t=>some ((⟨a,l,c,t⟩:au),ar)|_=>none)))else none)=some (sv,ar)→ar.next=h.next∧∀j,j≠i→h.m j=.fresh→ar.m j=.fresh:=fun aV=>by
   split at aV
   ·simp only[newAt,Option.some.injEq,Prod.mk.injEq]at aV
    obtain⟨_,rfl⟩:=aV
    exact ⟨rfl,fun j aL ak=>by simpa[H.put,c8 aL]using ak⟩
   ·split at aV
    ·simp only[Option.bind_eq_some_iff]at aV
     obtain⟨o,_,aV⟩:=aV
     simp only[newAt,Option.some.injEq,Prod.mk.injEq]at aV
     obtain⟨_,rfl⟩:=aV
     exact ⟨rfl,fun j aL ak=>by simpa[H.put,c8 aL]using ak⟩
    ·cases aV
  have put:∀id eA e bc,h.m id=.own eA e→ar=h.put id bc→ar.next=h.next∧∀j,j≠i→h.m j=.fresh→ar.m j=.fresh:=fun id eA e bc hm aa=>by
   subst aa
   refine⟨rfl,fun j aL ak=>?_⟩
   have:j≠id:=fun e=>by subst e;rw[hm]at ak;cases ak
   simpa[H.put,c8 this]using ak
  cases a with
  |aa id gen off=>
   simp only at he
   split at he
   ·rename_i eA e hm
    split at he
    ·simp at he
    ·split at he
     ·simp only[Option.bind_eq_some_iff]at he
      obtain⟨h1,hw,he⟩:=he
      simp only[Option.some.injEq,Prod.mk.injEq]at he
      obtain⟨_,rfl⟩:=he
      simp only[H.aY,hm]at hw
      split at hw
      ·simp only[Option.some.injEq]at hw
       exact put id eA e _ hm hw.symm
      ·cases hw
     ·split at he
      ·simp only[Option.some.injEq,Prod.mk.injEq]at he
       obtain⟨_,aa⟩:=he
       exact put id eA e _ hm aa.symm
      ·simp at he
   ·cases he
  |_=>exact fresh (x:=none) he
theorem Wj{o:Oper}{i:Nat}(ao:cls T A o=.g){env:Env}{h ar:H}{v:V}(he:c1 P T A ops (o,some i) env h=some (v,ar)):ar.next=h.next∧∀j,(some i:Option Nat)≠some j→h.m j=.fresh→ar.m j=.fresh:=by
 unfold c1 at he
 cases hw:jR ops env o with
 |none=>simp only[hw]at he;simp at he
 |some b=>
  simp only[hw]at he
  cases b with
  |false=>simp at he;obtain⟨_,rfl⟩:=he;exact ⟨rfl,fun i _ ak=>ak⟩
  |true=>
   simp only at he
   obtain⟨dst,op,type,pos,after,guard⟩:=o
   cases op<;>simp only[cls,reduceCtorEq]at ao
   case box e x=>cases aq:oU A dst<;>rw[aq]at ao<;>simp at ao
   case load t x=>cases aq:oP A dst<;>rw[aq]at ao<;>simp at ao
   case buildSlice t n ps=>cases aq:oO A dst<;>rw[aq]at ao<;>simp at ao
   case call c=>
    obtain⟨callee,args,ts⟩:=c
    cases callee with
    |invoke _ _=>simp at ao
    |value f=>
     cases f with
     |func g=>cases j7:(T.st g).quiet<;>cases hX:(T.st g).mono<;>cases jm:(T.st g).free<;>cases hz:(T.st g).loc<;>simp[j7,hX,jm,hz]at ao
     |_=>revert ao;(try dsimp only);cases(A.ix.any fun t=>dst==some t)<;>cases(A.mL.any fun t=>dst==some t)<;>simp
    |builtin b=>
     cases b
     case append=>
      have fin:∀{x:Option (Nat×List V)} {bo bytes:Nat} {agq:au},(x.bind fun c=>(c7 h (some i) bo bytes agq c.2 c.1).bind fun r=>some (V.slice r.1.a r.1.len r.1.cap r.1.tail,r.2))=some (v,ar)→ar.next=h.next∧∀j,(some i:Option Nat)≠some j→h.m j=.fresh→ar.m j=.fresh:=fun he=>by
       simp only[Option.bind_eq_some_iff,Option.some.injEq,Prod.mk.injEq]at he
       obtain⟨c,rG,⟨sv,h1⟩,mC,rfl,rfl⟩:=he
       obtain⟨aw,aH⟩:=VA mC
       exact ⟨aw,fun j aL ak=>aH j (fun e=>aL (by rw[e])) ak⟩
      simp only[gO]at he
      generalize args.toList.map (aR env)=l at he
      match l,he with
      |[],he=>simp[lF]at he
      |[_],he=>simp[lF]at he
      |_::_::_::_,he=>simp[lF]at he
      |[s,x],he=>
       simp only[lF]at he
       split at he
       ·split at he
        ·split at he
         ·split at he
          ·split at he
           ·exact fin he
           ·cases he
          ·cases he
         ·cases he
        ·cases he
       ·cases he
     all_goals first |(simp at ao;done)|(revert ao;cases m4 A dst<;>simp)
theorem XW(bt:eT P T){p:Oper×Option Nat}(hx:cls T A p.1≠.x)(aM:(cls T A p.1).mD=true→∃i,p.2=some i){env:Env}{h ar:H}{v:V}(he:c1 P T A ops p env h=some (v,ar)):
  h.next≤ar.next∧∀i,p.2≠some i→i<h.next→h.m i=.fresh→ar.m i=.fresh:=by
 cases ao:cls T A p.1 with
 |p=>
  obtain⟨r,af⟩:=Cg (P:=P) (ops:=ops) ao env
  rw[af]at he
  cases r with
  |none=>simp at he
  |some r=>simp at he;obtain⟨_,rfl⟩:=he;exact ⟨Nat.le_refl _,fun i _ _ ak=>ak⟩
 |r=>
  have e:=uA bt (.inl ao) env h _ he
  simp only at e
  subst e
  exact ⟨Nat.le_refl _,fun i _ _ ak=>ak⟩
 |l=>
  have e:=uA bt (.inr (.inl ao)) env h _ he
  simp only at e
  subst e
  exact ⟨Nat.le_refl _,fun i _ _ ak=>ak⟩
 |m=>
  have e:=uA bt (.inr (.inr ao)) env h _ he
  simp only at e
  subst e
  exact ⟨Nat.le_refl _,fun i _ _ ak=>ak⟩
 |g=>
  obtain⟨i,hi⟩:=aM (by rw[ao];rfl)
  obtain⟨o,at_⟩:=p
  simp only at hi ao
  subst hi
  obtain⟨aG,e2⟩:=Wj ao he
  exact ⟨Nat.le_of_eq aG.symm,fun i hi _=>e2 i hi⟩
 |n=>
  obtain⟨i,hi⟩:=aM (by rw[ao];rfl)
  obtain⟨o,at_⟩:=p
  simp only at hi ao
  subst hi
  obtain⟨r,af⟩:=vT (P:=P) (ops:=ops) (i:=i) ao env
  rw[af]at he
  cases r with
  |none=>simp at he
  |some r=>
   obtain⟨u,s⟩:=r
   simp at he
   obtain⟨_,rfl⟩:=he
   cases s with
   |none=>exact ⟨Nat.le_refl _,fun i _ _ ak=>ak⟩
   |some s=>
    refine⟨Nat.le_refl _,fun j aL _ ak=>?_⟩
    have:j≠i:=fun e=>aL (by rw[e])
    simpa[H.put,c8 this]using ak
 |w=>
  obtain⟨up,aq,hu⟩:=RK bt ao he
  have e:=aq.here
  cases up with
  |none=>subst e;exact ⟨Nat.le_refl _,fun i _ _ ak=>ak⟩
  |some q=>
   obtain⟨id,s⟩:=q
   subst e
   refine⟨Nat.le_refl _,fun i _ _ ak=>?_⟩
   have:i≠id:=fun e=>by subst e;exact hu _ _ rfl ak
   simpa[l0,H.put,c8 this]using ak
 |y=>
  obtain⟨aw,_,aH⟩:=y8 bt ao env _ he
  exact ⟨aw,fun i _ bn ak=>(aH i .dead bn ak).1⟩
 |x=>exact absurd ao hx
theorem FQ(bt:eT P T)(bF:yR T A ops=true){b:Nat}{ρ₀:Ren}{env₀:Env}{w₀:World}{k:Env→H→Option α}{res:α}{Q:Exit→Act→World→Prop}
  {τ:Nat→V}{HP:Env}{ak:H}(rF:k HP ak=some res)(NF:∀i j,(i,j)∈pQ T A ops→fg (τ i) (τ j)=true)
  (aN:∀a7 bz ar cb ay,ρ₀.le a7→me P T base lo N a7 bz ar cb ay→Below base w₀ ay→(∀t,t∉t_ ops.toList→bz t=env₀ t)→k bz ar=some res→Q .normal cb ay):
  ∀(n:Nat) (rem:List Nat) (listed:Array Bool) ρ env h a w,rem.length=n→rem.Pairwise (· <·)→(∀i,i∈rem↔i<ops.size∧listed.getD i true=false)→listed.size=ops.size→
   (∀(i:Nat) o,ops[i]? =some o→listed.getD i true=true→∀e∈o.after,Region.binds .any e=true→listed.getD e.on false=true)→
   (∀i∈rem,∀p,(iG T A ops.toList b)[i]? =some p→∀id,p.2=some id→h.m id=.fresh∧id<h.next)→
   ρ₀.le ρ→me P T base lo N ρ env h a w→Below base w₀ w→(∀t,t∉t_ ops.toList→env t=env₀ t)→
   uM P T A N ops (iG T A ops.toList b) (fun i=>∃j,(i,j)∈pQ T A ops∨(j,i)∈pQ T A ops) τ rem env h HP ak→wpAnyIn (iW ro) 0 P .any ops Q n listed a w:=by
 simp only[yR,Bool.and_eq_true,List.all_eq_true]at bF
 obtain⟨⟨⟨aj5,_⟩,AK⟩,RM⟩:=bF
 have abf:∀(j:Nat) o,ops[j]? =some o→∀e∈o.after,Region.binds .any e=true→e.on<j:=fun j o a8 e he aE=>by
  have:=(RM (o,j) (by rw[List.mem_zipIdx_iff_getElem?];simpa using a8)).1
  have:=Array.all_eq_true_iff_forall_mem.1 this e he
  simpa[aE]using this
 have abg:∀(i j:Nat) l9 ly,i<j→ops[i]? =some l9→ops[j]? =some ly→((mX ops.toList []).getD j 0).testBit i=true∨((lL (cls T A l9) (cls T A ly)=true∨(mZ (cls T A l9) (cls T A ly)=true∧(((mX ops.toList []).getD j 0).testBit i=false→(i,j)∈pQ T A ops)))∧l9.apart ops ly=true):=fun i j l9 ly iS hi aL=>by
  have abh:mZ (cls T A l9) (cls T A ly)=true→((mX ops.toList []).getD j 0).testBit i=false→(i,j)∈pQ T A ops:=fun ao aE=>by
   unfold pQ
   simp only
   refine List.mem_flatMap.2 ⟨(ly,j),by rw[List.mem_zipIdx_iff_getElem?];simpa using aL,List.mem_filterMap.2 ⟨(l9,i), ?_, ?_⟩⟩
   ·rw[List.mem_zipIdx_iff_getElem?]
    simp only[List.getElem?_take,iS,if_true]
    simpa using hi
   ·simp only[aE,ao,Bool.not_false,Bool.and_self,cond_true]
  have:=(RM (ly,j) (by rw[List.mem_zipIdx_iff_getElem?];simpa using aL)).2 (l9,i) (by
   rw[List.mem_zipIdx_iff_getElem?]
   simp only[List.getElem?_take,iS,if_true]
   simpa using hi)
  simp only[Bool.or_eq_true,Bool.and_eq_true]at this
  rcases this with this|⟨this|this,h2⟩
  ·exact .inl this
  ·exact .inr ⟨.inl this,h2⟩
  ·exact .inr ⟨.inr ⟨this,abh this⟩,h2⟩
 intro n
 induction n with
 |zero=>
  intro rem listed ρ env h a w hlen nO e6 Ce ha eg bu bs b6 cd ad
  have sK:rem=[]:=List.eq_nil_of_length_eq_zero hlen
  subst sK
  obtain⟨rfl,rfl⟩:=ad
  refine⟨?_,aN ρ HP ak a w bu bs b6 cd rF⟩
  rw[List.eq_nil_iff_forall_not_mem]
  intro j aL
  obtain⟨aO,o,a8,_⟩:=mem_ready.1 aL
  exact absurd ((e6 j).2 ⟨(Array.getElem?_eq_some_iff.1 a8).1,aO⟩) (by simp)
 |succ n ih=>
  intro rem listed ρ env h a w hlen nO e6 Ce ha eg bu bs b6 cd ad
  have gG:∀i∈rem,∃p,(iG T A ops.toList b)[i]? =some p∧ops[i]? =some p.1:=fun i hi=>by
   have bn:=((e6 i).1 hi).1
   have jk:i<(iG T A ops.toList b).length:=by rw[Ii];simpa using bn
   refine⟨_,List.getElem?_eq_getElem jk, ?_⟩
   have:=(pA ops.toList b i _ (List.getElem?_eq_getElem jk)).1
   simpa using this
  refine⟨fun nN=>?_,fun i hi=>?_⟩
  ·exfalso
   cases rem with
   |nil=>simp at hlen
   |cons j rem=>
    obtain⟨p,_,a8⟩:=gG j (by simp)
    have aL:=(e6 j).1 (by simp)
    have:j∈Region.ready .any ops listed:=mem_ready.2 ⟨aL.2,p.1,a8,fun e he aE=>by
     have bn:=abf j p.1 a8 e he aE
     have j8:e.on∉j::rem:=fun cI=>by
      rcases List.mem_cons.1 cI with Tw|Tw
      ·omega
      ·have:=(List.pairwise_cons.1 nO).1 _ Tw;omega
     have hY:e.on<ops.size:=by omega
     cases aV:listed.getD e.on false with
     |true=>rfl
     |false=>
      refine absurd ((e6 e.on).2 ⟨hY, ?_⟩) j8
      have:e.on<listed.size:=by omega
      simp[this]at aV⊢
      exact aV⟩
    rw[nN]at this
    cases this
  ·obtain⟨z6,o,a8,RN⟩:=mem_ready.1 hi
   have bn:i<ops.size:=(Array.getElem?_eq_some_iff.1 a8).1
   have cI:i∈rem:=(e6 i).2 ⟨bn,z6⟩
   obtain⟨p,aa,Mr⟩:=gG i cI
   rw[a8]at Mr
   have zK:p.1=o:=(Option.some.inj Mr).symm
   obtain⟨pre,post,aay⟩:=List.append_of_mem cI
   subst aay
   have uu:=List.pairwise_append.1 nO
   have uS:(cls T A p.1).mD=true→∃id,p.2=some id:=(pA ops.toList b i p aa).2.1
   have adN:∀y,(iG T A ops.toList b)[i]? =some y→cls T A y.1=.n→∀id,y.2=some id→h.m id=.fresh∧id<h.next:=fun y aK _ id aT=>eg i (by simp) y aK id aT
   have agr:∀y,(iG T A ops.toList b)[i]? =some y→cls T A y.1=.l→∀id g o,addrOf y.1 y.2 env=.aa id g o→h.m id≠.fresh:=fun y _ dx id g o bD=>by
    obtain⟨t,x,Af⟩:=adL dx
    have iX:=bs.env.aR x
    have he:aR env x=.aa id g o:=by rw[←bD];unfold addrOf;rw[Af]
    rw[he]at iX
    simp only[R]at iX
    obtain⟨c6,x0,aE,_⟩:=iX
    exact bs.rel.used id g _ aE
   have J5:=Qu bt pre env h (fun j aL x y Ag Tx=>by
    rw[aa]at Tx
    cases Tx
    have rJ:j<i:=uu.2.2 j aL i (by simp)
    have ags:=(pA ops.toList b j x Ag).1
    have adO:ops[j]? =some x.1:=by simpa using ags
    have adP:listed.getD j true=false:=((e6 j).1 (by simp[aL])).2
    have F5:((mX ops.toList []).getD i 0).testBit j=false:=by
     cases GI:((mX ops.toList []).getD i 0).testBit j with
     |false=>rfl
     |true=>
      exfalso
      have bh:=OL (S:=fun m=>listed.getD m true=true∨m=i) ops.toList [] [] rfl (fun m HM DN Ms e he aE=>by
       have Le:ops[m]? =some HM:=by simpa using DN
       have DO:∀x,listed.getD x false=true→listed.getD x true=true:=fun x hx=>by
        rcases Nat.lt_or_ge x listed.size with aq|aq
        ·simpa[aq]using hx
        ·simp[Array.getElem?_eq_none aq]
       rcases Ms with Ms|rfl
       ·exact .inl (DO _ (ha m HM Le Ms e he aE))
       ·rw[a8]at Le;cases Le
        exact .inl (DO _ (RN e he aE))) (by simp) i ((mX ops.toList []).getD i 0)
      have fQ:i<(mX ops.toList []).length:=by
       have:∀(l:List Oper) (acc:List Nat),(mX l acc).length=acc.length+l.length:=by
        intro l
        induction l with
        |nil=>intro acc;rfl
        |cons o l agt=>intro acc;simp only[mX,agt,List.length_append,List.length_cons,List.length_nil];omega
       rw[this];simpa using bn
      rcases bh (by simp[List.getD,List.getElem?_eq_getElem fQ]) (.inr rfl) j GI with h1|h1
      ·rw[adP]at h1;cases h1
      ·omega
    rcases abg j i x.1 o rJ adO a8 with GI|⟨h1,h2⟩
    ·rw[F5]at GI;cases GI
    ·refine⟨?_,by rw[zK];exact h2,(pA ops.toList b j x Ag).2.1,uS,fun u v hu aU=>?_⟩
     ·rw[zK]
      rcases h1 with h1|⟨h1,h3⟩
      ·exact .inl h1
      ·exact .inr ⟨h1,⟨i,.inl (h3 F5)⟩,⟨j,.inr (h3 F5)⟩,NF j i (h3 F5)⟩
     ·have:=Bt ops.toList b j i x p rJ Ag aa u v hu aU
      omega) adN agr ad
   obtain⟨bO,gJ,h1,gn,nd,fP,abi,_,J5⟩:=J5
   rw[aa]at nd
   cases nd
   have y9:((c1 P T A ops p env h).bind fun q=>p5 N p.1.dst q.1 env fun env=>some (env,q.2))=some (gn,h1):=by
    rw[fP]
    simp only[Option.bind_some]
    rw[Z0 abi]
   have DP:=Sk (ro:=ro) (K:=wpAnyIn (iW ro) 0 P .any ops Q n (listed.setIfInBounds i true)) (Q:=Q) (k:=fun env h=>some (env,h)) (res:=(gn,h1)) bt bs (fun id aT=>eg i cI p aa id aT) y9 (fun a7 bz ar cb ay aw aH aW bq bU ek=>by
    obtain⟨v,bU⟩:=bU
    simp only[Option.some.injEq,Prod.mk.injEq]at ek
    obtain⟨rfl,rfl⟩:=ek
    refine ih (pre++post) (listed.setIfInBounds i true) a7 bz ar cb ay ?_ ?_ ?_ (by simp[Ce]) ?_ ?_ (bu.trans aw) aH (b6.trans aW) ?_ ?_
    ·simp only[List.length_append,List.length_cons]at hlen⊢;omega
    ·refine List.pairwise_append.2 ⟨uu.1,(List.pairwise_cons.1 uu.2.1).2,fun x hx y aK=>uu.2.2 x hx y (by simp[aK])⟩
    ·intro j
     by_cases rJ:j=i
     ·subst rJ
      constructor
      ·intro aL
       exfalso
       rcases List.mem_append.1 aL with aL|aL
       ·have:=uu.2.2 j aL j (by simp);omega
       ·have:=(List.pairwise_cons.1 uu.2.1).1 j aL;omega
      ·rintro⟨_,aL⟩
       have aq:j<listed.size:=by omega
       simp[aq]at aL
     ·rw[getD_set_ne true (Ne.symm rJ),←e6 j]
      simp[rJ]
    ·intro j ly Mt aq e he aE
     by_cases rJ:j=i
     ·subst rJ
      rw[a8]at Mt;cases Mt
      exact getD_set_true (RN e he aE)
     ·rw[getD_set_ne true (Ne.symm rJ)]at aq
      exact getD_set_true (ha j ly Mt aq e he aE)
    ·intro j aL q aV id aT
     have agu:j∈pre++i::post:=by
      rcases List.mem_append.1 aL with aL|aL<;>simp[aL]
     obtain⟨f1,f2⟩:=eg j agu q aV id aT
     have G_:=((pA ops.toList b j q aV).2.2 id aT)
     have agv:cls T A p.1≠.x:=fun hx=>by
      rcases Bool.or_eq_true_iff.1 AK with AK|AK
      ·have hm:o∈ops.toList:=by
        have:=(pA ops.toList b i p aa).1
        rw[zK]at this
        exact List.mem_of_getElem? this
       have:=List.all_eq_true.1 AK o hm
       rw[←zK,hx]at this
       simp[rC.Tj]at this
      ·have:rb T A ops.toList=0:=by simpa using AK
       omega
     obtain⟨aG,e2⟩:=XW bt agv uS bU
     refine⟨e2 id (fun SH=>?_) f2 f1,Nat.lt_of_lt_of_le f2 aG⟩
     have bS:j≠i:=fun e=>by
      subst e
      rcases List.mem_append.1 aL with aL|aL
      ·have:=uu.2.2 j aL j (by simp);omega
      ·have:=(List.pairwise_cons.1 uu.2.1).1 j aL;omega
     rcases Nat.lt_or_gt_of_ne bS with zL|zL
     ·have:=Bt ops.toList b j i q p zL aV aa id id aT SH;omega
     ·have:=Bt ops.toList b i j p q zL aa aV id id SH aT;omega
    ·intro t bk
     rw[bq t (fun bF=>bk (List.mem_filterMap.2 ⟨o,List.mem_of_getElem? (by simpa using a8),by rw[←zK];exact bF⟩)),cd t bk]
    ·exact J5)
   unfold wpOpIn
   rw[a8]
   rw[zK]at DP
   simp only
   split
   ·rename_i hw;rw[if_pos hw]at DP;exact DP
   ·rename_i hw;rw[if_neg hw]at DP;exact ⟨fun _ _=>trivial,DP⟩
end regions
end Go.Proofs.YtlphgijokknjhaaGreat.Ev
namespace Go.Proofs.YtlphgijokknjhaaGreat.Ev
open Go Go.RowKit
section code
variable{P:Program}{T:Table}{A:fw}{base:Nat}{lo:Nat→Prop}{fn:Func}{rs:an}{α:Type}{ro:Option Nat}
def rh:l_→Exit
 |.normal=> .normal
 |.exit id=> .exit id
 |.ret _=> .ret
def CX(P:Program)(fn:Func)(ρ:Ren)(a:Act)(w:World):l_→Prop
 |.ret v=>∃val,(∀w2,m5 w w2→(results fn a.tmps).run P w2=.ok val w2)∧R ρ v val
 |_=>True
abbrev SI(P:Program)(T:Table)(fn:Func)(base:Nat)(lo:Nat→Prop)(ws:List Nat)(env:Env)(ρ:Ren)(w:World)(k:l_→Env→H→Option α)(res:α)(Q:Exit→Act→World→Prop):Prop:=
 ∀e bz ar a7 cb ay,ρ.le a7→me P T base lo fn.ntmps a7 bz ar cb ay→Below base w ay→(∀t,t∉ws→bz t=env t)→k e bz ar=some res→CX P fn a7 cb ay e→Q (rh e) cb ay
theorem vA{ws:List Nat}{env:Env}{t:Nat}(h:t∉ws):eJ ws env t=env t:=by
 have:ws.any (Nat.beq t)=false:=by
  rw[List.any_eq_false]
  intro x hx
  have:t≠x:=fun e=>h (e▸hx)
  simp[c8 this]
 simp[eJ,this]
theorem XX{ws:List Nat}{env:Env}{t:Nat}(h:t∈ws):eJ ws env t=.undef:=by
 have:ws.any (Nat.beq t)=true:=by
  rw[List.any_eq_true]
  exact ⟨t,h,by simp⟩
 simp[eJ,this]
theorem JH{t:Nat}:∀(ks:List Nat) (bz env:Env),t∈ks→ef ks (ks.map bz) env t=bz t
 |k::ks,bz,env,h=>by
  simp only[List.map_cons,ef,Env.set]
  by_cases he:t=k
  ·subst he;simp
  ·simp only[c8 he,cond_false]
   exact JH ks bz env (by simpa[he]using h)
theorem yy{t:Nat}:∀(ks:List Nat) (vs:List V) (env:Env),t∉ks→ef ks vs env t=env t
 |[],_,_,_=>rfl
 |k::ks,[],env,h=>rfl
 |k::ks,v::vs,env,h=>by
  have he:t≠k:=fun e=>h (by simp[e])
  simp only[ef,Env.set,c8 he,cond_false]
  exact yy ks vs env (fun hh=>h (by simp[hh]))
theorem du.forget{ρ:Ren}{env bz:Env}{a:Act}(he:du ρ bz a){ws:List Nat}(ak:∀t,t∉ws→bz t=env t):du ρ (eJ ws env) a:=fun t=>by
 by_cases bk:t∈ws
 ·rw[XX bk];simp[R]
 ·rw[vA bk,←ak t bk];exact he t
theorem du.jZ{ρ:Ren}{env bz:Env}{a:Act}(he:du ρ bz a){ws ks:List Nat}(ak:∀t,t∉ws→bz t=env t):du ρ (ef ks (ks.map bz) (eJ ws env)) a:=fun t=>by
 by_cases aN:t∈ks
 ·rw[JH ks bz _ aN];exact he t
 ·rw[yy ks _ _ aN];exact he.forget ak t
theorem Fe{env bz:Env}{ws ks:List Nat}(ak:∀t,t∉ws→bz t=env t)(t:Nat)(bk:t∉ws):ef ks (ks.map bz) (eJ ws env) t=env t:=by
 by_cases aN:t∈ks
 ·rw[JH ks bz _ aN];exact ak t bk
 ·rw[yy ks _ _ aN,vA bk]
theorem sf{ks:List Nat}{ts:List ai}{env:Env}{t:aj ts}(h:so ks ts env=some t):aj.un ts t=ks.map env:=aj.fu ts _ t h
theorem JI{ks:List Nat}{ts:List ai}{x0 bY:Option Nat}{e:l_}{env bz:Env}{ar:H}{fl:bG (aj ts) rs.C×H}{k:l_→Env→H→Option α}{res:α}{ws:List Nat}
  (h1:leave rs ks ts x0 bY e bz ar=some fl)(h2:uq rs ks ts x0 bY (eJ ws env) k fl=some res):
  ∃ry,k e ry ar=some res∧(ry=ef ks (ks.map bz) (eJ ws env)∨ry=eJ ws env):=by
 cases e with
 |normal=>
  simp only[leave,Option.bind_eq_some_iff,Option.some.injEq]at h1
  obtain⟨t,bk,rfl⟩:=h1
  simp only[uq,sf bk]at h2
  exact ⟨_,h2,.inl rfl⟩
 |ret v=>
  simp only[leave,Option.bind_eq_some_iff,Option.some.injEq]at h1
  obtain⟨r,af,rfl⟩:=h1
  simp only[uq,an.fu rs v r af]at h2
  exact ⟨_,h2,.inr rfl⟩
 |exit id=>
  simp only[leave]at h1
  split at h1
  ·rename_i a b
   cases bD:Nat.beq id a with
   |true=>
    have:id=a:=Nat.eq_of_beq_eq_true bD
    subst this
    rw[bD]at h1
    simp only[cond_true,Option.bind_eq_some_iff,Option.some.injEq]at h1
    obtain⟨t,bk,rfl⟩:=h1
    simp only[uq,sf bk]at h2
    exact ⟨_,h2,.inl rfl⟩
   |false=>
    rw[bD]at h1
    simp only[cond_false]at h1
    cases aE:Nat.beq id b with
    |true=>
     have:id=b:=Nat.eq_of_beq_eq_true aE
     subst this
     rw[aE]at h1
     simp only[cond_true,Option.bind_eq_some_iff,Option.some.injEq]at h1
     obtain⟨t,bk,rfl⟩:=h1
     simp only[uq,sf bk]at h2
     exact ⟨_,h2,.inl rfl⟩
    |false=>rw[aE]at h1;simp at h1
  ·rename_i a
   cases bD:Nat.beq id a with
   |true=>
    have:id=a:=Nat.eq_of_beq_eq_true bD
    subst this
    rw[bD]at h1
    simp only[cond_true,Option.bind_eq_some_iff,Option.some.injEq]at h1
    obtain⟨t,bk,rfl⟩:=h1
    simp only[uq,sf bk]at h2
    exact ⟨_,h2,.inl rfl⟩
   |false=>rw[bD]at h1;simp at h1
  ·cases h1
theorem N9{ks:List Nat}{ts:List ai}{x0 bY:Option Nat}{env:Env}{fl:bG (aj ts) rs.C×H}{k:l_→Env→H→Option α}{res:α}
  (h:oN rs ks ts x0 bY env k fl=some res):uq rs ks ts x0 bY env k fl=some res:=by
 obtain⟨fl,h2⟩:=fl
 cases fl with
 |next t=>simp[oN]at h
 |ret r=>exact h
 |aP t=>exact h
 |bW t=>exact h
theorem Is{ρ:Ren}{env:Env}{h:H}{a:Act}{w:World}(a6:Rel base ρ h w)(he:du ρ env a)(f:ResultVar→Sem Value)(lk:∀t,f (.tmp t)=pure (a.tmps.getD t undef))
  (kF:∀x t,f (.cell x t)=(do loadVar t (←asAddr (a.tmps.getD x undef)))):∀(l:List ResultVar) (k:List V→Option α) (res:α),yw P l env h k=some res→
  ∃vs us,k vs=some res∧cm ρ vs us∧∀w2,m5 w w2→(l.mapM f).run P w2=.ok us w2
 |[],k,res,ad=>⟨[],[],ad,RE,fun _ _=>by simp⟩
 |.tmp t::l,k,res,ad=>by
  simp only[yw]at ad
  obtain⟨vs,us,h1,h2,h3⟩:=Is a6 he f lk kF l _ res ad
  refine⟨_,a.tmps.getD t undef::us,h1, ?_, ?_⟩
  ·simp only[cm];exact ⟨_,_,rfl,he t,h2⟩
  ·intro w2 gF
   simp only[List.mapM_cons,Sem.run_bind,lk,Sem.run_pure,Result.andThen_ok,h3 w2 gF]
 |.cell x t::l,k,res,ad=>by
  simp only[yw]at ad
  split at ad
  ·rename_i ty g_
   simp only[Option.bind_eq_some_iff]at ad
   obtain⟨y,aK,ad⟩:=ad
   have hx:=he x
   have aa:∃p,a.tmps.getD x undef=.pointer (some p):=by
    cases aU:env x<;>rw[aU]at aK hx
    case aa=>simp only[R]at hx;obtain⟨b,_,_,hx⟩:=hx;exact ⟨_,hx⟩
    case lp=>
     simp only[R]at hx
     rcases hx with⟨rfl,_⟩|⟨b,i,us,_,_,hx⟩
     ·cases ty<;>simp[ah,H.rd,H.fv,H.from]at aK
     ·exact ⟨_,hx⟩
    all_goals cases ty<;>simp[ah,H.rd,H.fv,H.from]at aK
   obtain⟨p,aa⟩:=aa
   rw[aa]at hx
   obtain⟨val,aq,Ml⟩:=OI (P:=P) a6 g_ aK hx
   obtain⟨vs,us,h1,h2,h3⟩:=Is a6 he f lk kF l _ res ad
   have agw:∀w2,m5 w w2→(f (.cell x t)).run P w2=.ok val w2:=fun w2 gF=>by
    rw[kF,aa]
    simp only[asAddr,pure_bind,aq w2 gF]
   refine⟨_,val::us,h1, ?_, ?_⟩
   ·simp only[cm];exact ⟨_,_,rfl,Ml,h2⟩
   ·intro w2 gF
    simp only[List.mapM_cons,Sem.run_bind,agw w2 gF,Sem.run_pure,Result.andThen_ok,h3 w2 gF]
  ·cases ad
def Lf(tmps:Array Value):ResultVar→Sem Value
 |.tmp t=>pure (tmps.getD t undef)
 |.cell x t=>do loadVar t (←asAddr (tmps.getD x undef))
theorem W9(fn:Func)(tmps:Array Value):results fn tmps=(do
  let vs←fn.results.mapM (Lf tmps)
  pure (if h:vs.size=1 then vs[0]else .tuple vs)):=by
 have:(fun(r:ResultVar)=>(match r with
  |.tmp t=>pure (tmps.getD t undef)
  |.cell a t=>do loadVar t (←asAddr (tmps.getD a undef)):Sem Value))=Lf tmps:=by
  funext r
  cases r<;>rfl
 unfold results
 rw[←this]
 rfl
theorem Ou{ρ:Ren}{env:Env}{h:H}{a:Act}{w:World}(a6:Rel base ρ h w)(he:du ρ env a){k:V→Option α}{res:α}(ad:Fs P fn env h k=some res):
  ∃v val,k v=some res∧R ρ v val∧∀w2,m5 w w2→(results fn a.tmps).run P w2=.ok val w2:=by
 unfold Fs at ad
 have af:∃vs us,(match vs with
   |[v]=>k v
   |vs=>k (.tuple vs))=some res∧cm ρ vs us∧∀w2,m5 w w2→(results fn a.tmps).run P w2=.ok (if h:us.toArray.size=1 then us.toArray[0]else .tuple us.toArray) w2:=by
  obtain⟨vs,us,h1,h2,h3⟩:=Is (P:=P) a6 he (Lf a.tmps) (fun _=>rfl) (fun _ _=>rfl) fn.results.toList _ res ad
  refine⟨vs,us,h1,h2,fun w2 gF=>?_⟩
  rw[W9,Sem.run_bind,Array.mapM_eq_mapM_toList]
  simp only[Sem.run_map]
  rw[h3 w2 gF]
  rfl
 obtain⟨vs,us,h1,h2,af⟩:=af
 match vs,us,h1,h2,af with
 |[v],[u],h1,h2,af=>
  simp only[cm]at h2
  obtain⟨kg,cw,e,h2,_⟩:=h2
  simp at e
  obtain⟨rfl,rfl⟩:=e
  exact ⟨v,u,h1,h2,af⟩
 |[],[],h1,h2,af=>
  refine⟨.tuple [],.tuple #[],h1,by simp only[R];exact ⟨[],rfl,h2⟩,fun w2 gF=>by simpa using af w2 gF⟩
 |v::gJ::vs,u::kg::us,h1,h2,af=>
  refine⟨.tuple (v::gJ::vs),.tuple (u::kg::us).toArray,h1,by simp only[R];exact ⟨_,rfl,h2⟩,fun w2 gF=>?_⟩
  rw[af w2 gF]
  simp
 |[],_::_,_,h2,_=>simp[cm]at h2
 |[v],[],_,h2,_=>simp[cm]at h2
 |[v],_::_::_,_,h2,_=>have:=h2.length;simp at this
 |_::_::_,[],_,h2,_=>have:=h2.length;simp at this
 |_::_::_,[_],_,h2,_=>have:=h2.length;simp at this
theorem PZ{S F:Type}{f:S→Option (ca S F)}{c:Code}{Q:Exit→Act→World→Prop}{fl:F}{I:S→Act→World→Prop}
  (round:∀s r a w,f s=some r→I s a w→c.wpIn (iW ro) 0 P (fun e cb ay=>(∃bc,r=.more bc∧e=.normal∧I bc cb ay)∨(r=.done fl∧e≠.normal∧Q e cb ay)∨(∃x,r=.done x∧x≠fl)) a w):
  ∀n s a w,iter n f s=some fl→I s a w→Code.roundsIn (iW ro) 0 P c Q n a w
 |0,s,a,w,h,_=>by simp[iter]at h
 |n+1,s,a,w,h,kl=>by
  simp only[iter,Option.bind_eq_some_iff]at h
  obtain⟨r,af,h⟩:=h
  rw[roundsIn_succ]
  refine wpIn_mono (round s r a w af kl) fun e cb ay he=>?_
  rcases he with⟨bc,rfl,rfl,agx⟩|⟨rfl,bS,aV⟩|⟨x,rfl,hx⟩
  ·exact PZ round n bc cb ay h agx
  ·cases e<;>first |exact absurd rfl bS|exact aV
  ·simp at h;exact absurd h hx
theorem XY{e:l_}(h:e≠.normal):rh e≠.normal:=by cases e<;>simp[rh]at h⊢
theorem Ov:∀(ts:List ai) (x:aj ts),(aj.un ts x).length=ts.length
 |[],_=>rfl
 |[_],_=>rfl
 |_::ea::ts,x=>by simp only[aj.un,List.length_cons,Ov (ea::ts) x.2]
theorem Y2{ts:List ai}{l:Nat}{f:aj ts→H→Option H}:uK (qf ts l f):=fun args h=>by
 cases args with
 |nil=>exact ⟨none,fun _ _=>rfl⟩
 |cons v alo=>
  cases v
  case hR id=>
   refine⟨bif Nat.beq id l then(aj.pack ts alo).bind fun x=>(f x h).bind fun ar=>some (.bool true,ar)else none,fun α k=>?_⟩
   show(bif Nat.beq id l then _ else _)=_
   cases Nat.beq id l
   ·rfl
   ·simp only[cond_true,Option.bind_assoc,Option.bind_some]
  all_goals exact ⟨none,fun _ _=>rfl⟩
theorem O_{s:Nat}:∀(ks:List Nat) (vs:List V) (env bz:Env),env s=bz s→ef ks vs env s=ef ks vs bz s
 |[],_,_,_,h=>h
 |_::_,[],_,_,h=>h
 |k::ks,v::vs,env,bz,h=>by
  simp only[ef,Env.set]
  rw[O_ ks vs env bz h]
theorem du.params{ρ:Ren}:∀(ps:List Nat) (vs:List V) (us:List Value) (env:Env) (a:Act),du ρ env a→ps.Nodup→ps.length=vs.length→cm ρ vs us→(∀t∈ps,t<a.tmps.size)→
  du ρ (ef ps vs env) {a with tmps:=(ps.zip us).foldl (fun tmps p=>tmps.setIfInBounds p.1 p.2) a.tmps}
 |[],[],us,env,a,he,_,_,_,_=>by
  simp only[List.zip_nil_left,List.foldl_nil,ef]
  exact he
 |t::ps,v::vs,us,env,a,he,aM,aq,af,aE=>by
  simp only[cm]at af
  obtain⟨u,cw,rfl,h1,h2⟩:=af
  simp only[List.zip_cons_cons,List.foldl_cons]
  have tm:=List.nodup_cons.1 aM
  have h3:du ρ (env.set t v) {a with tmps:=a.tmps.setIfInBounds t u}:=by
   have:=he.put (d:=t) (v:=v) (val:=u) (aE t (by simp)) h1
   simpa[Act.put]using this
  have aI:=du.params ps vs cw (env.set t v) {a with tmps:=a.tmps.setIfInBounds t u} h3 tm.2 (by simpa using aq) h2 (fun s ad=>by simpa using aE s (by simp[ad]))
  intro s
  have ba:=aI s
  simp only[ef,Env.set]
  by_cases ad:s=t
  ·subst ad
   rw[yy _ _ _ tm.1]at ba
   simp only[Env.set]at ba
   simpa using ba
  ·rw[O_ ps vs (env.set t v) env (by simp[Env.set,c8 ad])]at ba
   simp only[c8 ad,cond_false]
   exact ba
theorem OM:∀(l:List (Nat×Value)) (tmps:Array Value),(l.foldl (fun tmps p=>tmps.setIfInBounds p.1 p.2) tmps).size=tmps.size
 |[],_=>rfl
 |p::l,tmps=>by rw[List.foldl_cons,OM l];simp
theorem Qv:∀{l b3:List V},V.p4 l b3=true→l.length=b3.length
 |[],[],_=>rfl
 |[],_::_,h=>by simp[V.p4]at h
 |_::_,[],h=>by simp[V.p4]at h
 |a::l,b::b3,h=>by
  simp only[V.p4,Bool.and_eq_true]at h
  simp[Qv h.2]
theorem VU{h ar:H}{fZ mid n:Nat}{seen:List Nat}{es:List (V×V)}(hm:h.m mid=.cZ es)(af:BX h ar fZ mid n seen=true):(∃fx,ar.m mid=.cZ fx∧fx.length=es.length)∧ar.m fZ=.jB mid n seen:=by
 unfold BX at af
 rw[hm]at af
 simp only[Bool.and_eq_true]at af
 obtain⟨h1,h2⟩:=af
 constructor
 ·split at h1
  ·rename_i aG e2 cy dd
   cases cy
   simp only[Bool.and_eq_true]at h1
   have:=Qv h1.1
   exact ⟨_,dd,by simpa using this.symm⟩
  ·cases h1
 ·split at h2
  ·rename_i qC AE bc q
   simp only[Bool.and_eq_true,decide_eq_true_eq]at h2
   obtain⟨⟨rfl,rfl⟩,rfl⟩:=h2
   exact q
  ·cases h2
theorem Wk{h:H}{a:V}{p:Nat×Nat×Nat}(hi:iterAt h a=some p):a=.aa p.1 0 0∧h.m p.1=.jB p.2.1 p.2.2 []∧(∃es,h.m p.2.1=.cZ es∧es.length=p.2.2)∧p.2.2≤2^40:=by
 unfold iterAt at hi
 split at hi
 ·rename_i fZ
  split at hi
  ·rename_i mid n hm
   split at hi
   ·rename_i es he
    obtain⟨⟨bu,bs⟩,hi⟩:=fe hi
    cases hi
    exact ⟨rfl,hm,⟨es,he,bu⟩,bs⟩
   ·cases hi
  ·cases hi
 ·cases hi
theorem Wl{R:Type}{n:Nat}{F:List Nat→Option R}{r:R}(h:F1 n F=some r):∀π:List Nat,π.Perm (List.range n)→F π=some r:=by
 unfold F1 at h
 split at h
 ·rename_i hx
  cases h
  exact Classical.choose_spec hx
 ·cases h
theorem VV{N id:Nat}{ops:Array Oper}{kO:Bool}{it d:Tmp}{os:List Oper}(h:mapNext A N id ops kO=some (it,d,os)):kO=false∧∃o,ops.toList=o::os∧o.op=.next (.tmp it) false∧o.dst=some d∧o.guard=none∧d<N:=by
 unfold mapNext at h
 cases ao:(kO||(wo id A.dB).isSome)with
 |true=>rw[ao]at h;cases h
 |false=>
  rw[ao]at h
  simp only[cond_false]at h
  split at h
  ·rename_i o akr a8
   split at h
   ·rename_i aks rW h1 h2 h3
    cases aE:Nat.blt rW N with
    |false=>rw[aE]at h;cases h
    |true=>
     rw[aE]at h
     cases h
     exact ⟨by simpa using(Bool.or_eq_false_iff.1 ao).1,o,a8,h1,h2,h3,by simpa using aE⟩
   ·cases h
  ·cases h
theorem I7{n:Nat}{seen:List Nat}(h1:seen.Nodup)(h2:∀i∈seen,i<n):(seen++(List.range n).filter (fun j=>decide (j∉seen))).Perm (List.range n):=by
 refine (List.perm_ext_iff_of_nodup ?_ List.nodup_range).2 fun a=>?_
 ·rw[List.nodup_append]
  refine⟨h1,List.nodup_range.filter _,fun a bD b aE=>?_⟩
  have:=of_decide_eq_true (List.mem_filter.1 aE).2
  exact fun e=>this (e▸bD)
 ·rw[List.mem_append,List.mem_filter,List.mem_range]
  constructor
  ·rintro(h|⟨h,_⟩)
   ·exact h2 a h
   ·exact h
  ·intro h
   by_cases bD:a∈seen
   ·exact .inl bD
   ·exact .inr ⟨h,decide_eq_true bD⟩
theorem Rel.drawn{base:Nat}{ρ:Ren}{h:H}{w:World}(af:Rel base ρ h w):Rel base ρ h w.drew:=
 ⟨af.ma,af.aE,af.used,af.own,af.kz,af.top,af.sep,af.jg,af.k7,af.je,af.eF.jZ (Ren.le.refl _) (fun _ _ h _=>h) (fun _ h=>h) (fun _ _ h=>h) (fun _ _ e _=>e) (Nat.le_refl _)⟩
theorem Z2{base:Nat}{ρ:Ren}{h:H}{w:World}(af:Rel base ρ h w){fZ mid n:Nat}{seen:List Nat}{es:List (V×V)}(h1:h.m fZ=.jB mid n seen)(h2:h.m mid=.cZ es)(h3:es.length=n){u:Value}(hu:R ρ (.aa fZ 0 0) u)(ty:TypeId):
  ((∀i,i<n→i∈seen)∧(Instr.next u false ty).run P w=.ok (.tuple #[.bool false]) w)∨
  ∃i k v ay,i<n∧i∉seen∧(Instr.next u false ty).run P w=.ok (.tuple #[.bool true,k,v]) ay∧Rel base ρ (h.put fZ (.jB mid n (seen++[i]))) ay∧Below base w ay:=by
 obtain⟨bi,l9,ep,aD,gd,kh⟩:=af.eF.obj _ _ h1 rfl
 simp only[R]at hu
 obtain⟨z_,UR,cy,rfl⟩:=hu
 obtain⟨rfl,rfl⟩:z_=bi∧UR=0:=by rw[ep]at cy;have:=Option.some.inj cy;exact ⟨(Prod.mk.inj this).1.symm,(Prod.mk.inj this).2.symm⟩
 simp only[gX]at kh
 obtain⟨tG,fo,rfl⟩:=kh
 obtain⟨rH,HM,aw,aH,aW,bq⟩:=af.eF.obj _ _ h2 rfl
 obtain rfl:rH=tG:=by rw[aw]at fo;exact (Prod.mk.inj (Option.some.inj fo)).1
 simp only[gX]at bq
 obtain⟨us,rfl,bw,bJ⟩:=bq
 have hlen:us.length=n:=by have:=bw.length;simp at this;omega
 have e6:∀x,x∈(dR us).toList↔∃i,∃hi:i<us.length,x=fV us[i] i:=fun x=>by
  rw[qU,List.mem_map]
  constructor
  ·rintro⟨⟨q,i⟩,aV,rfl⟩
   rw[List.mem_zipIdx_iff_getElem?]at aV
   obtain⟨hi,he⟩:=List.getElem?_eq_some_iff.1 aV
   exact ⟨i,hi,by simp only at he;rw[he]⟩
  ·rintro⟨i,hi,rfl⟩
   exact ⟨(us[i],i),List.mem_zipIdx_iff_getElem?.2 (by simp[hi]),rfl⟩
 rcases run_next_at (P:=P) w ty z_ rH n n seen.toArray (dR us) us.length gd aW (fun x hx=>by
   obtain⟨i,hi,rfl⟩:=(e6 x).1 hx
   show i<n
   omega) (Nat.le_refl _)with⟨aO,cV⟩|⟨e,he,w1,od,cV⟩
 ·refine .inl ⟨fun i hi=>?_,cV⟩
  have aq:leftOf (dR us) seen.toArray= #[]:=Array.eq_empty_of_size_eq_zero aO
  unfold leftOf at aq
  rw[Array.filter_eq_empty_iff]at aq
  have:=aq (fV (us[i]'(by omega)) i) (by rw[←Array.mem_toList_iff];exact (e6 _).2 ⟨i,by omega,rfl⟩)
  simpa[fV]using this
 ·unfold leftOf at he
  have fP:e∈(dR us).toList∧¬e.born∈seen:=by simpa using he
  obtain⟨i,hi,rfl⟩:=(e6 e).1 fP.1
  refine .inr ⟨i,us[i].1,us[i].2,_,by omega,fP.2,cV, ?_⟩
  have rK:Rel base ρ h w1:=by rcases od with rfl |rfl;exact af;exact af.drawn
  have z1:Below base w w1:=by rcases od with rfl |rfl;exact Below.refl _ _;exact (Below.refl base w).drew
  have ie:ChangeMaps.setBlock w1 z_ (.mapIter (some rH) n (seen.toArray.push i) us.length)=w1.putObj z_ (.mapIter (some rH) n (seen.toArray.push i) us.length):=rfl
  obtain⟨s1,s2⟩:=rK.setObj (bc:=.jB mid n (seen++[i])) (dL:=.mapIter (some rH) n (seen.toArray.push i) us.length) h1 rfl rfl ep (by
   simp only[gX]
   exact ⟨rH,aw,by rw[hlen];simp⟩)
  show Rel base ρ _ (ChangeMaps.setBlock w1 z_ (.mapIter (some rH) n (seen.toArray.push i) us.length))∧_
  rw[ie]
  exact ⟨s1,z1.trans s2⟩
def DQ(P:Program)(T:Table)(fn:Func)(rs:an)(base:Nat)(lo:Nat→Prop)(c:Code):Prop:=
 ∀(A:fw) (ro:Option Nat) (e0:A.inr=false→ro=none) (env:Env) (h:H) {α:Type} (k:l_→Env→H→Option α) (res:α) (ρ:Ren) (a:Act) (w:World) (Q:Exit→Act→World→Prop),
  evalCode P T A fn rs c env h k=some res→me P T base lo fn.ntmps ρ env h a w→SI P T fn base lo (writes c) env ρ w k res Q→c.wpIn (iW ro) 0 P Q a w
theorem Y3(bt:eT P T){id:Nat}{ops:Array Oper}{kO:Bool}{rest:Code}{it d:Tmp}{os:List Oper}(y_:∀r y,Code.seq (.region id ops kO) rest=.seq r y→DQ P T fn rs base lo y){A:fw}(hQ:mapNext A fn.ntmps id ops kO=some (it,d,os))
  {ro:Option Nat}(e0:A.inr=false→ro=none){env:Env}{h:H}{α:Type}{k:l_→Env→H→Option α}{res:α}{ρ:Ren}{a:Act}{w:World}{Q:Exit→Act→World→Prop}(a6:me P T base lo fn.ntmps ρ env h a w)
  (aN:SI P T fn base lo (writes (.loop (.seq (.region id ops kO) rest))) env ρ w k res Q){ks:List Nat}{ts:List ai}{dc:List Nat}{fI:List ai}{x0 bY:Option Nat}{t0:aj ts}(Ha:so ks ts env=some t0)(sL:∀t,t∉writes (.seq (.region id ops kO) rest)→t∉ks)
  (ad:(bif (writes (.seq (.region id ops kO) rest)).any (Nat.beq it)then none else
   (iterAt h (env it)).bind fun p=>F1 p.2.2 fun π=>
    (ui p.1 p.2.1 p.2.2
     (fun s:aj ts×H=>hN P T A fn.ntmps ops (os.map fun o=>(o,none)) ((ef ks (aj.un ts s.1) (eJ (writes (.seq (.region id ops kO) rest)) env)).set d (.tuple [.bool true,.undef,.undef])) s.2 fun bz ar=>evalCode P T A fn rs rest bz ar (g7 rs ks ts dc fI x0 bY))
     (fun s:aj ts×H=>hN P T A fn.ntmps ops (os.map fun o=>(o,none)) ((ef ks (aj.un ts s.1) (eJ (writes (.seq (.region id ops kO) rest)) env)).set d (.tuple [.bool false])) s.2 fun bz ar=>evalCode P T A fn rs rest bz ar (g7 rs ks ts dc fI x0 bY))
     [] π (t0,h)).bind (oN rs dc fI x0 bY (eJ (writes (.seq (.region id ops kO) rest)) env) k))=some res):(Code.loop (.seq (.region id ops kO) rest)).wpIn (iW ro) 0 P Q a w:=by
 have adQ:DQ P T fn rs base lo rest:=y_ _ _ rfl
 obtain⟨rfl,o,GJ,Af,SJ,agy,agz⟩:=VV hQ
 generalize hx:Code.seq (.region id ops false) rest=x at*
 cases CY:(writes x).any (Nat.beq it)with
 |true=>rw[CY]at ad;simp at ad
 |false=>
 rw[CY]at ad
 simp only[cond_false]at ad
 obtain⟨⟨fZ,mid,n⟩,agA,Hb⟩:=Option.bind_eq_some_iff.1 ad
 obtain⟨dh,cH,⟨es,fS,pr⟩,u_⟩:=Wk agA
 have Hb:=Wl Hb
 simp only at dh cH fS pr u_ Hb
 have CY:it∉writes x:=fun hm=>by
  have:(writes x).any (Nat.beq it)=true:=List.any_eq_true.2 ⟨it,hm,by simp⟩
  rw[CY]at this;cases this
 have agB:writes x=t_ ops.toList++writes rest:=by rw[←hx];rfl
 have agC:d∈t_ ops.toList:=by
  rw[GJ]
  exact List.mem_filterMap.2 ⟨o,by simp,SJ⟩
 have abj:ops.size=os.length+1:=by
  have:=congrArg List.length GJ
  simpa using this
 have out:∀(fl:bG (aj fI) rs.C×H) (gn:Env) (gL:Ren) (w1:World),ρ.le gL→Below base w w1→(∀t,t∉writes x→gn t=env t)→oN rs dc fI x0 bY (eJ (writes x) env) k fl=some res→
   ∀e bz ar a7 cb ay,gL.le a7→me P T base lo fn.ntmps a7 bz ar cb ay→Below base w1 ay→(∀t,t∉writes x→bz t=gn t)→CX P fn a7 cb ay e→leave rs dc fI x0 bY e bz ar=some fl→Q (rh e) cb ay:=by
  intro fl gn gL w1 bu bs b6 lb e bz ar a7 cb ay aw aH aW bq bU ek
  have lb:=N9 lb
  have eg:∀t,t∉writes x→bz t=env t:=fun t bk=>by rw[bq t bk,b6 t bk]
  obtain⟨ry,ep,aD⟩:=JI ek lb
  rcases aD with rfl |rfl
  ·exact aN e _ ar a7 cb ay (bu.trans aw) ⟨aH.rel,aH.env.jZ eg,aH.size,aH.j9,aH.defers⟩ (bs.trans aW) (Fe eg) ep bU
  ·exact aN e _ ar a7 cb ay (bu.trans aw) ⟨aH.rel,aH.env.forget eg,aH.size,aH.j9,aH.defers⟩ (bs.trans aW) (fun t bk=>vA bk) ep bU
 refine wpIn_loop_rounds (n+1) ?_
 have key:∀(N m:Nat) (seen:List Nat) (s:aj ts×H) (a1:Act) (w1:World) (gL:Ren),seen.Nodup→(∀i∈seen,i<n)→n=seen.length+m→
   (∀π,(seen++π).Perm (List.range n)→(ui fZ mid n
     (fun s:aj ts×H=>hN P T A fn.ntmps ops (os.map fun o=>(o,none)) ((ef ks (aj.un ts s.1) (eJ (writes x) env)).set d (.tuple [.bool true,.undef,.undef])) s.2 fun bz ar=>evalCode P T A fn rs rest bz ar (g7 rs ks ts dc fI x0 bY))
     (fun s:aj ts×H=>hN P T A fn.ntmps ops (os.map fun o=>(o,none)) ((ef ks (aj.un ts s.1) (eJ (writes x) env)).set d (.tuple [.bool false])) s.2 fun bz ar=>evalCode P T A fn rs rest bz ar (g7 rs ks ts dc fI x0 bY))
     seen π s).bind (oN rs dc fI x0 bY (eJ (writes x) env) k)=some res)→
   ρ.le gL→me P T base lo fn.ntmps gL (ef ks (aj.un ts s.1) (eJ (writes x) env)) s.2 a1 w1→Below base w w1→s.2.m fZ=.jB mid n seen→(∃es,s.2.m mid=.cZ es∧es.length=n)→
   m<N→Code.roundsIn (iW ro) 0 P x Q N a1 w1:=by
  intro N
  induction N with
  |zero=>exact fun m seen s a1 w1 gL h1 h2 h3 aI ba bp bE h8 h9 kj=>absurd kj (Nat.not_lt_zero _)
  |succ N ih=>
   intro m seen s a1 w1 gL h1 h2 h3 aI ba bp bE h8 h9 kj
   obtain⟨Tr,aG,e2⟩:=h9
   rw[roundsIn_succ]
   have agD:ops[0]? =some o:=by
    have:ops.toList[0]? =some o:=by rw[GJ];rfl
    simpa using this
   have CZ:∀t,t∉writes x→ef ks (aj.un ts s.1) (eJ (writes x) env) t=env t:=fun t bk=>by rw[yy ks _ _ (sL t bk),vA bk]
   have Mn:R gL (.aa fZ 0 0) (a1.eval (.tmp it)):=by
    have:=bp.env.aR (.tmp it)
    simp only[aR,CZ it CY,dh]at this
    exact this
   have go:∀(tJ:V) (val:Value) (Ah:H) (w2:World) (r:ca (aj ts×H) (bG (aj fI) rs.C×H)),(Instr.next (a1.eval (.tmp it)) false o.type).run P w1=.ok val w2→R gL tJ val→Rel base gL Ah w2→Below base w1 w2→
     hN P T A fn.ntmps ops (os.map fun o=>(o,none)) ((ef ks (aj.un ts s.1) (eJ (writes x) env)).set d tJ) Ah (fun bz ar=>evalCode P T A fn rs rest bz ar (g7 rs ks ts dc fI x0 bY))=some r→
     (∀e bz ar a7 cb ay,gL.le a7→me P T base lo fn.ntmps a7 bz ar cb ay→Below base w1 ay→(∀t,t∉writes x→bz t=ef ks (aj.un ts s.1) (eJ (writes x) env) t)→CX P fn a7 cb ay e→g7 rs ks ts dc fI x0 bY e bz ar=some r→Exit.then (Code.roundsIn (iW ro) 0 P x Q N) Q (rh e) cb ay)→
     (Code.seq (.region id ops false) rest).wpIn (iW ro) 0 P (Exit.then (Code.roundsIn (iW ro) 0 P x Q N) Q) a1 w1:=by
    intro tJ val Ah w2 r cV agE fY fN DR abk
    refine wpIn_seq (wpIn_region ?_)
    rw[abj,List.range_eq_range',List.range'_succ]
    simp only[wpOpsIn,agD]
    have abl:Region.wanted o (yielded ops a1.tmps)=true:=by simp[Region.wanted,agy]
    rw[if_pos abl]
    refine RF (fun c ao=>by rw[Af]at ao;cases ao) ?_
    refine dX (val:=val) (ay:=w2) ?_ ?_
    ·simp only[execOp,Af,Sem.run_bind,cV,Result.andThen_ok,Sem.run_pure]
    ·rw[SJ]
     have Ae:d<a1.tmps.size:=by rw[bp.size];exact agz
     refine vF (ro:=ro) (A:=A) (ops:=ops) (ρ₀:=gL) (env₀:=ef ks (aj.un ts s.1) (eJ (writes x) env)) (w₀:=w1) (res:=r) bt (fun a7 bz ar cb ay bu bs b6 cd cp=>?_) os 1 (by rw[GJ];rfl) gL _ Ah (a1.put (some d) val) w2 (Ren.le.refl _)
      ⟨fY,bp.env.put Ae agE,by simp[Act.put,bp.size],bp.j9,bp.defers⟩ fN (fun t bk=>?_) DR
     ·refine adQ A ro e0 bz ar _ r a7 cb ay _ cp bs fun e abm Ab agF agG Hc aw aH aW bq bU ek=>abk e abm Ab agF agG Hc (bu.trans aw) aH (b6.trans aW) (fun t bk=>?_) ek bU
      rw[agB]at bk
      rw[bq t (fun hh=>bk (List.mem_append_right _ hh)),cd t (fun hh=>bk (List.mem_append_left _ hh))]
     ·have:t≠d:=fun e=>bk (by rw[e];exact agC)
      simp[Env.set,c8 this]
   have Sl:(Code.seq (.region id ops false) rest).wpIn (iW ro) 0 P (Exit.then (Code.roundsIn (iW ro) 0 P x Q N) Q) a1 w1:=by
    rcases Z2 (P:=P) bp.rel h8 aG e2 Mn o.type with⟨ey,cV⟩|⟨i,ajn,ajo,w2,hi,agH,cV,fY,fN⟩
    ·have C0:(List.range n).filter (fun j=>decide (j∉seen))=[]:=by
      rw[List.filter_eq_nil_iff]
      intro j aL
      have:=ey j (List.mem_range.1 aL)
      simpa using this
     have aa:=I7 h1 h2
     rw[C0]at aa
     have DS:=aI [] aa
     simp only[ui,Option.bind_eq_some_iff]at DS
     obtain⟨fl,⟨r,af,nh⟩,lb⟩:=DS
     cases r with
     |more _=>cases nh
     |done qn=>
      cases nh
      refine go (.tuple [.bool false]) _ s.2 w1 _ cV ?_ bp.rel (Below.refl _ _) af fun e bz ar a7 cb ay bu bs b6 cd cp eH=>?_
      ·simp only[R]
       exact ⟨[.bool false],rfl,by simp only[cm];exact ⟨_,_,rfl,hk.2 rfl,rfl⟩⟩
      ·have ig:=out fl _ gL w1 ba bE CZ lb e bz ar a7 cb ay bu bs b6 cd cp
       cases e with
       |normal=>
        simp only[g7,Option.bind_eq_some_iff,Option.some.injEq,reduceCtorEq,and_false,exists_false]at eH
       |exit id=>
        simp only[g7,Option.bind_eq_some_iff,Option.some.injEq,ca.done.injEq,exists_eq_right]at eH
        exact ig eH
       |ret v=>
        simp only[g7,Option.bind_eq_some_iff,Option.some.injEq,ca.done.injEq,exists_eq_right]at eH
        exact ig eH
    ·have jj:(seen++[i]).Nodup:=by
      rw[List.nodup_append]
      refine⟨h1,by simp,fun a bD b aE=>?_⟩
      simp at aE
      subst aE
      exact fun e=>agH (e▸bD)
     have bn:∀j∈seen++[i],j<n:=fun j aL=>by
      rcases List.mem_append.1 aL with aL|aL
      ·exact h2 j aL
      ·simp at aL;subst aL;exact hi
     have DS:∀π,((seen++[i])++π).Perm (List.range n)→∃r,hN P T A fn.ntmps ops (os.map fun o=>(o,none)) ((ef ks (aj.un ts s.1) (eJ (writes x) env)).set d (.tuple [.bool true,.undef,.undef])) (s.2.put fZ (.jB mid n (seen++[i]))) (fun bz ar=>evalCode P T A fn rs rest bz ar (g7 rs ks ts dc fI x0 bY))=some r∧
       (∀fl,r=.done fl→oN rs dc fI x0 bY (eJ (writes x) env) k fl=some res)∧(∀bc,r=.more bc→BX (s.2.put fZ (.jB mid n (seen++[i]))) bc.2 fZ mid n (seen++[i])=true∧(ui fZ mid n
     (fun s:aj ts×H=>hN P T A fn.ntmps ops (os.map fun o=>(o,none)) ((ef ks (aj.un ts s.1) (eJ (writes x) env)).set d (.tuple [.bool true,.undef,.undef])) s.2 fun bz ar=>evalCode P T A fn rs rest bz ar (g7 rs ks ts dc fI x0 bY))
     (fun s:aj ts×H=>hN P T A fn.ntmps ops (os.map fun o=>(o,none)) ((ef ks (aj.un ts s.1) (eJ (writes x) env)).set d (.tuple [.bool false])) s.2 fun bz ar=>evalCode P T A fn rs rest bz ar (g7 rs ks ts dc fI x0 bY))
     (seen++[i]) π bc).bind (oN rs dc fI x0 bY (eJ (writes x) env) k)=some res):=fun π xC=>by
      have aV:=aI (i::π) (by simpa using xC)
      simp only[ui]at aV
      obtain⟨fl,DT,lZ⟩:=Option.bind_eq_some_iff.1 aV
      obtain⟨r,af,nh⟩:=Option.bind_eq_some_iff.1 DT
      refine⟨r,af,fun qn e=>?_,fun bc e=>?_⟩
      ·subst e;cases nh;exact lZ
      ·subst e
       simp only at nh
       cases e0:BX (s.2.put fZ (.jB mid n (seen++[i]))) bc.2 fZ mid n (seen++[i])with
       |false=>rw[e0]at nh;cases nh
       |true=>
        rw[e0]at nh
        simp only[cond_true]at nh
        exact ⟨rfl,by rw[nh];exact lZ⟩
     obtain⟨r,af,Sm,abn⟩:=DS _ (I7 jj bn)
     have dP:∀π,((seen++[i])++π).Perm (List.range n)→∀bc,r=.more bc→(ui fZ mid n
     (fun s:aj ts×H=>hN P T A fn.ntmps ops (os.map fun o=>(o,none)) ((ef ks (aj.un ts s.1) (eJ (writes x) env)).set d (.tuple [.bool true,.undef,.undef])) s.2 fun bz ar=>evalCode P T A fn rs rest bz ar (g7 rs ks ts dc fI x0 bY))
     (fun s:aj ts×H=>hN P T A fn.ntmps ops (os.map fun o=>(o,none)) ((ef ks (aj.un ts s.1) (eJ (writes x) env)).set d (.tuple [.bool false])) s.2 fun bz ar=>evalCode P T A fn rs rest bz ar (g7 rs ks ts dc fI x0 bY))
     (seen++[i]) π bc).bind (oN rs dc fI x0 bY (eJ (writes x) env) k)=some res:=fun π xC bc e=>by
      obtain⟨fa,kG,_,w7⟩:=DS π xC
      obtain rfl:fa=r:=by rw[af]at kG;exact (Option.some.inj kG).symm
      exact (w7 bc e).2
     refine go (.tuple [.bool true,.undef,.undef]) _ _ w2 r cV ?_ fY fN af fun e bz ar a7 cb ay bu bs b6 cd cp eH=>?_
     ·simp only[R]
      exact ⟨[.bool true,ajn,ajo],rfl,by simp only[cm];exact ⟨_,_,rfl,hk.2 rfl,_,_,rfl,by simp[R],_,_,rfl,by simp[R],rfl⟩⟩
     ·cases e with
      |normal=>
       simp only[g7,Option.bind_eq_some_iff,Option.some.injEq]at eH
       obtain⟨ea,DU,rfl⟩:=eH
       obtain⟨aw,aH⟩:=abn _ rfl
       have iq:(s.2.put fZ (.jB mid n (seen++[i]))).m mid=.cZ Tr:=by
        have bS:mid≠fZ:=fun e=>by rw[e,h8]at aG;cases aG
        simp[H.put,c8 bS,aG]
       obtain⟨⟨fx,cy,dd⟩,dF⟩:=VU iq aw
       have G8:m≠0:=fun g0=>by
        have aa:=I7 jj bn
        have:=aa.length_eq
        simp at this
        omega
       have eg:∀t,t∉writes x→bz t=env t:=fun t bk=>by rw[cd t bk,CZ t bk]
       refine ih (m-1) (seen++[i]) (ea,ar) cb ay a7 jj bn (by simp;omega) (fun π xC=>dP π xC _ rfl) (ba.trans bu) ?_ (bE.trans b6) dF ⟨fx,cy,by rw[dd];exact e2⟩ (by omega)
       simp only[sf DU]
       exact ⟨bs.rel,bs.env.jZ eg,bs.size,bs.j9,bs.defers⟩
      |exit id=>
       simp only[g7,Option.bind_eq_some_iff,Option.some.injEq]at eH
       obtain⟨fl,j_,rfl⟩:=eH
       exact out fl _ gL w1 ba bE CZ (Sm fl rfl) (.exit id) bz ar a7 cb ay bu bs b6 cd cp j_
      |ret v=>
       simp only[g7,Option.bind_eq_some_iff,Option.some.injEq]at eH
       obtain⟨fl,j_,rfl⟩:=eH
       exact out fl _ gL w1 ba bE CZ (Sm fl rfl) (.ret v) bz ar a7 cb ay bu bs b6 cd cp j_
   rw[hx]at Sl
   exact Sl
 refine key (n+1) n [] (t0,h) a w ρ List.nodup_nil (fun i hi=>by cases hi) (by simp) (fun π xC=>Hb π (by simpa using xC)) (Ren.le.refl _) ?_ (Below.refl _ _) cH ⟨es,fS,pr⟩ (by omega)
 simp only[sf Ha]
 exact ⟨a6.rel,a6.env.jZ (fun _ _=>rfl),a6.size,a6.j9,a6.defers⟩
theorem Wm(bt:eT P T)(hm:P.follows .mixedOrders=true):∀c:Code,DQ P T fn rs base lo c∧∀r x,c=.seq r x→DQ P T fn rs base lo x:=by
 intro c
 induction c with
 |skip=>
  refine⟨?_,fun _ _ e=>by cases e⟩
  intro A ro e0 env h α k res ρ a w Q ad a6 aN
  exact wpIn_skip (aN .normal env h ρ a w (Ren.le.refl _) a6 (Below.refl _ _) (fun _ _=>rfl) ad trivial)
 |label l=>
  refine⟨?_,fun _ _ e=>by cases e⟩
  intro A ro e0 env h α k res ρ a w Q ad a6 aN
  exact wpIn_label (aN .normal env h ρ a w (Ren.le.refl _) a6 (Below.refl _ _) (fun _ _=>rfl) ad trivial)
 |exit id=>
  refine⟨?_,fun _ _ e=>by cases e⟩
  intro A ro e0 env h α k res ρ a w Q ad a6 aN
  exact wpIn_exit (aN (.exit id) env h ρ a w (Ren.le.refl _) a6 (Below.refl _ _) (fun _ _=>rfl) ad trivial)
 |ret=>
  refine⟨?_,fun _ _ e=>by cases e⟩
  intro A ro e0 env h α k res ρ a w Q ad a6 aN
  simp only[evalCode]at ad
  obtain⟨v,val,h1,h2,h3⟩:=Ou (P:=P) a6.rel a6.env ad
  exact wpIn_ret (aN (.ret v) env h ρ a w (Ren.le.refl _) a6 (Below.refl _ _) (fun _ _=>rfl) h1 ⟨val,h3,h2⟩)
 |region id ops draw=>
  refine⟨?_,fun _ _ e=>by cases e⟩
  intro A ro e0 env h α k res ρ a w Q ad a6 aN
  have key:∀{β:Type} (aH:Env→H→Option β) (bJ:β),(bif draw then(bif yR T A ops then hN P T A fn.ntmps ops (iG T A ops.toList h.next) env (h.de (rb T A ops.toList)) (fun bz ar=>FP (iG T A ops.toList h.next) bz (pQ T A ops) (aH bz ar))else none)
    else hN P T A fn.ntmps ops (ops.toList.map fun o=>(o,none)) env h aH)=some bJ→
    (∀a7 bz ar cb ay,ρ.le a7→me P T base lo fn.ntmps a7 bz ar cb ay→Below base w ay→(∀t,t∉t_ ops.toList→bz t=env t)→aH bz ar=some bJ→Q .normal cb ay)→(Code.region id ops draw).wpIn (iW ro) 0 P Q a w:=by
   intro β aH bJ h2 qo
   cases draw with
   |false=>
    simp only[cond_false]at h2
    refine wpIn_region ?_
    have:=vF (ro:=ro) (Q:=Q) (w₀:=w) bt qo ops.toList 0 rfl ρ env h a w (Ren.le.refl _) a6 (Below.refl _ _) (fun _ _=>rfl) h2
    rw[List.range_eq_range']
    simpa using this
   |true=>
    simp only[cond_true]at h2
    cases bF:yR T A ops with
    |false=>rw[bF]at h2;simp at h2
    |true=>
     rw[bF]at h2
     simp only[cond_true]at h2
     refine wpIn_region_any hm ?_
     have kG:Rel base ρ (h.de (rb T A ops.toList)) w.drew:=
      ⟨a6.rel.ma,a6.rel.aE,a6.rel.used,a6.rel.own,a6.rel.kz,fun i hi=>a6.rel.top i (by simp only[H.de]at hi;omega),a6.rel.sep,a6.rel.jg,a6.rel.k7,a6.rel.je,a6.rel.eF.jZ (Ren.le.refl _) (fun _ _ h _=>h) (fun _ h=>h) (fun _ _ h=>h) (fun _ _ e _=>e) (Nat.le_refl _)⟩
     have fN:Below base w w.drew:=(Below.refl base w).drew
     have Mu:=bF
     simp only[yR,Bool.and_eq_true,List.all_eq_true]at Mu
     obtain⟨HP,ak,Mv,_,abo⟩:=Rb (ids:=iG T A ops.toList h.next) (hot:=fun i=>∃j,(i,j)∈pQ T A ops∨(j,i)∈pQ T A ops) bt (fun i p aa=>by simpa using(pA ops.toList h.next i p aa).1)
      (fun i hi=>by
       obtain⟨j,aL|aL⟩:=hi
       ·exact (Mu.1.1.2 _ aL).1
       ·exact (Mu.1.1.2 _ aL).2) _ 0 env _ rfl h2
     obtain⟨rF,NF⟩:=Ot Mv
     refine FQ (ro:=ro) (N:=fn.ntmps) bt bF (b:=h.next) (ρ₀:=ρ) (env₀:=env) (w₀:=w) rF NF qo ops.size (List.range ops.size) (Array.replicate ops.size false) ρ env (h.de (rb T A ops.toList)) a w.drew (by simp) List.pairwise_lt_range ?_ (by simp) ?_ ?_
      (Ren.le.refl _) ⟨kG,a6.env,a6.size,a6.j9,a6.defers⟩ fN (fun _ _=>rfl) ?_
     ·intro i
      simp only[List.mem_range]
      constructor
      ·intro hi;exact ⟨hi,by simp[hi]⟩
      ·exact fun hi=>hi.1
     ·intro i o a8 aq e he aE
      have:i<ops.size:=(Array.getElem?_eq_some_iff.1 a8).1
      simp[this]at aq
     ·intro i hi p aa id aT
      obtain⟨_,h2,h3⟩:=(pA ops.toList h.next i p aa).2.2 id aT
      exact ⟨a6.rel.top id h2,by simp only[H.de];exact h3⟩
     ·have aq:ops.size=(iG T A ops.toList h.next).length:=by rw[Ii];simp
      rw[List.range_eq_range',aq]
      exact abo
  simp only[evalCode]at ad
  split at ad
  ·exact key _ _ ad fun a7 bz ar cb ay bu bs b6 cd cp=>aN .normal bz ar a7 cb ay bu bs b6 cd cp trivial
  ·rename_i ks ts aL
   simp only[Option.bind_eq_some_iff]at ad
   obtain⟨⟨t,h2⟩,iu,fi⟩:=ad
   refine key _ _ iu fun a7 bz ar cb ay bu bs b6 cd cp=>?_
   simp only[Option.bind_eq_some_iff,Option.some.injEq,Prod.mk.injEq]at cp
   obtain⟨ea,bk,rfl,rfl⟩:=cp
   simp only[sf bk]at fi
   exact aN .normal _ ar a7 cb ay bu ⟨bs.rel,bs.env.jZ cd,bs.size,bs.j9,bs.defers⟩ b6 (Fe cd) fi trivial
 |seq x y Hd DV=>
  refine⟨?_,fun _ _ e=>by cases e;exact DV.1⟩
  intro A ro e0 env h α k res ρ a w Q ad a6 aN
  simp only[evalCode]at ad
  refine wpIn_seq (Hd.1 A ro e0 env h _ res ρ a w _ ad a6 fun e bz ar a7 cb ay bu bs b6 cd cp eH=>?_)
  have hw:∀t,t∉writes (.seq x y)→bz t=env t:=fun t bk=>cd t fun hh=>bk (by simp[writes,hh])
  cases e with
  |normal=>
   refine DV.1 A ro e0 bz ar k res a7 cb ay Q cp bs fun e2 ry h2 po a2 w2 aw aH aW bq bU ek=>aN e2 ry h2 po a2 w2 (bu.trans aw) aH (b6.trans aW) (fun t bk=>?_) bU ek
   rw[bq t fun hh=>bk (by simp[writes,hh]),hw t bk]
  |exit id=>exact aN (.exit id) bz ar a7 cb ay bu bs b6 hw cp eH
  |ret v=>exact aN (.ret v) bz ar a7 cb ay bu bs b6 hw cp eH
 |cond c x y Hd DV=>
  refine⟨?_,fun _ _ e=>by cases e⟩
  intro A ro e0 env h α k res ρ a w Q ad a6 aN
  simp only[evalCode]at ad
  split at ad
  ·rename_i g aQ
   have ao:=a6.env.aR c
   rw[aQ,hk]at ao
   split at ad
   ·cases g with
    |true=>
     exact wpIn_cond ao (Hd.1 A ro e0 env h k res ρ a w Q ad a6 fun e bz ar a7 cb ay bu bs b6 cd cp eH=>aN e bz ar a7 cb ay bu bs b6 (fun t bk=>cd t fun hh=>bk (by simp[writes,hh])) cp eH)
    |false=>
     exact wpIn_cond ao (DV.1 A ro e0 env h k res ρ a w Q ad a6 fun e bz ar a7 cb ay bu bs b6 cd cp eH=>aN e bz ar a7 cb ay bu bs b6 (fun t bk=>cd t fun hh=>bk (by simp[writes,hh])) cp eH)
   ·rename_i ks ts x0 bY _
    simp only[Option.bind_eq_some_iff]at ad
    obtain⟨fl,iu,fi⟩:=ad
    have fin:∀e bz ar a7 cb ay,ρ.le a7→me P T base lo fn.ntmps a7 bz ar cb ay→Below base w ay→(∀t,t∉writes (.cond c x y)→bz t=env t)→leave rs ks ts x0 bY e bz ar=some fl→CX P fn a7 cb ay e→Q (rh e) cb ay:=fun e bz ar a7 cb ay bu bs b6 cd cp eH=>by
     obtain⟨ry,ep,aD⟩:=JI cp fi
     rcases aD with rfl |rfl
     ·exact aN e _ ar a7 cb ay bu ⟨bs.rel,bs.env.jZ cd,bs.size,bs.j9,bs.defers⟩ b6 (Fe cd) ep eH
     ·exact aN e _ ar a7 cb ay bu ⟨bs.rel,bs.env.forget cd,bs.size,bs.j9,bs.defers⟩ b6 (fun t bk=>vA bk) ep eH
    cases g with
    |true=>
     exact wpIn_cond ao (Hd.1 A ro e0 env h _ fl ρ a w Q iu a6 fun e bz ar a7 cb ay bu bs b6 cd cp eH=>fin e bz ar a7 cb ay bu bs b6 (fun t bk=>cd t fun hh=>bk (by simp[writes,hh])) cp eH)
    |false=>
     exact wpIn_cond ao (DV.1 A ro e0 env h _ fl ρ a w Q iu a6 fun e bz ar a7 cb ay bu bs b6 cd cp eH=>fin e bz ar a7 cb ay bu bs b6 (fun t bk=>cd t fun hh=>bk (by simp[writes,hh])) cp eH)
  ·cases ad
 |block id x ih=>
  refine⟨?_,fun _ _ e=>by cases e⟩
  intro A ro e0 env h α k res ρ a w Q ad a6 aN
  simp only[evalCode]at ad
  refine wpIn_block (ih.1 A ro e0 env h _ res ρ a w _ ad a6 fun e bz ar a7 cb ay bu bs b6 cd cp eH=>?_)
  cases e with
  |normal=>exact aN .normal bz ar a7 cb ay bu bs b6 cd cp trivial
  |ret v=>exact aN (.ret v) bz ar a7 cb ay bu bs b6 cd cp eH
  |exit j=>
   simp only[rh,Exit.inBlock]
   simp only at cp
   by_cases aL:j=id
   ·subst aL
    rw[if_pos rfl]
    simp only[show Nat.beq j j=true by simp,cond_true]at cp
    exact aN .normal bz ar a7 cb ay bu bs b6 cd cp trivial
   ·rw[if_neg aL]
    simp only[c8 aL,cond_false]at cp
    exact aN (.exit j) bz ar a7 cb ay bu bs b6 cd cp trivial
 |loop x ih=>
  refine⟨?_,fun _ _ e=>by cases e⟩
  intro A ro e0 env h α k res ρ a w Q ad a6 aN
  simp only[evalCode]at ad
  split at ad
  ·cases ad
  ·rename_i ks ts dc fI x0 bY _
   cases cI:!(ks.all fun t=>(writes x).any (Nat.beq t))with
   |true=>rw[cI]at ad;simp at ad
   |false=>
   rw[cI]at ad
   have sL:∀t,t∉writes x→t∉ks:=fun t bk aN=>bk (by
    simp only[Bool.not_eq_false',List.all_eq_true]at cI
    obtain⟨y,aK,he⟩:=List.any_eq_true.1 (cI t aN)
    exact Nat.eq_of_beq_eq_true he▸aK)
   simp only[cond_false]at ad
   obtain⟨t0,Ha,ad⟩:=Option.bind_eq_some_iff.1 ad
   have J6:(iter bd (fun s:aj ts×H=>evalCode P T A fn rs x (ef ks (aj.un ts s.1) (eJ (writes x) env)) s.2 (g7 rs ks ts dc fI x0 bY)) (t0,h)).bind (oN rs dc fI x0 bY (eJ (writes x) env) k)=some res→(Code.loop x).wpIn (iW ro) 0 P Q a w:=fun ad=>by
    simp only[Option.bind_eq_some_iff]at ad
    obtain⟨fl,iu,fi⟩:=ad
    have fi:=N9 fi
    refine wpIn_loop_rounds bd ?_
    refine PZ (fl:=fl) (I:=fun(s:aj ts×H) a ay=>∃a7,ρ.le a7∧me P T base lo fn.ntmps a7 (ef ks (aj.un ts s.1) (eJ (writes x) env)) s.2 a ay∧Below base w ay) ?_ bd (t0,h) a w iu ?_
    ·intro s r a1 w1 af kl
     obtain⟨gL,i1,i2,i3⟩:=kl
     refine ih.1 A ro e0 _ s.2 _ r gL a1 w1 _ af i2 fun e bz ar a7 cb ay bu bs b6 cd cp eH=>?_
     have eg:∀t,t∉writes x→bz t=env t:=fun t bk=>by
      rw[cd t bk,yy ks _ _ (sL t bk),vA bk]
     have out:∀e,e≠.normal→CX P fn a7 cb ay e→(∃qn,leave rs dc fI x0 bY e bz ar=some qn∧r=.done qn)→
       (∃bc,r=.more bc∧rh e=.normal∧∃a7,ρ.le a7∧me P T base lo fn.ntmps a7 (ef ks (aj.un ts bc.1) (eJ (writes x) env)) bc.2 cb ay∧Below base w ay)∨
        (r=.done fl∧rh e≠.normal∧Q (rh e) cb ay)∨∃x,r=.done x∧x≠fl:=by
      rintro e bS hex ⟨qn,j_,rfl⟩
      by_cases He:qn=fl
      ·subst He
       refine .inr (.inl ⟨rfl,XY bS, ?_⟩)
       obtain⟨ry,ep,aD⟩:=JI j_ fi
       rcases aD with rfl |rfl
       ·exact aN e _ ar a7 cb ay (i1.trans bu) ⟨bs.rel,bs.env.jZ eg,bs.size,bs.j9,bs.defers⟩ (i3.trans b6) (Fe eg) ep hex
       ·exact aN e _ ar a7 cb ay (i1.trans bu) ⟨bs.rel,bs.env.forget eg,bs.size,bs.j9,bs.defers⟩ (i3.trans b6) (fun t bk=>vA bk) ep hex
      ·exact .inr (.inr ⟨qn,rfl,He⟩)
     cases e with
     |normal=>
      simp only[g7,Option.bind_eq_some_iff,Option.some.injEq]at cp
      obtain⟨t,bk,rfl⟩:=cp
      refine .inl ⟨_,rfl,rfl,a7,i1.trans bu, ?_,i3.trans b6⟩
      simp only[sf bk]
      exact ⟨bs.rel,bs.env.jZ eg,bs.size,bs.j9,bs.defers⟩
     |exit id=>
      simp only[g7,Option.bind_eq_some_iff,Option.some.injEq]at cp
      obtain⟨qn,j_,rfl⟩:=cp
      exact out (.exit id) (by simp) eH ⟨qn,j_,rfl⟩
     |ret v=>
      simp only[g7,Option.bind_eq_some_iff,Option.some.injEq]at cp
      obtain⟨qn,j_,rfl⟩:=cp
      exact out (.ret v) (by simp) eH ⟨qn,j_,rfl⟩
    ·refine⟨ρ,Ren.le.refl _, ?_,Below.refl _ _⟩
     simp only[sf Ha]
     exact ⟨a6.rel,a6.env.jZ (fun _ _=>rfl),a6.size,a6.j9,a6.defers⟩
   cases x with
   |seq r rest=>
    cases r with
    |region id ops kO=>
     simp only at ad
     split at ad
     ·rename_i it d os hQ
      exact Y3 bt ih.2 hQ e0 a6 aN Ha sL ad
     ·exact J6 ad
    |_=>exact J6 ad
   |_=>exact J6 ad
 |scope x ih=>refine⟨?_,fun _ _ e=>by cases e⟩;intro A ro e0 env h α k res ρ a w Q ad;simp[evalCode]at ad
 |goto l=>refine⟨?_,fun _ _ e=>by cases e⟩;intro A ro e0 env h α k res ρ a w Q ad;simp[evalCode]at ad
 |refuse s=>refine⟨?_,fun _ _ e=>by cases e⟩;intro A ro e0 env h α k res ρ a w Q ad;simp[evalCode]at ad
 |rangeFunc g ps alo b agI agJ=>
  refine⟨?_,fun _ _ e=>by cases e⟩
  intro A ro e0 env h α k res ρ a w Q ad a6 aN
  simp only[evalCode]at ad
  cases cI:A.inr with
  |true=>rw[cI]at ad;simp at ad
  |false=>
  have adR:=e0 cI
  subst adR
  rw[cI]at ad
  simp only[cond_false]at ad
  split at ad
  ·cases ad
  ·rename_i ts Mw
   cases db:(!(Nat.beq ps.size ts.length)||!(decide ps.toList.Nodup)||!(ps.toList.all fun t=>Nat.blt t fn.ntmps))with
   |true=>rw[db]at ad;simp at ad
   |false=>
   rw[db]at ad
   simp only[Bool.or_eq_false_iff,Bool.not_eq_false',decide_eq_true_eq,List.all_eq_true]at db
   obtain⟨⟨cf,jj⟩,bn⟩:=db
   have cf:ps.size=ts.length:=Nat.eq_of_beq_eq_true cf
   have bn:∀t∈ps.toList,t<fn.ntmps:=fun t bk=>by simpa using bn t bk
   simp only[cond_false]at ad
   have lO:=ad
   clear ad
   obtain⟨Y,hG⟩:∃Y,Y=qf ts h.next fun x h1=>J1 h.next (fun h1 k=>evalCode P T {A with inr:=true} fn rs alo (ef ps.toList (aj.un ts x) env) h1 k) (fun gn h2 k=>evalCode P T {A with inr:=true} fn rs b gn h2 k) h1:=⟨_,rfl⟩
   rw[←hG]at lO
   have aQ:=a6.env.aR g
   cases aU:aR env g<;>rw[aU]at lO<;>simp only[B4,reduceCtorEq]at lO
   case func f cs=>
   rw[aU]at aQ
   simp only[R]at aQ
   obtain⟨us,agK,o7⟩:=aQ
   refine wpIn_rangeFunc fun SK _=>?_
   obtain⟨K,lz⟩:∃K:Loop,K={state:=.ready,pending:=none,fn:=SK,tmps:=a.tmps,params:=ps,assign:=alo,body:=b,defers:=w.heap.size}:=⟨_,rfl⟩
   obtain⟨Ty,SL⟩:=a6.rel.aas
   have Lg:(w.alloc (.deferred (some []))).heap.size=w.heap.size+1:=World.size_alloc ..
   generalize agL:({ρ with eQ:=fun D=>D=w.heap.size∨ρ.eQ D}:Ren)=gL at Ty SL
   have adS:gL.eQ w.heap.size:=by rw[←agL];exact .inl rfl
   obtain⟨Mx,SM⟩:=SL.newObj (s:=.loop .ready) rfl (some K) (o:=.loop K) ⟨K,if_pos rfl,by rw[lz]⟩
   have iq:({(gL.with h.next 0 ((w.alloc (.deferred (some []))).heap.size,0))with lp:=fun b=>if b=(w.alloc (.deferred (some []))).heap.size then some K else gL.lp b}:Ren).map h.next 0=some (w.heap.size+1,0):=by
    show(gL.with h.next 0 _).map h.next 0=_
    rw[Ren.lG,Lg]
   have jk:({(gL.with h.next 0 ((w.alloc (.deferred (some []))).heap.size,0))with lp:=fun b=>if b=(w.alloc (.deferred (some []))).heap.size then some K else gL.lp b}:Ren).lp (w.heap.size+1)=some K:=by
    show(if _ then _ else _)=_
    rw[Lg,if_pos rfl]
   generalize ({(gL.with h.next 0 ((w.alloc (.deferred (some []))).heap.size,0))with lp:=fun b=>if b=(w.alloc (.deferred (some []))).heap.size then some K else gL.lp b}:Ren)=po at Mx SM iq jk
   have sM:=Ty.trans Mx
   have SN:Below base w ((w.alloc (.deferred (some []))).alloc (.loop K)):=((Below.refl base w).alloc a6.rel.aE _).alloc (by rw[Lg];have:=a6.rel.aE;omega) _
   have C1:∀a7 ar ay st,po.le a7→Rel base a7 ar ay→ar.m h.next=.loop st→a7.map h.next 0=some (w.heap.size+1,0)∧a7.lp (w.heap.size+1)=some K∧ay.heap[w.heap.size+1]? =some (.loop {K with state:=st,pending:=none}):=fun a7 ar ay st hle fY hm=>by
    obtain⟨c6,o,aw,aH,aW,bq⟩:=fY.eF.obj _ _ hm rfl
    have aG:=hle.1 _ _ _ iq
    rw[aG]at aw
    cases aw
    obtain⟨HK,ep,rfl⟩:=bq
    have e2:=hle.2.2.2 _ _ jk
    rw[e2]at ep
    cases ep
    exact ⟨aG,e2,aW⟩
   have g7:∀a7 ar ay st Hf,po.le a7→Rel base a7 ar ay→ar.m h.next=.loop st→Rel base a7 (ar.put h.next (.loop Hf)) (ay.putObj (w.heap.size+1) (.loop {K with state:=Hf,pending:=none}))∧Below base ay (ay.putObj (w.heap.size+1) (.loop {K with state:=Hf,pending:=none})):=fun a7 ar ay st Hf hle fY hm=>by
    obtain⟨aw,aH,aW⟩:=C1 a7 ar ay st hle fY hm
    exact fY.setObj hm rfl rfl aw ⟨K,aH,rfl⟩
   have adT:ob P base po Y:=by
    intro args hh v ar mF
    rw[hG]at mF
    cases args with
    |nil=>simp[qf]at mF
    |cons v0 vs=>
     cases v0<;>simp only[qf,reduceCtorEq]at mF
     rename_i id
     by_cases aT:id=h.next
     ·subst aT
      have My:Nat.beq h.next h.next=true:=by simp
      rw[My]at mF
      simp only[cond_true,Option.bind_eq_some_iff,Option.some.injEq,Prod.mk.injEq]at mF
      obtain⟨x,hx,Ab,F4,rfl,rfl⟩:=mF
      refine⟨_,_,rfl,fun a7 ay cw kQ alc hle fY ga hQ=>?_⟩
      have z6:=aj.fu ts vs x hx
      simp only[J1,Option.bind_eq_some_iff]at F4
      obtain⟨wT,abp,adU⟩:=F4
      have ready:∀(h1 h2:H),h1.begin h.next=some h2→h1.m h.next=.loop .ready∧h2=h1.put h.next (.loop .busy):=fun h1 h2 e=>by
       unfold H.begin at e
       split at e
       ·rename_i hm;cases e;exact ⟨hm,rfl⟩
       ·cases e
      obtain⟨aw,aH,aW⟩:=C1 a7 hh ay .ready hle fY (ready _ _ abp).1
      rw[aw]at hQ
      cases hQ
      have hlen:cw.toArray.size=ps.size:=by
       have aG:=ga.length
       have e2:vs.length=ts.length:=by
        have:∀(ts:List ai) (vs:List V) (x:aj ts),aj.pack ts vs=some x→vs.length=ts.length:=fun ts=>by
         induction ts with
         |nil=>intro vs x h;cases vs<;>simp[aj.pack]at h⊢
         |cons t ts ih=>
          intro vs x h
          cases ts with
          |nil=>cases vs with
           |nil=>simp[aj.pack]at h
           |cons v vs=>cases vs with
            |nil=>rfl
            |cons _ _=>simp[aj.pack]at h
          |cons ea ts=>cases vs with
           |nil=>simp[aj.pack]at h
           |cons v vs=>
            simp only[aj.pack,Option.bind_eq_some_iff]at h
            obtain⟨_,_,y,aK,_⟩:=h
            have:=ih vs y aK
            simp only[List.length_cons]at this⊢
            omega
        exact this ts vs x hx
       simp only[List.size_toArray]
       omega
      refine⟨_,_,_,_,ay,run_yield aW (by simpa[lz]using hlen), ?_⟩
      have Ci:((({K with state:=.ready,pending:=none}:Loop).params.zip cw.toArray).foldl (fun tmps (t,a)=>tmps.setIfInBounds t a) ({K with state:=.ready,pending:=none}:Loop).tmps)=(ps.toList.zip cw).foldl (fun tmps p=>tmps.setIfInBounds p.1 p.2) a.tmps:=by
       rw[←Array.foldl_toList]
       simp[lz]
      rw[Ci,show({K with state:=.ready,pending:=none}:Loop).fn=SK by rw[lz],show({K with state:=.ready,pending:=none}:Loop).assign=alo by rw[lz],show({K with state:=.ready,pending:=none}:Loop).body=b by rw[lz]]
      refine roundIn_of_wpIn trivial ?_
      have SO:({A with inr:=true}:fw).inr=false→(some (w.heap.size+1):Option Nat)=none:=fun h=>by cases h
      refine agI.1 {A with inr:=true} (some (w.heap.size+1)) SO (ef ps.toList (aj.un ts x) env) hh _ Ab a7 _ ay _ adU ⟨fY, ?_, ?_, ?_, ?_⟩ ?_
      ·rw[z6]
       have:=du.params ps.toList vs cw env {a with defers:=[]} (fun t=>(a6.env.mono (sM.trans hle)) t) jj (by rw[Array.length_toList,cf,←z6];exact (Ov ts x).symm) ga (fun t bk=>by have:=bn t bk;rw[←a6.size]at this;exact this)
       exact this
      ·rw[OM];exact a6.size
      ·exact a6.j9.mono (sM.trans hle)
      ·exact ⟨fun D cP=>(a6.defers.mono (sM.trans hle)).1 D cP,[],rfl,List.nodup_nil,fun D cP=>by cases cP⟩
      ·intro e gn h1 Mz a1 w1 bu bs b6 cd cp eH
       cases e with
       |exit id=>simp at cp
       |ret v=>simp at cp
       |normal=>
        simp only[Option.bind_eq_some_iff]at cp
        obtain⟨akt,abq,abr⟩:=cp
        obtain⟨rK,rfl⟩:=ready _ _ abq
        obtain⟨ep,aD,gd⟩:=C1 Mz h1 w1 .ready (hle.trans bu) bs.rel rK
        obtain⟨t1,t2⟩:=g7 Mz h1 w1 .ready .busy (hle.trans bu) bs.rel rK
        refine⟨_,run_beginRound gd rfl, ?_⟩
        refine agJ.1 {A with inr:=true} (some (w.heap.size+1)) SO gn _ _ Ab Mz a1 _ _ abr ⟨t1,bs.env,bs.size,bs.j9,bs.defers⟩ ?_
        intro e2 ry ba MA a2 w2 iz hH xD HQ rX US
        cases e2 with
        |exit id=>simp at rX
        |ret v=>simp at rX
        |normal=>
         simp only at rX
         unfold H.GB at rX
         split at rX
         ·rename_i Tz
          cases rX
          obtain⟨cy,dd,dF⟩:=C1 MA ba w2 .busy ((hle.trans bu).trans iz) hH.rel Tz
          obtain⟨s1,s2⟩:=g7 MA ba w2 .busy .ready ((hle.trans bu).trans iz) hH.rel Tz
          refine⟨_,_,run_endRound none dF,MA,_,bu.trans iz,s1,((b6.trans t2).trans xD).trans s2,rfl, ?_⟩
          rw[hk]
          rfl
         ·cases rX
     ·have My:Nat.beq id h.next=false:=c8 aT
      rw[My]at mF
      simp at mF
   have agM:=bt.2.2.1 f Y (hG▸Y2)
   have adV:cm po ([.hR h.next]++cs) ([Value.func (.yield (w.heap.size+1)) #[] #[]]++us):=by
    refine cm.append ?_ (ZU sM _ _ o7)
    simp only[cm,R]
    exact ⟨_,_,rfl,⟨_,_,iq,rfl⟩,rfl⟩
   obtain⟨cV,yT⟩:=agM base po adT _ _ _ _ _ lO po _ _ (Ren.le.refl _) SM adV
   have lb:([Value.func (.yield (w.heap.size+1)) #[] #[]]++us).toArray=(#[]++ #[Value.func (.yield (w.heap.size+1)) #[] #[]])++us.toArray:=by
    apply Array.ext'
    simp
   rw[lb]at cV yT
   obtain⟨EI,TA⟩:∃EI,EI=(w.alloc (.deferred (some []))).alloc (.loop K):=⟨_,rfl⟩
   rw[←TA]at cV yT SN
   refine⟨w.heap.size+1,[{target:=.collected w.heap.size,args:= #[]}],EI,{target:=.fn (.func f) us.toArray,args:= #[]++ #[Value.func (.yield (w.heap.size+1)) #[] #[]]},EI,f,(#[]++ #[Value.func (.yield (w.heap.size+1)) #[] #[]])++us.toArray,EI, ?_, ?_,fun _ _=>trivial, ?_,fun h=>(by cases h), ?_⟩
   ·rw[TA,lz]
    exact run_enterLoop_outer ..
   ·have DR:a.eval (.const (.func (.yield (w.heap.size+1)) #[] #[]))=.func (.yield (w.heap.size+1)) #[] #[]:=rfl
    simp only[resolve,rangeCall,agK,Deferred.ofValue,Sem.run_pure,List.map_toArray,List.map_cons,List.map_nil,DR]
   ·exact cV
   ·refine CallsIn.mono (callsIn_wide.2 yT) fun e iA he=>?_
    obtain⟨ald,h2,ad,NG,val,bu,bs,b6,rfl,cp⟩:=he
    simp only[Option.bind_eq_some_iff]at ad
    obtain⟨h3,ld,ad⟩:=ad
    unfold H.GC at ld
    split at ld
    ·rename_i MB
     cases ld
     obtain⟨cy,dd,dF⟩:=C1 NG _ iA .ready bu bs MB
     obtain⟨s1,s2⟩:=g7 NG _ iA .ready .exhausted bu bs MB
     refine⟨_,_,run_endLoop dF (by simp), ?_⟩
     refine aN .normal env _ NG _ _ (sM.trans bu) ⟨s1, ?_,a6.size,a6.j9.mono (sM.trans bu), ?_⟩ ?_ (fun _ _=>rfl) ad trivial
     ·exact fun t=>(a6.env.mono (sM.trans bu)) t
     ·obtain⟨hY,mM,aG,e2,bP⟩:=a6.defers
      refine⟨fun D cP=>(sM.trans bu).2.2.1 D (hY D cP),w.heap.size::mM,by rw[aG];rfl,List.nodup_cons.2 ⟨fun cI=>?_,e2⟩,fun D cP=>?_⟩
      ·have:=a6.rel.eF.eQ _ (bP _ cI).2.1
       have:=(Array.getElem?_eq_some_iff.1 this).1
       omega
      ·rcases List.mem_cons.1 cP with rfl |cP
       ·refine⟨a6.rel.aE,(Mx.trans bu).2.2.1 _ adS,fun adW=>?_⟩
        have:=a6.rel.eF.eQ _ (hY _ adW)
        have:=(Array.getElem?_eq_some_iff.1 this).1
        omega
       ·exact ⟨(bP D cP).1,(sM.trans bu).2.2.1 D (bP D cP).2.1,(bP D cP).2.2⟩
     ·exact (SN.trans b6).trans s2
    ·cases ld
theorem W_(bt:eT P T)(hm:P.follows .mixedOrders=true)(c:Code):DQ P T fn rs base lo c:=(Wm bt hm c).1
end code
end Go.Proofs.YtlphgijokknjhaaGreat.Ev
namespace Go.Proofs.YtlphgijokknjhaaGreat.Ev
open Go Go.RowKit
section fn
variable{P:Program}{T:Table}{A:fw}{fn:Func}{rs:an}
theorem Pa{us:List Value}{ρ:Ren}:∀(args:List V) (n:Nat),∀t v,(ef (List.range' n args.length) args fun _=>V.undef) t=v→(v=.undef∨∃i,t=n+i∧args[i]? =some v)
 |[],n,t,v,h=> .inl (by simpa[ef]using h.symm)
 |x::args,n,t,v,h=>by
  simp only[List.length_cons,List.range'_succ,ef,Env.set]at h
  by_cases bk:t=n
  ·subst bk
   simp at h
   exact .inr ⟨0,rfl,by simp[h]⟩
  ·simp only[c8 bk,cond_false]at h
   rcases Pa (us:=us) (ρ:=ρ) args (n+1) t v h with h|⟨i,h1,h2⟩
   ·exact .inl h
   ·exact .inr ⟨i+1,by omega,by simpa using h2⟩
theorem Ow{f:FuncId}(ak:P.funcs[f]? =some fn){base:Nat}{lo:Nat→Prop}{h:H}{tmps:Array Value}{val:Value}{en:Ending→World→Prop}{w1:World}(GK:∀w2,m5 w1 w2→(results fn tmps).run P w2=.ok val w2):
  ∀(mM:List Nat) (ρ:Ren) (w:World),Rel base ρ h w→m5 w1 w→mM.Nodup→(∀D∈mM,base≤D∧ρ.eQ D∧¬lo D)→(∀D,lo D→ρ.eQ D)→
   (∀a7 ay,ρ.o3 a7→(∀b K,ρ.lp b=some K→a7.lp b=some K)→(∀D,lo D→a7.eQ D)→Rel base a7 h ay→Below base w ay→m5 w1 ay→en (.returned val) ay)→
   LeavesInM Fence.wide 0 P fn tmps en (mM.map fun D=>{target:=.collected D,args:= #[]}) .returning w
 |[],ρ,w,af,ad,_,_,hY,aN=>⟨val,GK w ad,aN ρ w ⟨fun _ _ _ h=>h,fun _ _ _ _ h=>h⟩ (fun _ _ h=>h) hY af (Below.refl _ _) ad⟩
 |D::mM,ρ,w,af,ad,aM,bF,hY,aN=>by
  obtain⟨d1,d2,d3⟩:=bF D (by simp)
  have cP:=af.eF.eQ D d2
  obtain⟨bw,bJ⟩:=af.ZV d1 d2
  have tm:=List.nodup_cons.1 aM
  refine⟨by simp,.inl ⟨D,_,rfl,run_takeDeferred cP, ?_⟩⟩
  have dP:m5 w1 (w.putObj D (.deferred none)):=fun b c t fr aE=>by
   have:=ad b c t fr aE
   by_cases he:b=D
   ·subst he;rw[cP]at this;cases this
   ·rw[World.putObj_heap_other he];exact this
  refine Ow (lo:=lo) ak GK mM _ _ bw dP tm.2 (fun E fA=>?_) (fun E fA=>⟨fun e=>by subst e;exact d3 fA,hY E fA⟩) fun a7 ay aw aH aW bq bU ek=>aN a7 ay ⟨fun id g x h=>aw.1 id g x h,fun f b i us h=>aw.2 f b i us h⟩ aH aW bq (bJ.trans bU) ek
  obtain⟨aG,e2,bP⟩:=bF E (by simp[fA])
  exact ⟨aG,⟨fun e=>tm.1 (e▸fA),e2⟩,bP⟩
theorem Jr(bt:eT P T)(hm:P.follows .mixedOrders=true){f:FuncId}(ak:P.funcs[f]? =some fn){args:List V}{h ar:H}{r:rs.C}
  (he:jd P T A fn rs args h=some (r,ar))(cI:A.inr=false):fn.body.isNone=false∧∀base ρ w us,ob P base ρ T.dg.l8→Rel base ρ h w→cm ρ args us→Calls P f us.toArray w (rD base ρ ar (rs.un r) w):=by
 unfold jd at he
 split at he
 ·cases he
 ·rename_i c aE
  cases aq:Nat.ble args.length fn.ntmps with
  |false=>rw[aq]at he;simp at he
  |true=>
   rw[aq]at he
   simp only[Bool.not_true,cond_false]at he
   have hle:args.length≤fn.ntmps:=by simpa using aq
   refine⟨by rw[aE];rfl,fun base ρ w us Lh af ga=>?_⟩
   have hlen:=ga.length
   refine callsIn_wide.1 (callsIn_of_wp_marks (F:=Fence.wide) (n:=0) ak aE trivial (W_ (base:=base) (lo:=ρ.eQ) bt hm c A none (fun _=>rfl) _ h _ (r,ar) ρ _ w _ he ⟨af, ?_, ?_,Lh,fun _ h=>h,[],rfl,List.nodup_nil,fun _ h=>by cases h⟩ ?_))
   ·intro t
    rw[List.range_eq_range']
    rcases Pa (us:=us) (ρ:=ρ) args 0 t _ rfl with aO|⟨i,h1,h2⟩
    ·rw[aO];simp[R]
    ·simp only[Nat.zero_add]at h1
     subst h1
     generalize (ef (List.range' 0 args.length) args fun _=>V.undef) t=v at h2
     obtain⟨u,hu,agN⟩:=ga.at h2
     have bn:t<us.length:=(List.getElem?_eq_some_iff.1 hu).1
     have:(us.toArray++Array.replicate (fn.ntmps-us.toArray.size) undef).getD t undef=u:=by
      rw[Array.getD_eq_getD_getElem?,Array.getElem?_append_left (by simpa using bn)]
      simp[hu]
     rw[this]
     exact agN
   ·simp;omega
   ·intro e bz h2 a7 cb ay bu bs b6 cd cp eH
    have fin:∀(v:V) (val:Value) (fa:rs.C),rs.pack v=some fa→fa=r→h2=ar→R a7 v val→(∀w2,m5 ay w2→(results fn cb.tmps).run P w2=.ok val w2)→LeavesInM Fence.wide 0 P fn cb.tmps (rD base ρ ar (rs.un r) w) cb.defers .returning ay:=fun v val fa kG aG e2 aU GK=>by
     subst aG e2
     obtain⟨hY,mM,agO,jj,ey⟩:=bs.defers
     rw[agO]
     refine Ow (lo:=ρ.eQ) ak GK mM a7 ay bs.rel (fun _ _ _ _ h=>h) jj ey hY fun po w2 aw aH aW bq bU ek=>?_
     refine⟨po,val,⟨fun id g x hx=>aw.1 _ _ _ (bu.1 _ _ _ hx),fun f b i us hx=>aw.2 _ _ _ _ (bu.2.1 _ _ _ _ hx),aW,fun b K hx=>aH b K (bu.2.2.2 b K hx)⟩,bq,b6.trans bU,rfl, ?_⟩
     rw[an.fu rs v fa kG]
     exact yF aw _ _ aU
    cases e with
    |exit id=>simp at cp
    |normal=>
     obtain⟨v,val,aw,aH,aW⟩:=Ou (P:=P) bs.rel bs.env cp
     simp only[Option.bind_eq_some_iff,Option.some.injEq,Prod.mk.injEq]at aw
     obtain⟨fa,kG,aG,e2⟩:=aw
     exact fin v val fa kG aG e2 aH aW
    |ret v=>
     simp only[Option.bind_eq_some_iff,Option.some.injEq,Prod.mk.injEq]at cp
     obtain⟨fa,kG,aG,e2⟩:=cp
     obtain⟨val,aW,aH⟩:=eH
     exact fin v val fa kG aG e2 aH aW
theorem FK(bt:jC P T)(hm:P.follows .mixedOrders=true){f:FuncId}(ak:P.funcs[f]? =some fn)(aM:(fn.name== "runtime.NumGoroutine")=false){args:List V}{h ar:H}{r:rs.C}
  (he:jd P T A fn rs args h=some (r,ar))(cI:A.inr=false):re P f args h (rs.un r) ar:=fun base ρ w us af ga=>
 have:=Jr bt.1 hm ak he cI
 .inl ⟨Bj ak this.1 aM _ w,this.2 base ρ w us (bt.2 _ _) af ga⟩
theorem Z3{T:Entry→Table}(bt:∀Y,uK Y→eT P (T Y))(TB:∀Y,(T Y).dg.l8=Y)(hm:P.follows .mixedOrders=true){f:FuncId}(ak:P.funcs[f]? =some fn)(aM:(fn.name== "runtime.NumGoroutine")=false){ts:List ai}{g:Entry→aj ts→H→Option (rs.C×H)}
  (he:∀Y x h,jd P (T Y) A fn rs (aj.un ts x) h=g Y x h)(cI:A.inr=false):o0 P f fun Y=>e8 ts rs (g Y):=by
 intro Y hG
 refine fun base ED Lh args h α k res aU ρ w us hle af ga=>?_
 simp only[e8,Option.bind_eq_some_iff]at aU
 obtain⟨x,hx,⟨r,h2⟩,aQ,aN⟩:=aU
 rw[←aj.fu ts args x hx]at ga
 have:=Jr (bt Y hG) hm ak (by rw[he];exact aQ) cI
 exact ⟨Bj ak this.1 aM _ w,Calls.mono (this.2 base ρ w us (by rw[TB];exact Lh.mono hle) af ga) fun e ay uL=>⟨_,_,aN,uL⟩⟩
theorem F6(bt:jC P T)(hm:P.follows .mixedOrders=true){f:FuncId}(ak:P.funcs[f]? =some fn)(aM:(fn.name== "runtime.NumGoroutine")=false){ts:List ai}{g:aj ts→H→Option (rs.C×H)}
  (he:∀x h,jd P T A fn rs (aj.un ts x) h=g x h)(cI:A.inr=false:=by rfl):eR P f (e8 ts rs g):=by
 intro args h
 refine⟨⟨(aj.pack ts args).bind fun x=>(g x h).bind fun p=>some (rs.un p.1,p.2),fun α k=>?_⟩,fun v ar aU=>⟨fun aV=>(by cases aV), ?_⟩⟩
 ·simp[e8,Option.bind_assoc]
 ·simp only[e8,Option.bind_eq_some_iff,Option.some.injEq,Prod.mk.injEq]at aU
  obtain⟨x,hx,⟨r,h2⟩,aQ,rfl,rfl⟩:=aU
  rw[←aj.fu ts args x hx]
  exact FK bt hm ak aM (by rw[he];exact aQ) cI
theorem aaz(bt:jC P T)(hm:P.follows .mixedOrders=true){f:FuncId}(ak:P.funcs[f]? =some fn)(aM:(fn.name== "runtime.NumGoroutine")=false){ts:List ai}{g:aj ts→Option rs.C}
  (he:∀x h,jd P T A fn rs (aj.un ts x) h=(g x).bind fun p=>some (p,h))(cI:A.inr=false:=by rfl):eR P f (G1 ts rs g):=by
 intro args h
 refine⟨⟨(aj.pack ts args).bind fun x=>(g x).bind fun p=>some (rs.un p,h),fun α k=>?_⟩,fun v ar aU=>?_⟩
 ·simp[G1,Option.bind_assoc]
 ·simp only[G1,Option.bind_eq_some_iff,Option.some.injEq,Prod.mk.injEq]at aU
  obtain⟨x,hx,r,aQ,rfl,rfl⟩:=aU
  refine⟨fun _=>rfl, ?_⟩
  rw[←aj.fu ts args x hx]
  exact FK bt hm ak aM (by rw[he,aQ];rfl) cI
theorem aaA(bt:jC P T)(hm:P.follows .mixedOrders=true){f:FuncId}(ak:P.funcs[f]? =some fn)(aM:(fn.name== "runtime.NumGoroutine")=false){ts:List ai}{g:aj ts→H→Option rs.C}
  (he:∀x h,jd P T A fn rs (aj.un ts x) h=(g x h).bind fun p=>some (p,h))(cI:A.inr=false:=by rfl):eR P f (G2 ts rs g):=by
 intro args h
 refine⟨⟨(aj.pack ts args).bind fun x=>(g x h).bind fun p=>some (rs.un p,h),fun α k=>?_⟩,fun v ar aU=>?_⟩
 ·simp[G2,Option.bind_assoc]
 ·simp only[G2,Option.bind_eq_some_iff,Option.some.injEq,Prod.mk.injEq]at aU
  obtain⟨x,hx,r,aQ,rfl,rfl⟩:=aU
  refine⟨fun _=>rfl, ?_⟩
  rw[←aj.fu ts args x hx]
  exact FK bt hm ak aM (by rw[he,aQ];rfl) cI
theorem Y4{f:FuncId}{ts:List ai}{rs:an}:eR P f (e8 ts rs fun _ _=>none):=by
 intro args h
 refine⟨⟨none,fun α k=>?_⟩,fun v ar aU=>?_⟩
 ·cases hx:aj.pack ts args<;>simp[e8,hx]
 ·cases hx:aj.pack ts args<;>simp[e8,hx]at aU
end fn
section rows
def Li(lp:Bool)(ρ:Ren)(h:H)(w:World)(f:Bool)(b i:Nat)(us:List Value):Prop:=
 f=(!lp)∧((∃hF c3 cw,(lp||hF)=true∧ρ.nq hF b c3 cw∧c3≤i∧∀(j:Nat) u,us[j]? =some u→cw[i-c3+j]? =some u)∨
  ∃id cs e x c t,h.m id=.own cs e∧ρ.map id cs.length=some (b,x)∧w.heap[b]? =some (.cells c t (0,0))∧∀(j:Nat) u,us[j]? =some u→c[i+j]? =some u)
def Ren.rows(lp:Bool)(ρ:Ren)(h:H)(w:World):Ren:=⟨fun _ _=>none,Li lp ρ h w,fun _=>False,fun _=>none⟩
variable{base:Nat}{ρ:Ren}{h:H}{w:World}{lp:Bool}{α:Type}
theorem XZ(af:Rel base ρ h w){a:V}{cs:List V}(ak:h.from a=some cs)(DW:a.readable lp=true){p:Addr}(bD:R ρ a (.pointer (some p))):
  ∃b o us,p=⟨b,o,none⟩∧bV ρ cs us∧(cs=[]∨∀n,Li lp ρ h w (!lp) b o (us.take n)):=by
 cases a<;>simp only[H.from,reduceCtorEq]at ak
 case lp fl rE off=>
  simp only[Option.some.injEq]at ak
  subst ak
  simp only[R]at bD
  rcases bD with⟨_,hx⟩|⟨b,i,us,h1,h2,hx⟩
  ·cases hx
  cases hx
  refine⟨b,i+off,us.drop off,rfl,h2.drop off, ?_⟩
  rcases h1 with rfl |h1
  ·exact .inl (by simp)
  ·refine .inr fun n=>⟨rfl,.inl ⟨fl,i,us,DW,h1,by omega,fun j u hu=>?_⟩⟩
   rw[List.getElem?_take]at hu
   split at hu
   ·rw[List.getElem?_drop]at hu
    rw[show i+off-i+j=off+j by omega]
    exact hu
   ·cases hu
 case aa id gen off=>
  split at ak
  ·rename_i rE e hm
   split at ak
   ·rename_i aQ
    simp only[Option.some.injEq]at ak
    subst ak
    simp only[R]at bD
    obtain⟨b,x,h1,hx⟩:=bD
    cases hx
    obtain⟨c6,fm,c,t,aw,aH,aW,bq,bU⟩:=af.own id rE e hm
    rw[aQ,h1]at aw;cases aw
    refine⟨b,off,(c.toList.take rE.length).drop off,rfl,bU.drop off,.inr fun n=>⟨rfl,.inr ⟨id,rE,e,x,c,t,hm,by rw[aQ];exact h1,aW,fun j u hu=>?_⟩⟩⟩
    rw[List.getElem?_take]at hu
    split at hu
    ·rw[List.getElem?_drop,List.getElem?_take]at hu
     split at hu
     ·simpa using hu
     ·cases hu
    ·cases hu
   ·cases ak
  ·cases ak
theorem P0{ρ a7:Ren}{w:Nat}{α:Type}{f:List V→Option α}{g:α→List V}(aQ:∀c x us,f c=some x→bV ρ c us→bV a7 (g x) us):∀(n:Nat) (cs:List V) (us:List Value) (xs:List α),
  n*w≤cs.length→jE f (chunks w n cs)=some xs→bV ρ cs us→bV a7 (xs.flatMap g) (us.take (n*w))∧xs.length=n
 |0,cs,us,xs,_,hm,ao=>by
  simp only[chunks,jE,Option.some.injEq]at hm
  subst hm
  simp[bV]
 |n+1,cs,us,xs,aq,hm,ao=>by
  simp only[chunks,jE,Option.bind_eq_some_iff,Option.some.injEq]at hm
  obtain⟨x,hx,ys,tn,rfl⟩:=hm
  have tp:n*w+w≤cs.length:=by rw[Nat.add_mul,Nat.one_mul]at aq;exact aq
  obtain⟨h1,h2⟩:=P0 aQ n (cs.drop w) (us.drop w) ys (by rw[List.length_drop];omega) tn (ao.drop w)
  refine⟨?_,by simp[h2]⟩
  have h3:=(aQ _ _ _ hx (ao.take w)).append h1
  simp only[List.flatMap_cons]
  have:us.take (w)++(us.drop w).take (n*w)=us.take ((n+1)*w):=by
   rw[←List.take_add,Nat.add_mul,Nat.one_mul,Nat.add_comm]
  rwa [this]at h3
mutual
theorem I8(af:Rel base ρ h w):∀(l:ab) (v:V) (x:l.C) (u:Value),cE lp h l v=some x→R ρ v u→R (ρ.rows lp h w) (l.lo (!lp) x) u
 |.int k,v,x,u,ad,hu=>by
  cases v<;>simp only[cE,reduceCtorEq]at ad
  split at ad
  ·rename_i aN
   subst aN
   cases ad
   simpa only[ab.lo,R]using hu
  ·cases ad
 |.bool,v,x,u,ad,hu=>by
  cases v<;>simp only[cE,reduceCtorEq]at ad
  cases ad
  simpa only[ab.lo,R]using hu
 |.str,v,x,u,ad,hu=>by
  cases v<;>simp only[cE,reduceCtorEq]at ad
  cases ad
  simpa only[ab.lo,R]using hu
 |.ptr,v,x,u,ad,hu=>by simp[cE]at ad
 |.slice,v,x,u,ad,hu=>by simp[cE]at ad
 |.map,v,x,u,ad,hu=>by simp[cE]at ad
 |.dyn,v,x,u,ad,hu=>by simp[cE]at ad
 |.tok,v,x,u,ad,hu=>by simp[ab.lo,R]
 |.row ls,v,x,u,ad,hu=>by
  cases v<;>simp only[cE,reduceCtorEq]at ad
  rename_i a l c t
  obtain⟨p,bg,rfl,cy,dd,dF,gy,ki,jM,pq⟩:=mv hu
  split at ad
  ·rename_i aq
   subst aq
   cases ad
   simp only[ab.lo,R]
   exact ⟨p,bg,rfl,Nat.le_refl _,by simp,by simp,gy,.inl rfl,by simp,by simp⟩
  ·rename_i aq
   simp only[Option.bind_eq_some_iff]at ad
   obtain⟨cs,hU,ad⟩:=ad
   cases DW:a.readable lp with
   |false=>rw[DW]at hU;cases hU
   |true=>
    rw[DW]at hU
    simp only[cond_true,H.fv,Option.bind_eq_some_iff]at hU
    obtain⟨rE,ak,hh⟩:=hU
    split at hh
    ·rename_i hle
     cases hh
     obtain⟨q,rfl⟩:∃q,p=some q:=by
      cases p with
      |none=>have:=gy rfl;omega
      |some q=>exact ⟨q,rfl⟩
     obtain⟨b,o,us,rfl,f_,j6⟩:=XZ (lp:=lp) af ak DW (jM (by omega))
     obtain⟨h1,h2⟩:=P0 (ρ:=ρ) (a7:=ρ.rows lp h w) (g:=fun x=>LT.lo (!lp) ls x) (fun c x us aG e2=>JJ af ls c x us aG e2) l _ (us.take (l*ls.length)) x (by rw[List.length_take];omega) ad (f_.take _)
     rw[List.take_take,Nat.min_self]at h1
     simp only[ab.lo,R]
     refine⟨some ⟨b,o,none⟩,bg,by rw[h2],Nat.le_refl _,by omega,by simp,by simp, ?_,fun _=> .inr ⟨b,o,us.take (l*ls.length), ?_,h1,rfl⟩,by simp⟩
     ·simp only[V.h_,V.bm,Option.isSome_some]
      cases(List.flatMap (fun x=>LT.lo (!lp) ls x) x).isEmpty<;>simp
     ·rcases j6 with rfl |j6
      ·simp at hle
      ·exact .inr (j6 _)
    ·cases hh
theorem JJ(af:Rel base ρ h w):∀(ls:List ab) (vs:List V) (x:LT ls) (us:List Value),ax lp h ls vs=some x→bV ρ vs us→bV (ρ.rows lp h w) (LT.lo (!lp) ls x) us
 |[],[],x,us,ad,hu=>by simpa only[LT.lo,bV]using hu
 |[],_::_,x,us,ad,hu=>by simp[ax]at ad
 |[l],[],x,us,ad,hu=>by simp[ax]at ad
 |[l],[v],x,us,ad,hu=>by
  simp only[ax]at ad
  simp only[LT.lo,bV]at hu⊢
  obtain⟨u,cw,e,o,r,e2⟩:=hu
  exact ⟨u,cw,e,o,I8 af l v x u ad r,e2⟩
 |[l],_::_::_,x,us,ad,hu=>by simp[ax]at ad
 |l::b3::ls,[],x,us,ad,hu=>by simp[ax]at ad
 |l::b3::ls,v::vs,x,us,ad,hu=>by
  simp only[ax,Option.bind_eq_some_iff,Option.some.injEq]at ad
  obtain⟨y,aK,z,bH,rfl⟩:=ad
  simp only[bV]at hu
  obtain⟨u,cw,e,o,r,hu⟩:=hu
  simp only[LT.lo,bV]
  exact ⟨u,cw,e,o,I8 af l v y u aK r,JJ af (b3::ls) vs z cw bH hu⟩
end
theorem JK(af:Rel base ρ h w):∀(t:ai) (v:V) (x:t.C) (u:Value),aB lp h t v=some x→R ρ v u→R (ρ.rows lp h w) (t.lo (!lp) x) u
 |.leaf l,v,x,u,ad,hu=>I8 af l v x u ad hu
 |.agg ls,v,x,u,ad,hu=>by
  cases v<;>simp only[aB,reduceCtorEq]at ad
  simp only[ai.lo,R]at hu⊢
  obtain⟨us,e,hu⟩:=hu
  exact ⟨us,e,JJ af ls _ x us ad hu⟩
theorem FR(af:Rel base ρ h w):∀(ts:List ai) (vs:List V) (x:aj ts) (us:List Value),az lp h ts vs=some x→cm ρ vs us→cm (ρ.rows lp h w) (aj.lo (!lp) ts x) us
 |[],[],x,us,ad,hu=>by simpa only[aj.lo,cm]using hu
 |[],_::_,x,us,ad,hu=>by simp[az]at ad
 |[l],[],x,us,ad,hu=>by simp[az]at ad
 |[l],[v],x,us,ad,hu=>by
  simp only[az]at ad
  simp only[aj.lo,cm]at hu⊢
  obtain⟨u,cw,e,r,e2⟩:=hu
  exact ⟨u,cw,e,JK af l v x u ad r,e2⟩
 |[l],_::_::_,x,us,ad,hu=>by simp[az]at ad
 |l::b3::ls,[],x,us,ad,hu=>by simp[az]at ad
 |l::b3::ls,v::vs,x,us,ad,hu=>by
  simp only[az,Option.bind_eq_some_iff,Option.some.injEq]at ad
  obtain⟨y,aK,z,bH,rfl⟩:=ad
  simp only[cm]at hu
  obtain⟨u,cw,e,r,hu⟩:=hu
  simp only[aj.lo,cm]
  exact ⟨u,cw,e,JK af l v y u aK r,FR af (b3::ls) vs z cw bH hu⟩
theorem Y5(af:Rel base ρ h w){r:an}{v:V}{x:r.C}{u:Value}(ad:av lp h r v=some x)(hu:R ρ v u):R (ρ.rows lp h w) (r.lo (!lp) x) u:=by
 cases r with
 |one t=>exact JK af t v x u ad hu
 |many ts=>
  cases v<;>simp only[av,reduceCtorEq]at ad
  simp only[an.lo,R]at hu⊢
  obtain⟨us,e,hu⟩:=hu
  exact ⟨us,e,FR af ts _ x us ad hu⟩
end rows
theorem Qw{lp:Bool}{h:H}{α:Type}:∀(ls:List ab) (vs:List V) (k:LT ls→Option α),oV lp h ls vs k=(ax lp h ls vs).bind k
 |[],[],k=>by simp[oV,ax]
 |[],_::_,k=>by simp[oV,ax]
 |[l],[],k=>by simp[oV,ax]
 |[l],[v],k=>by simp only[oV,ax]
 |[l],_::_::_,k=>by simp[oV,ax]
 |l::b3::ls,[],k=>by simp[oV,ax]
 |l::b3::ls,v::vs,k=>by
  simp only[oV,ax,Option.bind_assoc]
  congr 1;funext x
  rw[Qw (b3::ls)]
  cases ax lp h (b3::ls) vs<;>rfl
theorem Qx{lp:Bool}{h:H}{α:Type}:∀(t:ai) (v:V) (k:t.C→Option α),Gb lp h t v k=(aB lp h t v).bind k
 |.leaf l,v,k=>rfl
 |.agg ls,v,k=>by cases v<;>first |rfl |exact Qw ls _ k
theorem yz{lp:Bool}{h:H}{α:Type}:∀(ts:List ai) (vs:List V) (k:aj ts→Option α),oW lp h ts vs k=(az lp h ts vs).bind k
 |[],[],k=>by simp[oW,az]
 |[],_::_,k=>by simp[oW,az]
 |[l],[],k=>by simp[oW,az]
 |[l],[v],k=>by simp only[oW,az];exact Qx l v k
 |[l],_::_::_,k=>by simp[oW,az]
 |l::b3::ls,[],k=>by simp[oW,az]
 |l::b3::ls,v::vs,k=>by
  simp only[oW,az,Option.bind_assoc]
  rw[Qx l]
  congr 1;funext x
  rw[yz (b3::ls)]
  cases az lp h (b3::ls) vs<;>rfl
section pure
variable{P:Program}{T:Table}{A:fw}{fn:Func}{rs iB:an}
theorem Rel.rows{base:Nat}{ρ:Ren}{h:H}{w:World}(af:Rel base ρ h w):Rel w.heap.size (ρ.rows true h w) H.empty w:=by
 refine⟨af.ma.mono af.aE,Nat.le_refl _,fun id g x hx=>(by cases hx),fun id cs e hm=>(by cases hm),fun id g x cs e _ hm=>(by cases hm),fun _ _=>rfl,fun id da cs dw e dn b x c6 fm _ hm=>(by cases hm),fun f b i us ak=>?_,fun b i us ak=>(by cases ak.1),fun f b i us id cs e x _ hm=>(by cases hm),
  ⟨fun id s hm ad=>(by subst hm;cases ad),fun id da s bc b c6 _ hm ad=>(by subst hm;cases ad),fun D cP=>cP.elim,fun b K lz=>by cases lz⟩⟩
 rcases ak with⟨_,⟨hF,c3,cw,_,ak,hi,aL⟩|⟨id,cs,e,x,c,t,hm,aE,ao,aL⟩⟩
 ·obtain⟨c,t,fr,h1,h2⟩:=af.jg hF b c3 cw ak
  refine⟨c,t,fr,h1,fun j u hu=>?_⟩
  have:=h2 _ _ (aL j u hu)
  rwa [show c3+(i-c3+j)=i+j by omega]at this
 ·exact ⟨c,t,(0,0),ao,aL⟩
theorem Z4{f:FuncId}{ts:List ai}{g:aj ts→Option iB.C}
  (he:∀x r,g x=some r→∀base ρ w us,Rel base ρ H.empty w→cm ρ (aj.lo false ts x) us→vS P f us.toArray w fun e ay=>∃v h1,av false h1 iB v=some r∧rD base ρ h1 v w e ay):eR P f (mE ts iB g):=by
 intro args h
 refine⟨⟨(az true h ts args).bind fun y=>(g y).bind fun r=>some (iB.lo true r,h),fun α k=>?_⟩,fun v ar aU=>?_⟩
 ·simp only[mE,yz,Option.bind_assoc]
  congr 1
 ·simp only[mE,yz,Option.bind_eq_some_iff,Option.some.injEq,Prod.mk.injEq]at aU
  obtain⟨y,aK,r,af,rfl,rfl⟩:=aU
  refine⟨fun _=>rfl, ?_⟩
  have lO:=he y r af
  refine fun base ρ w us fY ga=>?_
  have abt:=FR fY ts args y us aK ga
  refine vS.mono (lO w.heap.size _ w us fY.rows abt) fun e ay uL=>?_
  obtain⟨v0,h1,qp,gL,val,bu,bs,b6,rfl,cp⟩:=uL
  have hval:=Y5 bs qp cp
  have aE:Below base w ay:=b6.mono fY.aE
  have c9:=fY.ext b6
  have hle:ρ.le ⟨ρ.map,fun f b i us=>ρ.nq f b i us∨Li false gL h1 ay f b i us,ρ.eQ,ρ.lp⟩:=⟨fun _ _ _ h=>h,fun _ _ _ _ h=> .inl h,fun _ h=>h,fun _ _ h=>h⟩
  refine⟨_,val,hle, ?_,aE,rfl,yF ⟨fun _ _ _ h=>(by cases h),fun f b i us h=>Or.inr h⟩ _ _ hval⟩
  refine⟨c9.ma,c9.aE,c9.used,fun id cs e hm=>?_,c9.kz,c9.top,c9.sep,fun f b i us ak=>?_,fun b i us ak=>?_,fun f b i us id cs e x ak hm=>?_,c9.eF.jZ hle (fun _ _ h _=>h) (fun _ h=>h) (fun _ _ h=>h) (fun _ _ e _=>e) (Nat.le_refl _)⟩
  ·obtain⟨b,x,c,t,aw,aH,aW,bq,bU⟩:=c9.own id cs e hm
   exact ⟨b,x,c,t,aw,aH,aW,bq,nH hle _ _ bU⟩
  ·rcases ak with ak |⟨_,⟨hF,c3,cw,ll,ak,hi,aL⟩|⟨id,cs,e,x,c,t,hm,aE,ao,aL⟩⟩
   ·exact c9.jg f b i us ak
   ·obtain⟨c,t,fr,h1,h2⟩:=bs.jg hF b c3 cw ak
    refine⟨c,t,fr,h1,fun j u hu=>?_⟩
    have:=h2 _ _ (aL j u hu)
    rwa [show c3+(i-c3+j)=i+j by omega]at this
   ·exact ⟨c,t,(0,0),ao,aL⟩
  ·rcases ak with ak |⟨_,⟨hF,c3,cw,ll,ak,hi,aL⟩|⟨da,dw,dn,fm,bg,ea,w7,na,kE,aL⟩⟩
   ·exact c9.k7 b i us ak
   ·simp only[Bool.false_or]at ll
    subst ll
    exact Nat.le_trans fY.aE (bs.k7 b c3 cw ak)
   ·obtain⟨b8,bY,bL,t1,aw,aH,aW,bq,bU⟩:=bs.own da dw dn w7
    rw[na]at aw;cases aw
    exact Nat.le_trans fY.aE aH
  ·have new:w.heap.size≤b→ρ.map id cs.length≠some (b,x):=fun aH hQ=>by
    obtain⟨b2,b5,a_,t2,ep,aD,gd,kh,xx⟩:=fY.own id cs e hm
    rw[hQ]at ep;cases ep
    have:=(Array.getElem?_eq_some_iff.1 gd).1
    omega
   rcases ak with ak |⟨_,⟨hF,c3,cw,ll,ak,hi,aL⟩|⟨da,dw,dn,fm,bg,ea,w7,na,kE,aL⟩⟩
   ·exact c9.je f b i us id cs e x ak hm
   ·simp only[Bool.false_or]at ll
    subst ll
    exact new (bs.k7 b c3 cw ak)
   ·obtain⟨b8,bY,bL,t1,aw,aH,aW,bq,bU⟩:=bs.own da dw dn w7
    rw[na]at aw;cases aw
    exact new aH
theorem RO{f:FuncId}{ts:List ai}{g:aj ts→Option iB.C}
  (he:∀x r,g x=some r→∃v h1,re P f (aj.lo false ts x) H.empty v h1∧av false h1 iB v=some r):eR P f (mE ts iB g):=
 Z4 fun x r af base ρ w us fY ga=>let ⟨v,h1,h2,h3⟩:=he x r af
  vS.mono (h2 base ρ w us fY ga) fun e ay uL=>⟨v,h1,h3,uL⟩
theorem J7(bt:jC P T)(hm:P.follows .mixedOrders=true){f:FuncId}(ak:P.funcs[f]? =some fn)(aM:(fn.name== "runtime.NumGoroutine")=false){ts:List ai}{g:aj ts→Option iB.C}
  (he:∀x,((jd P T A fn rs (aj.lo false ts x) H.empty).bind fun p=>av false p.2 iB (rs.un p.1))=g x)(cI:A.inr=false:=by rfl):eR P f (mE ts iB g):=by
 refine RO fun x r af=>?_
 have MC:=he x
 rw[af]at MC
 simp only[Option.bind_eq_some_iff]at MC
 obtain⟨⟨dp,h1⟩,DR,qp⟩:=MC
 exact ⟨rs.un dp,h1,FK bt hm ak aM DR cI,qp⟩
theorem yW{f:FuncId}{ts:List ai}{g:aj ts→H→Option (rs.C×H)}(he:∀x h r ar,g x h=some (r,ar)→re P f (aj.un ts x) h (rs.un r) ar):eR P f (e8 ts rs g):=by
 intro args h
 refine⟨⟨(aj.pack ts args).bind fun x=>(g x h).bind fun p=>some (rs.un p.1,p.2),fun α k=>?_⟩,fun v ar aU=>⟨fun aV=>(by cases aV), ?_⟩⟩
 ·simp[e8,Option.bind_assoc]
 ·simp only[e8,Option.bind_eq_some_iff,Option.some.injEq,Prod.mk.injEq]at aU
  obtain⟨x,hx,⟨r,h2⟩,aQ,rfl,rfl⟩:=aU
  rw[←aj.fu ts args x hx]
  exact he x h r h2 aQ
theorem Rel.found{base:Nat}{ρ:Ren}{h:H}{w ay:World}(af:Rel base ρ h w)(aE:Below w.heap.size w ay){g:Nat}{c:Array Value}{t:TypeId}{fr:Nat×Nat}(aQ:w.heap.size≤g)(ao:ay.heap[g]? =some (.cells c t fr)){us:List Value}(l1:∀(j:Nat) u,us[j]? =some u→c[j]? =some u):
  Rel base (ρ.froze g us) h ay:=by
 have c9:=af.ext aE
 refine⟨c9.ma,c9.aE,c9.used,fun id cs e hm=>?_,c9.kz,c9.top,c9.sep,fun f b i cw ak=>?_,fun b i cw ak=>?_,fun f b i cw id cs e x ak hm=>?_,c9.eF.jZ Ren.nE (fun _ _ h _=>h) (fun _ h=>h) (fun _ _ h=>h) (fun _ _ e _=>e) (Nat.le_refl _)⟩
 ·obtain⟨b,x,bg,ea,h1,h2,h3,aI,ba⟩:=c9.own id cs e hm
  exact ⟨b,x,bg,ea,h1,h2,h3,aI,nH Ren.nE _ _ ba⟩
 ·rcases ak with⟨rfl,rfl,rfl⟩|ak
  ·exact ⟨c,t,fr,ao,fun j u hu=>by simpa using l1 j u hu⟩
  ·exact c9.jg f b i cw ak
 ·rcases ak with⟨rfl,rfl,rfl⟩|ak
  ·exact Nat.le_trans af.aE aQ
  ·exact c9.k7 b i cw ak
 ·rcases ak with⟨rfl,rfl,rfl⟩|ak
  ·intro he
   obtain⟨b2,b5,cY,t3,aw,aH,aW,bq,bU⟩:=af.own id cs e hm
   have fP:ρ.map id cs.length=some (b,x):=he
   rw[aw]at fP;cases fP
   have:=(Array.getElem?_eq_some_iff.1 aW).1
   omega
  ·exact c9.je f b i cw id cs e x ak hm
def nK(w bytes:Nat)(s:au)(h:H):Option (au×H):=
 if s.len=0 then some (⟨.lp true [] 0,0,0,false⟩,h)else (cellsOf h (.slice s.a s.len s.cap s.tail) w).bind fun c=>c7 h none w bytes ⟨.lp true [] 0,0,0,false⟩ c.2 c.1
def k4{α:Type}(bytes:Nat)(xs:List α):Option (List α):=aJ (xs.length≤ei∧bytes≤2^11) (some xs)
theorem re.args{f:FuncId}{alo fz:List V}{h ar:H}{v gJ:V}(aku:re P f alo h v ar)
  (ey:∀ρ us,cm ρ fz us→∃MD v0,cm ρ MD us∧re P f MD h v0 ar∧∀a7 u,R a7 v0 u→R a7 gJ u):re P f fz h gJ ar:=by
 refine fun base ρ w us af aq=>?_
 obtain⟨MD,v0,aw,aH,aW⟩:=ey ρ us aq
 exact (aH base ρ w us af aw).mono fun e ay ⟨a7,val,bu,bs,b6,cd,cp⟩=>⟨a7,val,bu,bs,b6,cd,aW a7 val cp⟩
theorem X0{f:FuncId}{w bytes:Nat}{g:au→H→Option (au×H)}(db:eR P f (e8 [.leaf .slice] (.one (.leaf .slice)) g))
  (aQ:∀s h,g s h=bif !(V.h_ s.a)then(bif !(V.bm s.a)then some (⟨.nil,0,0,false⟩,h)else (cellsOf h (.slice s.a s.len s.cap s.tail) w).bind fun p=>(c7 h none w bytes ⟨.lp true [] 0,0,0,false⟩ p.2 p.1).bind fun r=>some (r.1,r.2))else none):
  eR P f (e8 [.leaf .slice] (.one (.leaf .slice)) (nK w bytes)):=by
 have call:∀s h r ar,g s h=some (r,ar)→re P f [.slice s.a s.len s.cap s.tail] h (.slice r.a r.len r.cap r.tail) ar:=fun s h r ar Mv=>by
  have:=(db [.slice s.a s.len s.cap s.tail] h).2 (.slice r.a r.len r.cap r.tail) ar (by
   show(g s h).bind _=_
   rw[Mv]
   rfl)
  exact this.2
 refine yW fun s h r ar hx=>?_
 show re P f [.slice s.a s.len s.cap s.tail] h (.slice r.a r.len r.cap r.tail) ar
 unfold nK at hx
 split at hx
 ·rename_i aq
  cases hx
  have bL:=call ⟨.nil,0,0,false⟩ h ⟨.nil,0,0,false⟩ h (by rw[aQ];rfl)
  have a_:=call ⟨.lp true [.nil] 0,0,0,true⟩ h ⟨.lp true [] 0,0,0,false⟩ h (by
   rw[aQ]
   simp[V.h_,V.bm,cellsOf,c7,iF])
  refine bL.args fun ρ us hu=>?_
  simp only[cm]at hu
  obtain⟨u,cw,rfl,hu,rfl⟩:=hu
  rw[aq]at hu
  obtain⟨p,bg,rfl,cy,dd,dF,gy,ki,jM,pq⟩:=mv hu
  cases p with
  |none=>
   refine⟨_,_, ?_,bL,fun a7 kg af=>?_⟩
   ·simp only[cm]
    refine⟨_,_,rfl, ?_,rfl⟩
    simp only[R]
    exact ⟨none,bg,rfl,Nat.le_refl _,Nat.zero_le _,fun _=>gy rfl,fun _=>gy rfl,.inr rfl,fun hh=>absurd rfl hh,fun _ _ _ hh=>by cases hh⟩
   ·obtain⟨p,bg,rfl,cy,dd,dF,gy,ki,jM,pq⟩:=mv af
    simp only[R]
    exact ⟨p,bg,rfl,Nat.le_refl _,dd,by simpa using dF,gy,.inl rfl,fun hh=>absurd rfl hh,fun _ _ _ hh=>by cases hh⟩
  |some q=>
   refine⟨_,_, ?_,a_,fun a7 kg af=>af⟩
   simp only[cm]
   refine⟨_,_,rfl, ?_,rfl⟩
   simp only[R]
   exact ⟨some q,bg,rfl,Nat.le_refl _,Nat.zero_le _,fun hh=>(by cases hh),fun hh=>(by cases hh),.inr rfl,fun hh=>absurd rfl hh,fun _ _ _ hh=>by cases hh⟩
 ·rename_i aq
  simp only[Option.bind_eq_some_iff]at hx
  obtain⟨c,ao,hx⟩:=hx
  have o4:s.a.h_=false∧s.a.bm=true:=by
   cases bD:s.a<;>rw[bD]at ao<;>simp only[cellsOf,if_neg aq,H.fv,H.from,Option.bind_none,Option.map_none,reduceCtorEq]at ao
   ·exact ⟨rfl,rfl⟩
   ·rename_i fl cs o
    cases cs with
    |nil=>simp at ao
    |cons _ _=>exact ⟨rfl,rfl⟩
  exact call s h r ar (by
   rw[aQ,o4.1,o4.2]
   simp only[Bool.not_false,Bool.not_true,cond_true,cond_false,ao,Option.bind_some,hx])
end pure
end Go.Proofs.YtlphgijokknjhaaGreat.Ev
namespace Go.Proofs.YtlphgijokknjhaaGreat.Ev
open Go
theorem all_nil(P:Program):∀p∈([]:List (FuncId×Entry)),eR P p.1 p.2:=fun _ h=>by cases h
theorem all_cons{P:Program}{f:FuncId}{e:Entry}{l:List (FuncId×Entry)}(h:eR P f e)(t:∀p∈l,eR P p.1 p.2):∀p∈(f,e)::l,eR P p.1 p.2:=fun p aa=>by
 rcases List.mem_cons.1 aa with rfl |aa
 ·exact h
 ·exact t p aa
end Go.Proofs.YtlphgijokknjhaaGreat.Ev
namespace Go.Proofs.YtlphgijokknjhaaGreat.Ev
open Go Go.RowKit
inductive dW where
 |int (k:IntKind)
 |bool
 |str
 |slice (l:List dW)
def BN(P:Program)(UT:TypeId→Option (List dW)):List Field→Nat→Option (List dW)
 |[],_=>some []
 |f::fs,off=>if f.offset=off then(UT f.type).bind fun l=>if P.cellsOf f.type=l.length then(BN P UT fs (off+l.length)).map (l++·)else none else none
def lM(P:Program):Nat→TypeId→Option (List dW)
 |0,_=>none
 |n+1,t=>match P.underlying t with
  |some .bool=>some [.bool]
  |some (.int k)=>some [.int k]
  |some .string=>some [.str]
  |some (.slice e)=>(lM P n e).bind fun l=>if 0<l.length∧P.cellsOf e=l.length then some [.slice l]else none
  |some (.struct fs)=>(BN P (lM P n) fs.toList 0).bind fun l=>if P.cellsOf t=l.length then some l else none
  |some (.array m e)=>(lM P n e).bind fun l=>if P.cellsOf e=l.length∧P.cellsOf t=m*l.length then some (List.replicate m l).flatten else none
  |_=>none
inductive l2:dW→V→Prop
 |int (k:IntKind) (n:Int) (h:(Lit.int k n).wf=true):l2 (.int k) (.int k n)
 |bool (b:Bool):l2 .bool (.bool b)
 |str (s:ByteArray) (h:s.size≤maxLen):l2 .str (.str s)
 |nil (l:List dW):l2 (.slice l) (.slice .nil 0 0 false)
 |slice (l:List dW) (cs:List V) (n c:Nat) (aa:0<l.length) (ao:n≤c) (hm:c≤maxLen) (aq:cs.length=n*l.length)
   (h:∀(i j:Nat) s v,i<n→l[j]? =some s→cs[i*l.length+j]? =some v→l2 s v):l2 (.slice l) (.slice (.lp false cs 0) n c false)
def hs(l:List dW)(vs:List V):Prop:=vs.length=l.length∧∀(j:Nat) s v,l[j]? =some s→vs[j]? =some v→l2 s v
theorem hs.append{l b3:List dW}{vs hv:List V}(h:hs l vs)(ar:hs b3 hv):hs (l++b3) (vs++hv):=by
 refine⟨by simp[h.1,ar.1],fun j s v ad aU=>?_⟩
 rcases Nat.lt_or_ge j l.length with aL|aL
 ·rw[List.getElem?_append_left aL]at ad
  rw[List.getElem?_append_left (by rw[h.1];exact aL)]at aU
  exact h.2 j s v ad aU
 ·rw[List.getElem?_append_right aL]at ad
  rw[List.getElem?_append_right (by rw[h.1];exact aL),h.1]at aU
  exact ar.2 _ s v ad aU
theorem hs.nil:hs [] []:=⟨rfl,by simp⟩
theorem hs.one{s:dW}{v:V}(h:l2 s v):hs [s] [v]:=by
 refine⟨rfl,fun j bc gJ h1 h2=>?_⟩
 cases j with
 |zero=>simp at h1 h2;subst h1;subst h2;exact h
 |succ j=>simp at h1
def Ren.all(W:World):Ren:=⟨fun _ _=>none,fun f b i us=>f=false∧∃c t fr,W.heap[b]? =some (.cells c t fr)∧∀(j:Nat) u,us[j]? =some u→c[i+j]? =some u,fun _=>False,fun _=>none⟩
theorem Rel.all(W:World)(aQ:tH W.heap.size W):Rel W.heap.size (Ren.all W) H.empty W where
 ma:=aQ
 aE:=Nat.le_refl _
 used:=fun id g x h=>by cases h
 own:=fun id cs e h=>by cases h
 kz:=fun id g x cs e h=>by cases h
 top:=fun id _=>rfl
 sep:=fun id da cs dw e dn b x c6 fm _ h=>by cases h
 jg:=fun f b i us h=>h.2
 k7:=fun b i us h=>by cases h.1
 je:=fun f b i us id cs e x _ h=>by cases h
 eF:=⟨fun id s hm ad=>(by subst hm;cases ad),fun id da s bc b c6 _ hm ad=>(by subst hm;cases ad),fun D cP=>cP.elim,fun b K lz=>by cases lz⟩
section abs
variable{qG:Type}{enc:TypeId×Value→qG}{P:Program}{W:World}{base:Nat}{held:Bool}
theorem I9{ρ:Ren}{vs hv:List V}{us cw:List Value}(h:bV ρ vs us)(ar:bV ρ hv cw):bV ρ (vs++hv) (us++cw):=by
 refine jT.2 ⟨by simp[h.length,ar.length],fun i v u aU hu=>?_⟩
 rcases Nat.lt_or_ge i vs.length with hi|hi
 ·rw[List.getElem?_append_left hi]at aU
  rw[List.getElem?_append_left (by rw[←h.length];exact hi)]at hu
  exact (jT.1 h).2 i v u aU hu
 ·rw[List.getElem?_append_right hi]at aU
  rw[List.getElem?_append_right (by rw[←h.length];exact hi),←h.length]at hu
  exact (jT.1 ar).2 _ v u aU hu
theorem B6{ρ:Ren}{v:V}{u:Value}(h1:u.oneCell'=true)(h2:R ρ v u):bV ρ [v] [u]:=by
 simp only[bV]
 exact ⟨u,[],rfl,h1,h2,rfl⟩
theorem Fw:∀(fuel n:Nat) (t:TypeId) (cs:List Value) (x:DataW qG×List MemPlace) (l:List dW),DataW.trod enc P W base (fun _=>true) held fuel t cs=some x→lM P n t=some l→
  ∃vs,bV (Ren.all W) vs cs∧hs l vs
 |0,n,t,cs,x,l,h,_=>by simp[DataW.trod]at h
 |fuel+1,0,t,cs,x,l,h,ad=>by simp[lM]at ad
 |fuel+1,n+1,t,cs,x,l,h,ad=>by
  unfold DataW.trod at h
  unfold lM at ad
  cases hu:P.underlying t with
  |none=>rw[hu]at ad;simp at ad
  |some NH=>
   rw[hu]at ad h
   cases NH<;>simp only[reduceCtorEq]at ad
   case bool=>
    simp only[Option.some.injEq]at ad
    subst ad
    split at h<;>simp_all
    rename_i b
    exact ⟨[.bool b],B6 rfl (by simp[R]),hs.one (.bool b)⟩
   case int k=>
    simp only[Option.some.injEq]at ad
    subst ad
    split at h<;>simp only[reduceCtorEq,Option.some.injEq,TypeDesc.int.injEq]at*
    rename_i aw aH AE aN
    subst aN
    split at h
    ·rename_i ao
     obtain⟨rfl,hw⟩:=ao
     exact ⟨[.int _ AE],B6 rfl (by simp[R]),hs.one (.int _ AE hw)⟩
    ·cases h
   case string=>
    simp only[Option.some.injEq]at ad
    subst ad
    split at h<;>simp_all
    rename_i s
    exact ⟨[.str s],B6 rfl (by simp[R]),hs.one (.str s h.1)⟩
   case slice e=>
    simp only[Option.bind_eq_some_iff]at ad
    obtain⟨le,hle,ad⟩:=ad
    split at ad
    ·rename_i oX
     obtain⟨gD,hw⟩:=oX
     simp only[Option.some.injEq]at ad
     subst ad
     split at h<;>simp only[reduceCtorEq,Option.some.injEq,TypeDesc.slice.injEq]at*
     ·exact ⟨[.slice .nil 0 0 false],B6 rfl (by simp only[R];exact ⟨none,0,rfl,Nat.le_refl _,Nat.le_refl _,fun _=>rfl,fun _=>rfl,.inr rfl,fun h=>absurd rfl h,fun _ _ _ h=>by cases h⟩),hs.one (.nil le)⟩
     ·rename_i dn a len cap he
      subst he
      split at h
      ·rename_i ao
       obtain⟨aE,uQ,Hg⟩:=ao
       simp only[if_true,Option.bind_eq_some_iff,Option.map_eq_some_iff]at h
       obtain⟨elems,RP,rest,y_,_⟩:=h
       have each:∀i,i<cap→∃us,us.length=le.length∧(∀j,j<le.length→W.cell? ((a.add (i*le.length)).add j)=us[j]?)∧∃vs,bV (Ren.all W) vs us∧hs le vs:=fun i hi=>by
        have agP:∃y,((W.cells? base (a.add (i*P.cellsOf e)) (P.cellsOf e)).bind (DataW.trod enc P W base (fun _=>true) held fuel e))=some y:=by
         rcases Nat.lt_or_ge i len with bn |hy
         ·have aq:=mapM_some_length RP
          simp only[List.length_range]at aq
          have ej:i<elems.length:=by omega
          refine⟨elems[i], ?_⟩
          have:=mapM_some_get RP i i (by simp[bn])
          rw[List.getElem?_eq_getElem ej]at this
          exact this
         ·have aq:=mapM_some_length y_
          simp only[List.length_range]at aq
          have ej:i-len<rest.length:=by omega
          refine⟨rest[i-len], ?_⟩
          have:=mapM_some_get y_ (i-len) (i-len) (by rw[List.getElem?_range];omega)
          rw[show len+(i-len)=i by omega]at this
          rw[List.getElem?_eq_getElem ej]at this
          exact this
        obtain⟨y,aK⟩:=agP
        simp only[Option.bind_eq_some_iff]at aK
        obtain⟨us,l1,aK⟩:=aK
        obtain⟨_,h2,h3⟩:=World.cells?_some l1
        obtain⟨vs,aw,aH⟩:=Fw fuel n e us y le aK hle
        rw[hw]at h2 h3
        exact ⟨us,h2,h3,vs,aw,aH⟩
       have aaB:0<cap→∃c t fr,W.heap[a.block]? =some (.cells c t fr)∧a.spot=none:=fun K_=>by
        obtain⟨us,h2,h3,_⟩:=each 0 K_
        have:=h3 0 gD
        have w8:us[0]? =some us[0]:=List.getElem?_eq_getElem (by omega)
        rw[w8]at this
        simp only[Nat.zero_mul,Addr.add,if_true]at this
        unfold World.cell? at this
        split at this
        ·rename_i c t fr hh
         split at this
         ·cases this
         ·rename_i qp
          exact ⟨c,t,fr,hh,by simpa using qp⟩
        ·cases this
       have kx:∀c t fr,W.heap[a.block]? =some (.cells c t fr)→a.spot=none→∀m,W.cell? (a.add m)=c[a.off+m]?:=fun c t fr hh qp m=>by
        unfold World.cell? Addr.add
        by_cases hm:m=0
        ·subst hm;simp[hh,qp]
        ·simp[hm,hh]
       have dH:∀m,m≤cap→∃vs us,bV (Ren.all W) vs us∧us.length=m*le.length∧(∀(j:Nat) u,us[j]? =some u→W.cell? (a.add j)=some u)∧
         ∀(i j:Nat) s v,i<m→le[j]? =some s→vs[i*le.length+j]? =some v→l2 s v:=fun m=>by
        induction m with
        |zero=>intro _;exact ⟨[],[],vO,by simp,by simp,by simp⟩
        |succ m ih=>
         intro hm
         obtain⟨vs,us,bw,bJ,ch,bQ⟩:=ih (by omega)
         obtain⟨cw,h2,h3,hv,aw,aH⟩:=each m (by omega)
         have hT:vs.length=m*le.length:=by rw[bw.length,bJ]
         refine⟨vs++hv,us++cw,I9 bw aw,by simp[bJ,h2,Nat.succ_mul],fun j u aL=>?_,fun i j s v hi ad aU=>?_⟩
         ·rcases Nat.lt_or_ge j us.length with bn |hy
          ·rw[List.getElem?_append_left bn]at aL
           exact ch j u aL
          ·rw[List.getElem?_append_right hy]at aL
           have zL:j-us.length<cw.length:=(List.getElem?_eq_some_iff.1 aL).1
           have:=h3 (j-us.length) (by omega)
           rw[aL]at this
           rw[←this]
           congr 1
           rw[bJ]at hy⊢
           unfold Addr.add
           by_cases bH:m*le.length=0
           ·simp[bH]
           ·by_cases gq:j-m*le.length=0
            ·have:j≠0:=by omega
             simp[bH,gq,this]
             omega
            ·have:j≠0:=by omega
             simp[bH,gq,this]
             omega
         ·have dJ:j<le.length:=(List.getElem?_eq_some_iff.1 ad).1
          rcases Nat.lt_or_ge i m with DX|DX
          ·have:i*le.length+j<vs.length:=by
            rw[hT]
            calc i*le.length+j<i*le.length+le.length:=by omega
             _=(i+1)*le.length:=by rw[Nat.succ_mul]
             _≤m*le.length:=Nat.mul_le_mul_right _ DX
           rw[List.getElem?_append_left this]at aU
           exact bQ i j s v DX ad aU
          ·have:i=m:=by omega
           subst this
           rw[List.getElem?_append_right (by rw[hT];omega),hT,show i*le.length+j-i*le.length=j by omega]at aU
           exact aH.2 j s v ad aU
       obtain⟨vs,us,bw,bJ,ch,bQ⟩:=dH len uQ
       refine⟨[.slice (.lp false vs 0) len cap false],B6 rfl ?_,hs.one (.slice le vs len cap gD uQ Hg (by rw[bw.length,bJ]) bQ)⟩
       simp only[R]
       refine⟨some a,cap,rfl,uQ,Nat.le_refl _,fun _=>rfl,fun h=>(by cases h),(by cases vs<;>simp[V.h_,V.bm]),fun K_=>?_,fun _ _ _ h=>(by cases h)⟩
       obtain⟨c,t,fr,hh,qp⟩:=aaB (by omega)
       refine .inr ⟨a.block,a.off,us, ?_,bw, ?_⟩
       ·by_cases aU:vs=[]
        ·exact .inl aU
        ·refine .inr ⟨rfl,c,t,fr,hh,fun j u aL=>?_⟩
         rw[←kx c t fr hh qp j]
         exact ch j u aL
       ·obtain⟨b,o,s⟩:=a
        simp only at qp
        subst qp
        rfl
      ·cases h
    ·cases ad
   case struct fs=>
    simp only[Option.bind_eq_some_iff]at ad
    obtain⟨b3,tp,ad⟩:=ad
    split at ad
    ·rename_i hlen
     simp only[Option.some.injEq]at ad
     subst ad
     dsimp only at h
     split at h
     ·rename_i ha
      simp only[Option.map_eq_some_iff]at h
      obtain⟨xs,uW,_⟩:=h
      have key:∀(fs:List Field) (off:Nat) (l:List dW) (xs:List (DataW qG×List MemPlace)),(fs.mapM fun f=>DataW.trod enc P W base (fun _=>true) held fuel f.type ((cs.drop f.offset).take (P.cellsOf f.type)))=some xs→
        BN P (lM P n) fs off=some l→off+l.length=cs.length→∃vs,bV (Ren.all W) vs (cs.drop off)∧hs l vs:=by
       intro fs
       induction fs with
       |nil=>
        intro off l xs _ ak aq
        simp only[BN,Option.some.injEq]at ak
        subst ak
        refine⟨[], ?_,hs.nil⟩
        rw[List.drop_eq_nil_of_le (by simp at aq;omega)]
        exact vO
       |cons f fs ih=>
        intro off l xs hm ak aq
        simp only[BN]at ak
        split at ak
        ·rename_i adX
         simp only[Option.bind_eq_some_iff]at ak
         obtain⟨iz,nb,ak⟩:=ak
         split at ak
         ·rename_i ME
          simp only[Option.map_eq_some_iff]at ak
          obtain⟨hH,jk,rfl⟩:=ak
          simp only[List.mapM_cons,Option.bind_eq_bind,Option.bind_eq_some_iff]at hm
          obtain⟨y,aK,ys,tn,_⟩:=hm
          obtain⟨vs,aw,aH⟩:=ih (off+iz.length) hH ys tn jk (by simp at aq;omega)
          obtain⟨hv,aW,bq⟩:=Fw fuel n f.type _ y iz aK nb
          rw[adX,ME]at aW
          refine⟨hv++vs, ?_,bq.append aH⟩
          have:=I9 aW aw
          rw[←List.drop_drop,List.take_append_drop]at this
          exact this
         ·cases ak
        ·cases ak
      obtain⟨vs,aw,aH⟩:=key fs.toList 0 b3 xs uW tp (by omega)
      exact ⟨vs,by simpa using aw,aH⟩
     ·cases h
    ·cases ad
   case array m e=>
    simp only[Option.bind_eq_some_iff]at ad
    obtain⟨le,hle,ad⟩:=ad
    split at ad
    ·rename_i oX
     obtain⟨hw,hlen⟩:=oX
     simp only[Option.some.injEq]at ad
     subst ad
     dsimp only at h
     split at h
     ·rename_i ha
      simp only[Option.map_eq_some_iff]at h
      obtain⟨xs,uW,_⟩:=h
      have dH:∀k,k≤m→∃vs,bV (Ren.all W) vs (cs.take (k*le.length))∧hs (List.replicate k le).flatten vs:=fun k=>by
       induction k with
       |zero=>intro _;exact ⟨[],by simp[bV],by simpa using hs.nil⟩
       |succ k ih=>
        intro aN
        obtain⟨vs,aw,aH⟩:=ih (by omega)
        have aq:=mapM_some_length uW
        simp only[List.length_range]at aq
        have:=mapM_some_get uW k k (by rw[List.getElem?_range];omega)
        have w0:k<xs.length:=by omega
        rw[List.getElem?_eq_getElem w0]at this
        obtain⟨hv,aW,bq⟩:=Fw fuel n e _ _ le this hle
        rw[hw]at aW
        refine⟨vs++hv, ?_, ?_⟩
        ·have:=I9 aw aW
         rw[show(k+1)*le.length=k*le.length+le.length by rw[Nat.succ_mul],List.take_add]
         exact this
        ·rw[List.replicate_succ',List.flatten_append]
         simpa using aH.append (by simpa using bq)
      obtain⟨vs,aw,aH⟩:=dH m (Nat.le_refl _)
      refine⟨vs, ?_,aH⟩
      rw[List.take_of_length_le (by omega)]at aw
      exact aw
     ·cases h
    ·cases ad
end abs
def Cj(P:Program)(n:Nat)(t:TypeId)(v:V):Prop:=
 ∃l,lM P n t=some l∧match oZ P t with
  |some true=>∃cs,v=.agg cs∧hs l cs
  |some false=>∃s,l=[s]∧l2 s v
  |none=>False
def wv(P:Program)(n:Nat):List TypeId→List V→Prop
 |[],vs=>vs=[]
 |t::ts,vs=>∃v hv,vs=v::hv∧Cj P n t v∧wv P n ts hv
mutual
def dW.mf:dW→ab
 |.int k=> .int k
 |.bool=> .bool
 |.str=> .str
 |.slice l=> .row (dW.jI l)
def dW.jI:List dW→List ab
 |[]=>[]
 |s::l=>s.mf::dW.jI l
end
theorem dW.Pb:∀l,(dW.jI l).length=l.length
 |[]=>rfl
 |_::l=>by simp[dW.jI,dW.Pb l]
mutual
def ab.ok:(l:ab)→l.C→Prop
 |.int k,n=>(Lit.int k n).wf=true
 |.str,s=>s.size≤maxLen
 |.row ls,xs=>xs.length≤maxLen∧∀x∈xs,LT.ok ls x
 |.bool,_|.ptr,_|.slice,_|.map,_|.dyn,_|.tok,_=>True
def LT.ok:(ls:List ab)→LT ls→Prop
 |[],_=>True
 |[l],x=>l.ok x
 |l::b3::ls,x=>l.ok x.1∧LT.ok (b3::ls) x.2
end
def ai.ok:(t:ai)→t.C→Prop
 |.leaf l,x=>l.ok x
 |.agg ls,x=>LT.ok ls x
def aj.ok:(ts:List ai)→aj ts→Prop
 |[],_=>True
 |[t],x=>t.ok x
 |t::ea::ts,x=>t.ok x.1∧aj.ok (ea::ts) x.2
theorem Pc (w:Nat):∀(n:Nat) (cs:List V) (i:Nat),i<n→(chunks w n cs)[i]? =some ((cs.drop (i*w)).take w)
 |0,_,_,h=>by omega
 |n+1,cs,0,_=>by simp[chunks]
 |n+1,cs,i+1,h=>by
  simp only[chunks,List.getElem?_cons_succ]
  rw[Pc w n _ i (by omega),List.drop_drop,Nat.add_mul,Nat.one_mul,Nat.add_comm w]
theorem Il(w:Nat):∀(n:Nat) (cs:List V),(chunks w n cs).length=n
 |0,_=>rfl
 |n+1,cs=>by simp[chunks,Il w n]
theorem Qy{α β:Type}{f:α→Option β}{p:β→Prop}:∀{vs:List α},(∀v∈vs,∃x,f v=some x∧p x)→∃xs,jE f vs=some xs∧(∀x∈xs,p x)∧xs.length=vs.length
 |[],_=>⟨[],rfl,by simp,rfl⟩
 |v::vs,h=>by
  obtain⟨x,h1,h2⟩:=h v (by simp)
  obtain⟨xs,h3,aI,ba⟩:=Qy (vs:=vs) fun v aU=>h v (by simp[aU])
  exact ⟨x::xs,by simp[jE,h1,h3],by simpa using⟨h2,aI⟩,by simp[ba]⟩
mutual
theorem l2.read:∀(s:dW) (v:V),l2 s v→∃x:s.mf.C,cE true H.empty s.mf v=some x∧s.mf.ok x
 |.int k,v,h=>by
  cases h with
  |int k n h=>exact ⟨n,by simp[dW.mf,cE],by simpa[dW.mf,ab.ok]using h⟩
 |.bool,v,h=>by
  cases h with
  |bool b=>exact ⟨b,by simp[dW.mf,cE],trivial⟩
 |.str,v,h=>by
  cases h with
  |str s h=>exact ⟨s,by simp[dW.mf,cE],by simpa[dW.mf,ab.ok]using h⟩
 |.slice l,v,h=>by
  cases h with
  |nil=>exact ⟨([]:List (LT (dW.jI l))),by simp[dW.mf,cE],by simp[dW.mf,ab.ok,maxLen]⟩
  |slice l cs n c aa ao hm aq h=>
   by_cases aM:n=0
   ·subst aM
    exact ⟨([]:List (LT (dW.jI l))),by simp[dW.mf,cE],by simp[dW.mf,ab.ok,maxLen]⟩
   ··have gD:0<n*l.length:=Nat.mul_pos (by omega) (by omega)
     obtain⟨xs,h1,h2,h3⟩:=Qy (f:=fun c=>ax true H.empty (dW.jI l) c) (p:=LT.ok (dW.jI l)) (vs:=chunks l.length n cs) fun c ao=>by
      obtain⟨i,hi⟩:=List.getElem?_of_mem ao
      have cI:i<n:=by
       have:=(List.getElem?_eq_some_iff.1 hi).1
       rwa [Il]at this
      rw[Pc _ _ _ _ cI]at hi
      cases hi
      have hle:i*l.length+l.length≤cs.length:=by
       rw[aq]
       calc i*l.length+l.length=(i+1)*l.length:=by rw[Nat.succ_mul]
        _≤n*l.length:=Nat.mul_le_mul_right _ cI
      refine hs.read l _ ⟨by rw[List.length_take,List.length_drop];omega,fun j s v ad aU=>?_⟩
      rw[List.getElem?_take]at aU
      split at aU
      ·rw[List.getElem?_drop]at aU
       exact h i j s v cI ad aU
      ·cases aU
     refine⟨xs, ?_, ?_⟩
     ·simp only[dW.mf,cE,if_neg aM,V.readable,Bool.true_or,cond_true,dW.Pb,H.fv,H.from,List.drop_zero,Option.bind_some]
      rw[if_pos ⟨by omega,by omega⟩,List.take_of_length_le (by omega)]
      exact h1
     ·simp only[dW.mf,ab.ok]
      exact ⟨by rw[h3,Il];omega,h2⟩
theorem hs.read:∀(l:List dW) (vs:List V),hs l vs→∃x:LT (dW.jI l),ax true H.empty (dW.jI l) vs=some x∧LT.ok (dW.jI l) x
 |[],vs,h=>by
  have:vs=[]:=List.eq_nil_of_length_eq_zero h.1
  subst this
  exact ⟨(),by simp[dW.jI,ax],by simp[dW.jI,LT.ok]⟩
 |[s],vs,h=>by
  obtain⟨h1,h2⟩:=h
  cases vs with
  |nil=>simp at h1
  |cons v vs=>
   have:vs=[]:=List.eq_nil_of_length_eq_zero (by simpa using h1)
   subst this
   obtain⟨x,aw,aH⟩:=l2.read s v (h2 0 s v rfl rfl)
   exact ⟨x,by simpa[dW.jI,ax]using aw,by simpa[dW.jI,LT.ok]using aH⟩
 |s::bc::l,vs,h=>by
  obtain⟨h1,h2⟩:=h
  cases vs with
  |nil=>simp at h1
  |cons v vs=>
   obtain⟨x,aw,aH⟩:=l2.read s v (h2 0 s v rfl rfl)
   obtain⟨y,aW,bq⟩:=hs.read (bc::l) vs ⟨by simpa using h1,fun j t u aG e2=>h2 (j+1) t u (by simpa using aG) (by simpa using e2)⟩
   exact ⟨(x,y),by simp only[dW.jI,ax,aw,Option.bind_some];simp only[dW.jI]at aW;rw[aW];rfl,by simp only[dW.jI,LT.ok];exact ⟨aH,by simpa only[dW.jI]using bq⟩⟩
end
section row
open Go.ChangeShapes Go.WideShapes
variable{qG:Type}{enc:TypeId×Value→qG}{P:Program}{W:World}
theorem Z5{t:TypeId}{base:Nat}{r:Reach}{cs:Array Value}(h:Cell.okWide P W r base t (.agg cs)):False:=by
 unfold Cell.okWide at h
 split at h<;>simp_all
 unfold Cell.ok at h
 split at h<;>simp_all
theorem Z6{n:Nat}{t:TypeId}{u:Value}{d:DataW qG}{ps:List MemPlace}{base:Nat}{r:Reach}(h:DataW.Trod enc P W 0 (fun _=>true) true t u d ps)(db:Value.okWide P W r base t u)
  (ad:(lM P n t).isSome=true):∃v,R (Ren.all W) v u∧Cj P n t v:=by
 obtain⟨l,aq⟩:=Option.isSome_iff_exists.1 ad
 obtain⟨fuel,ak⟩:=h
 obtain⟨vs,h1,h2⟩:=Fw fuel n t _ _ l ak aq
 unfold Cj
 unfold Value.okWide at db
 unfold oZ
 cases n with
 |zero=>simp[lM]at aq
 |succ n=>
  have tp:=aq
  unfold lM at aq
  cases hu:P.underlying t with
  |none=>rw[hu]at aq;simp at aq
  |some NH=>
   rw[hu]at db aq
   have one:∀s,l=[s]→Cell.okWide P W r base t u→∃v,R (Ren.all W) v u∧∃s,l=[s]∧l2 s v:=fun s aq db=>by
    subst aq
    obtain⟨bu,bs⟩:=h2
    have agQ:u.cells.toList=[u]:=by
     cases u<;>try rfl
     exact (Z5 db).elim
    rw[agQ]at h1
    cases vs with
    |nil=>simp at bu
    |cons v vs=>
     simp only[bV]at h1
     obtain⟨kg,cw,e,_,af,_⟩:=h1
     simp only[List.cons.injEq]at e
     obtain⟨rfl,_⟩:=e
     exact ⟨v,af,s,rfl,bs 0 s v rfl rfl⟩
   have SP:(∃cs,u=.agg cs∧cs.size=P.cellsOf t∧Row.okWide P W r base t cs)→∃v,R (Ren.all W) v u∧∃cs,v=.agg cs∧hs l cs:=fun⟨cs,e,_⟩=>by
    subst e
    exact ⟨.agg vs,by simp only[R];exact ⟨cs.toList,rfl,h1⟩,vs,rfl,h2⟩
   cases NH<;>simp only[reduceCtorEq]at aq
   case bool=>obtain⟨v,aw,aH⟩:=one _ (Option.some.inj aq).symm db;exact ⟨v,aw,l,tp,aH⟩
   case int k=>obtain⟨v,aw,aH⟩:=one _ (Option.some.inj aq).symm db;exact ⟨v,aw,l,tp,aH⟩
   case string=>obtain⟨v,aw,aH⟩:=one _ (Option.some.inj aq).symm db;exact ⟨v,aw,l,tp,aH⟩
   case slice e=>
    simp only[Option.bind_eq_some_iff]at aq
    obtain⟨b3,_,aq⟩:=aq
    split at aq
    ·obtain⟨v,aw,aH⟩:=one _ (Option.some.inj aq).symm db;exact ⟨v,aw,l,tp,aH⟩
    ·cases aq
   case struct fs=>obtain⟨v,aw,aH⟩:=SP db;exact ⟨v,aw,l,tp,aH⟩
   case array m e=>obtain⟨v,aw,aH⟩:=SP db;exact ⟨v,aw,l,tp,aH⟩
theorem Qz{n:Nat}{base:Nat}{r:Reach}:∀(ts:List TypeId) (us:List Value) (ds:List (DataW qG)) (ps:List MemPlace),DataW.TrodAll enc P W 0 (fun _=>true) true ts us ds ps→
  (∀(j:Nat) t u,ts[j]? =some t→us[j]? =some u→Value.okWide P W r base t u)→(∀t∈ts,(lM P n t).isSome=true)→∃vs,cm (Ren.all W) vs us∧wv P n ts vs∧ds.length=ts.length
 |[],us,ds,ps,h,_,_=>by
  cases us<;>cases ds<;>simp_all [DataW.TrodAll]
  exact ⟨[],RE,rfl⟩
 |t::ts,us,ds,ps,h,db,ad=>by
  cases us with
  |nil=>cases ds<;>simp[DataW.TrodAll]at h
  |cons u us=>
   cases ds with
   |nil=>simp[DataW.TrodAll]at h
   |cons d ds=>
    simp only[DataW.TrodAll]at h
    obtain⟨p,q,h1,h2,_⟩:=h
    obtain⟨v,aw,aH⟩:=Z6 (n:=n) h1 (db 0 t u rfl rfl) (ad t (by simp))
    obtain⟨vs,aW,bq,bU⟩:=Qz ts us ds q h2 (fun j t u aG e2=>db (j+1) t u (by simpa using aG) (by simpa using e2)) (fun t bk=>ad t (by simp[bk]))
    refine⟨v::vs, ?_,⟨v,vs,rfl,aH,bq⟩,by simp[bU]⟩
    simp only[cm]
    exact ⟨u,us,rfl,aw,aW⟩
theorem Oe (aq:laidOutB P=true){EJ:World}(aE:Below W.heap.size W EJ):∀(ts:List TypeId) (us:List Value) (ds:List (DataW qG)) (ps:List MemPlace),DataW.TrodAll enc P W 0 (fun _=>true) true ts us ds ps→
  (∀t∈ts,P.readableRec t=true∧t<P.types.size)→(∀x∈ps,x.block<W.heap.size)→DataW.TrodAll enc P EJ 0 (fun b=>decide (b<W.heap.size)) true ts us ds ps
 |[],us,ds,ps,h,_,_=>by cases us<;>cases ds<;>simp_all [DataW.TrodAll]
 |t::ts,us,ds,ps,h,af,bn=>by
  cases us with
  |nil=>cases ds<;>simp[DataW.TrodAll]at h
  |cons u us=>
   cases ds with
   |nil=>simp[DataW.TrodAll]at h
   |cons d ds=>
    simp only[DataW.TrodAll]at h⊢
    obtain⟨p,q,h1,h2,rfl⟩:=h
    exact ⟨p,q,Go.RowKit.Below.trod aq (af t (by simp)).1 (af t (by simp)).2 h1 aE.tj (fun x hx=>bn x (by simp[hx])),Oe aq aE ts us ds q h2 (fun t bk=>af t (by simp[bk])) (fun x hx=>bn x (by simp[hx])),rfl⟩
def C2(P:Program)(n:Nat)(t:TypeId):Option ai:=
 match lM P n t,oZ P t with
 |some l,some true=>some (.agg (dW.jI l))
 |some [s],some false=>some (.leaf s.mf)
 |_,_=>none
def vV(P:Program)(n:Nat):List TypeId→Option (List ai)
 |[]=>some []
 |t::ts=>(C2 P n t).bind fun y=>(vV P n ts).map (y::·)
theorem Wn{n:Nat}{t:TypeId}{y:ai}(h:C2 P n t=some y):(lM P n t).isSome=true:=by
 unfold C2 at h
 cases ad:lM P n t with
 |none=>rw[ad]at h;simp at h
 |some l=>rfl
theorem Ox{n:Nat}:∀(ts:List TypeId) (ys:List ai),vV P n ts=some ys→∀t∈ts,(lM P n t).isSome=true
 |[],_,_=>by simp
 |t::ts,ys,h=>by
  simp only[vV,Option.bind_eq_some_iff,Option.map_eq_some_iff]at h
  obtain⟨y,aK,DY,tn,rfl⟩:=h
  intro ea DU
  rcases List.mem_cons.1 DU with rfl |DU
  ·exact Wn aK
  ·exact Ox ts DY tn ea DU
theorem Cj.read{n:Nat}{t:TypeId}{v:V}{y:ai}(h:Cj P n t v)(aK:C2 P n t=some y):∃x:y.C,aB true H.empty y v=some x∧y.ok x:=by
 obtain⟨l,aq,h⟩:=h
 unfold C2 at aK
 rw[aq]at aK
 cases bD:oZ P t with
 |none=>rw[bD]at h;exact h.elim
 |some b=>
  rw[bD]at h aK
  cases b with
  |true=>
   obtain⟨cs,rfl,h⟩:=h
   cases aK
   obtain⟨x,h1,h2⟩:=hs.read l cs h
   exact ⟨x,by simpa[aB]using h1,by simpa[ai.ok]using h2⟩
  |false=>
   obtain⟨s,rfl,h⟩:=h
   cases aK
   obtain⟨x,h1,h2⟩:=l2.read s v h
   exact ⟨x,by simpa[aB]using h1,by simpa[ai.ok]using h2⟩
theorem wv.read{n:Nat}:∀(ts:List TypeId) (vs:List V) (ys:List ai),wv P n ts vs→vV P n ts=some ys→∃x:aj ys,az true H.empty ys vs=some x∧aj.ok ys x
 |[],vs,ys,h,aK=>by
  simp only[vV,Option.some.injEq]at aK
  subst aK
  simp only[wv]at h
  subst h
  exact ⟨(),by simp[az],by simp[aj.ok]⟩
 |t::ts,vs,ys,h,aK=>by
  simp only[vV,Option.bind_eq_some_iff,Option.map_eq_some_iff]at aK
  obtain⟨y,DZ,DY,tn,rfl⟩:=aK
  obtain⟨v,hv,rfl,h1,h2⟩:=h
  obtain⟨x,aw,aH⟩:=h1.read DZ
  obtain⟨z,aW,bq⟩:=wv.read ts hv DY h2 tn
  cases DY with
  |nil=>
   cases hv with
   |nil=>exact ⟨x,by simpa[az]using aw,by simpa[aj.ok]using aH⟩
   |cons _ _=>simp[az]at aW
  |cons gK DY=>exact ⟨(x,z),by simp only[az,aw,Option.bind_some,aW],by simpa[aj.ok]using⟨aH,bq⟩⟩
theorem ajV{T:Table}{A:fw}{f:FuncId}{fn:Func}{s:ChangeSpec}{n:Nat}{tb:TypeId}{ts:List ai}{g:aj ts→Option Bool}(bt:jC P T)(hm:P.follows .mixedOrders=true)(ak:P.funcs[f]? =some fn)(aM:(fn.name== "runtime.NumGoroutine")=false)
  (abu:laidOutB P=true)(rl:∀t∈fn.params.toList,P.readableRec t=true∧t<P.types.size)(Mw:vV P n fn.params.toList=some ts)(o6:fn.resultTypes= #[tb])(agR:P.underlying tb=some .bool)
  (Sn:s.vars=[])(Kr:∀ds:List (DataW qG),ds.length=fn.params.toList.length→s.fn qG ds={results:=[.lit (.bool true)],args:=ds})
  (he:∀x,((jd P T A fn (.one (.leaf .bool)) (aj.lo false ts x) H.empty).bind fun p=>av false p.2 (.one (.leaf .bool)) (an.un (.one (.leaf .bool)) p.1))=g x)
  (adY:∀x:aj ts,aj.ok ts x→g x=some true)(o7:tH W.heap.size W)(cI:A.inr=false:=by rfl)
  {base:Nat}{args:Array Value}{ds gs:List (DataW qG)}{before:List MemPlace}(hval:∀(j:Nat) t v,fn.params[j]? =some t→args[j]? =some v→Value.okWide P W .any base t v)
  (hW:DataW.Whole enc P fn.params.toList s.vars false W args.toList ds gs before):
  Calls P f args W fun e EJ=>∃v,e=.returned v∧s.post enc P fn false true false false W args v EJ:=by
 have TC:=hW
 obtain⟨p,q,eh,UU,rfl,j6,jj⟩:=hW
 rw[Sn]at UU
 obtain⟨rfl,rfl⟩:=trodVars_none UU
 obtain⟨vs,h1,h2,h3⟩:=Qz (n:=n) (base:=base) (r:=.any) _ _ _ _ eh (fun j t u aG e2=>hval j t u (by simpa using aG) (by simpa using e2)) (Ox _ _ Mw)
 obtain⟨x,hx,db⟩:=wv.read _ _ _ h2 Mw
 have Ai:=he x
 rw[adY x db]at Ai
 simp only[Option.bind_eq_some_iff]at Ai
 obtain⟨⟨b,ar⟩,hh,aE⟩:=Ai
 have na:b=true:=by simpa[av,aB,cE,an.un,ai.un,ab.un]using aE
 subst na
 obtain⟨_,lO⟩:=Jr bt.1 hm ak hh cI
 have:=lO W.heap.size _ W args.toList (bt.2 _ _) (Rel.all W o7).rows (FR (Rel.all W o7) ts vs x args.toList hx h1)
 simp only[Array.toArray_toList]at this
 refine this.mono fun e EJ ⟨a7,val,_,fY,fN,he,af⟩=>⟨val,he, ?_⟩
 simp only[an.un,ai.un,ab.un,R]at af
 subst af
 refine⟨ds,[],p++[],[],p,[],TC, ?_, ?_, ?_,fN.tj.frame _,fun h=>by cases h⟩
 ·rw[List.append_nil,Kr ds h3,o6]
  exact trodAll_mk1 (shut_bool agR true)
 ·rw[List.append_nil,Kr ds h3]
  exact Oe abu fN _ _ _ _ eh rl (fun x hx=>TC.lt x (by simp[hx]))
 ·rw[List.append_nil,Kr ds h3,Sn]
  rfl
end row
end Go.Proofs.YtlphgijokknjhaaGreat.Ev
namespace Go.Proofs.YtlphgijokknjhaaGreat.Ev
open Go
theorem aS{p:Prop}[Decidable p]{R:Type}(h:p)(x:Option R):aJ p x=x:=by simp[aJ,h]
theorem ON{R:Type}(x:Option R):aJ True x=x:=rfl
theorem BO{S F:Type}{f:S→Option (ca S F)}{x:F}(st:Nat→S):∀(m n:Nat),(∀i,i<m→f (st i)=some (.more (st (i+1))))→f (st m)=some (.done x)→m<n→iter n f (st 0)=some x
 |0,0,_,_,h=>by omega
 |0,n+1,_,bF,_=>by simp[iter,bF]
 |m+1,0,_,_,h=>by omega
 |m+1,n+1,ad,bF,h=>by
  simp only[iter,ad 0 (by omega),Option.bind_some]
  exact BO (fun i=>st (i+1)) m n (fun i hi=>ad (i+1) (by omega)) bF (by omega)
theorem kr{S F:Type}{f:S→Option (ca S F)}{x:F}(st:Nat→S){s0:S}(aO:st 0=s0)(m n:Nat)(ad:∀i,i<m→f (st i)=some (.more (st (i+1))))(bF:f (st m)=some (.done x))(h:m<n):iter n f s0=some x:=by
 rw[←aO];exact BO st m n ad bF h
theorem ft{S F:Type}{f:S→Option (ca S F)}{Inv:S→Prop}{Post:F→Prop}(μ:S→Nat)
  (step:∀s,Inv s→(∃bc,f s=some (.more bc)∧Inv bc∧μ bc<μ s)∨∃x,f s=some (.done x)∧Post x):∀(n:Nat) (s:S),Inv s→μ s<n→∃x,iter n f s=some x∧Post x
 |0,s,_,h=>by omega
 |n+1,s,hi,h=>by
  rcases step s hi with⟨bc,h1,h2,h3⟩|⟨x,h1,h2⟩
  ·obtain⟨x,aw,aH⟩:=ft μ step n bc h2 (by omega)
   exact ⟨x,by simp only[iter,h1,Option.bind_some];exact aw,aH⟩
  ·exact ⟨x,by simp[iter,h1],h2⟩
theorem P1{S F:Type}{f:S→Option (ca S F)}{y:F}(g:Nat→Option F):∀(m:Nat) (st:Nat→S) (n:Nat),(∀i,i<m→f (st i)=some (match g i with|some x=> .done x |none=> .more (st (i+1))))→
  f (st m)=some (.done y)→m<n→iter n f (st 0)=some (((List.range m).findSome? g).getD y)
 |0,st,0,_,_,h=>by omega
 |0,st,n+1,_,bF,_=>by simp[iter,bF]
 |m+1,st,0,_,_,h=>by omega
 |m+1,st,n+1,ad,bF,h=>by
  have aO:=ad 0 (by omega)
  simp only[iter]
  rw[aO]
  rw[List.range_succ_eq_map,List.findSome?_cons,List.findSome?_map]
  cases aQ:g 0 with
  |some x=>simp
  |none=>
   simp only[Option.bind_some]
   have:=P1 (y:=y) (fun i=>g (i+1)) m (fun i=>st (i+1)) n (fun i hi=>ad (i+1) (by omega)) bF (by omega)
   exact this
theorem I_{F α:Type}{h:H}{f:Int×H→Option (ca (Int×H) (bG Unit F×H))}(xs:List α)(p:α→Bool)(r:Nat→F)(aM:xs.length<2^63)
  (ad:∀(i:Nat) x,xs[i]? =some x→f ((i:Int),h)=some (bif p x then .done (.ret (r i),h)else .more (((i+1:Nat):Int),h)))
  (bF:f ((xs.length:Int),h)=some (.done (.aP (),h))):iter bd f (0,h)=some (match xs.findIdx? p with|some i=>(.ret (r i),h)|none=>(.aP (),h)):=by
 have agS:xs.length<bd:=Nat.lt_trans aM (by unfold bd;exact Nat.pow_lt_pow_right (by omega) (by omega))
 cases hx:xs.findIdx? p with
 |none=>
  rw[List.findIdx?_eq_none_iff]at hx
  exact BO (fun i=>((i:Int),h)) xs.length bd (fun i hi=>by
   rw[ad i xs[i] (List.getElem?_eq_getElem hi),hx xs[i] (List.getElem_mem hi)];rfl) bF agS
 |some m=>
  rw[List.findIdx?_eq_some_iff_getElem]at hx
  obtain⟨hm,aa,bn⟩:=hx
  exact BO (fun i=>((i:Int),h)) m bd (fun i hi=>by
   have TD:=bn i hi
   rw[ad i xs[i] (List.getElem?_eq_getElem (by omega)),Bool.eq_false_iff.2 TD];rfl) (by
   rw[ad m xs[m] (List.getElem?_eq_getElem hm),aa];rfl) (by omega)
def idxOf{α:Type}(p:α→Bool)(xs:List α):Int:=match xs.findIdx? p with|some i=>(i:Int)|none=>-1
theorem Oy{α:Type}(p:α→Bool)(xs:List α):decide (0≤idxOf p xs)=xs.any p:=by
 unfold idxOf
 cases hx:xs.findIdx? p with
 |none=>
  rw[List.findIdx?_eq_none_iff]at hx
  have:xs.any p=false:=by rw[List.any_eq_false];intro x hm;simp[hx x hm]
  rw[this];rfl
 |some m=>
  rw[List.findIdx?_eq_some_iff_getElem]at hx
  obtain⟨hm,aa,bn⟩:=hx
  have:xs.any p=true:=by rw[List.any_eq_true];exact ⟨xs[m],List.getElem_mem hm,aa⟩
  rw[this];simp
theorem Y6{α:Type}(p:α→Bool)(xs:List α):xs.all p=(xs.findIdx? fun x=>!p x).isNone:=by
 cases h:xs.findIdx? fun x=>!p x with
 |none=>rw[List.findIdx?_eq_none_iff]at h;rw[List.all_eq_true.2 (fun x hx=>by simpa using h x hx)];rfl
 |some m=>
  rw[List.findIdx?_eq_some_iff_getElem]at h
  obtain⟨hm,aa,_⟩:=h
  have:xs.all p=false:=List.all_eq_false.2 ⟨xs[m],List.getElem_mem hm,by simpa using aa⟩
  rw[this];rfl
theorem Rc{α:Type}[DecidableEq α]:∀(a b:List α),a.length=b.length→(a.zip b).all (fun p=>decide (p.1=p.2))=decide (a=b)
 |[],[],_=>rfl
 |[],_::_,h=>by simp at h
 |_::_,[],h=>by simp at h
 |x::a,y::b,h=>by
  have ih:=Rc a b (by simpa using h)
  simp only[List.zip_cons_cons,List.all_cons,ih,List.cons.injEq,Bool.decide_and]
theorem X1{α:Type}[DecidableEq α]{h:H}{f:Int×H→Option (ca (Int×H) (bG Unit Bool×H))}(a b:List α)(oc:a.length=b.length)(aM:a.length<2^63)
  (ad:∀(i:Nat) x y,a[i]? =some x→b[i]? =some y→i<a.length→f ((i:Int),h)=some (bif !decide (x=y)then .done (.ret false,h)else .more (((i+1:Nat):Int),h)))
  (bF:f ((a.length:Int),h)=some (.done (.aP (),h))):iter bd f (0,h)=some (if a=b then(.aP (),h)else (.ret false,h)):=by
 have aq:(a.zip b).length=a.length:=by rw[List.length_zip];omega
 rw[I_ (a.zip b) (fun p=>!decide (p.1=p.2)) (fun _=>false) (by omega) (fun i p aa=>by
  obtain⟨x,y⟩:=p
  have:=List.getElem?_zip_eq_some.1 aa
  exact ad i x y this.1 this.2 (List.getElem?_eq_some_iff.1 this.1).1) (by rw[aq];exact bF)]
 have bH:=Rc a b oc
 rw[Y6]at bH
 cases hx:(a.zip b).findIdx? fun p=>!decide (p.1=p.2)with
 |none=>
  rw[hx]at bH
  have:a=b:=of_decide_eq_true bH.symm
  rw[if_pos this]
 |some m=>
  rw[hx]at bH
  have:¬a=b:=of_decide_eq_false bH.symm
  rw[if_neg this]
theorem dj{n:Nat}(h:n<2^69):n<bd:=Nat.lt_of_lt_of_le h (by unfold bd;exact Nat.pow_le_pow_right (by omega) (by omega))
mutual
def ab.plain:ab→Bool
 |.int _|.bool |.str=>true
 |.row ls=>!ls.isEmpty&&LT.plain ls
 |_=>false
def LT.plain:List ab→Bool
 |[]=>true
 |l::ls=>l.plain&&LT.plain ls
end
theorem LT.nD{f:Bool}:∀(ls:List ab) (x:LT ls),(LT.lo f ls x).length=ls.length
 |[],_=>rfl
 |[l],x=>rfl
 |l::b3::ls,x=>by simp[LT.lo,LT.nD (b3::ls)]
theorem hK{f:Bool}{ls:List ab}(xs:List (LT ls)):(xs.flatMap fun x=>LT.lo f ls x).length=xs.length*ls.length:=by
 induction xs with
 |nil=>simp
 |cons x xs ih=>simp[ih,LT.nD,Nat.add_mul,Nat.add_comm]
theorem yn{f:Bool}{ls:List ab}:∀(xs:List (LT ls)) (i:Nat),(xs.flatMap fun x=>LT.lo f ls x).drop (i*ls.length)=(xs.drop i).flatMap fun x=>LT.lo f ls x
 |[],i=>by simp
 |x::xs,0=>by simp
 |x::xs,i+1=>by
  rw[List.flatMap_cons,Nat.add_mul,Nat.one_mul,Nat.add_comm,←List.drop_drop]
  rw[List.drop_left' (LT.nD ls x),yn xs i]
  rfl
theorem Bk{f:Bool}{ls:List ab}:∀(xs:List (LT ls)),chunks ls.length xs.length (xs.flatMap fun x=>LT.lo f ls x)=xs.map fun x=>LT.lo f ls x
 |[]=>rfl
 |x::xs=>by
  simp only[List.length_cons,chunks,List.flatMap_cons,List.map_cons]
  rw[List.take_left' (LT.nD ls x),List.drop_left' (LT.nD ls x),Bk xs]
mutual
theorem Fx{lp f:Bool}{h:H}(aE:(lp||f)=true):∀(l:ab) (x:l.C),l.plain=true→cE lp h l (l.lo f x)=some x
 |.int k,x,_=>by simp[cE,ab.lo]
 |.bool,x,_=>by simp[cE,ab.lo]
 |.str,x,_=>by simp[cE,ab.lo]
 |.ptr,x,aa=>by simp[ab.plain]at aa
 |.slice,x,aa=>by simp[ab.plain]at aa
 |.map,x,aa=>by simp[ab.plain]at aa
 |.dyn,x,aa=>by simp[ab.plain]at aa
 |.tok,x,_=>rfl
 |.row ls,xs,aa=>by
  simp only[ab.plain,Bool.and_eq_true]at aa
  have gD:0<ls.length:=by cases ls<;>simp_all
  simp only[cE,ab.lo,V.readable,aE,cond_true]
  cases xs with
  |nil=>simp
  |cons x xs=>
   rw[if_neg (by simp)]
   simp only[H.fv,H.from,List.drop_zero,Option.bind_some]
   rw[if_pos ⟨by rw[hK];exact Nat.le_refl _,by rw[List.length_cons];exact Nat.ne_of_gt (Nat.mul_pos (by omega) gD)⟩]
   rw[List.take_of_length_le (by rw[hK];exact Nat.le_refl _),Option.bind_some,Bk]
   have:∀(ys:List (LT ls)),jE (fun c=>ax lp h ls c) (ys.map fun x=>LT.lo f ls x)=some ys:=fun ys=>by
    induction ys with
    |nil=>rfl
    |cons y ys ih=>simp only[List.map_cons,jE,JL aE ls y aa.2,Option.bind_some,ih]
   exact this _
theorem JL{lp f:Bool}{h:H}(aE:(lp||f)=true):∀(ls:List ab) (x:LT ls),LT.plain ls=true→ax lp h ls (LT.lo f ls x)=some x
 |[],x,_=>rfl
 |[l],x,aa=>by
  simp only[LT.plain,Bool.and_eq_true]at aa
  simp only[ax,LT.lo,Fx aE l x aa.1]
 |l::b3::ls,x,aa=>by
  simp only[LT.plain,Bool.and_eq_true]at aa
  simp only[ax,LT.lo,Fx aE l x.1 aa.1,Option.bind_some]
  rw[JL aE (b3::ls) x.2 (by simp only[LT.plain,Bool.and_eq_true];exact aa.2)]
  rfl
end
theorem hL{f:Bool}{h:H}{ls:List ab}{xs:List (LT ls)}(aa:ab.plain (.row ls)=true):bB true h ls (ae f ls xs)=some xs:=Fx (f:=f) rfl (.row ls) xs aa
theorem jb{lp:Bool}{h:H}{ls:List ab}{xs:List (LT ls)}(aa:ab.plain (.row ls)=true):bB lp h ls (ae true ls xs)=some xs:=Fx (f:=true) (by simp) (.row ls) xs aa
theorem mu{lp:Bool}{h:H}{ls:List ab}{a:V}{c:Nat}{t:Bool}:bB lp h ls ⟨a,0,c,t⟩=some []:=by simp[bB,cE]
theorem bZ{f:Bool}{ls:List ab}{xs:List (LT ls)}:(ae f ls xs).len=xs.length:=congrArg au.len (Eq.refl (ae f ls xs))
theorem hg{f:Bool}{ls:List ab}{xs:List (LT ls)}:(ae f ls xs).cap=xs.length:=congrArg au.cap (Eq.refl (ae f ls xs))
theorem hf{f:Bool}{ls:List ab}{xs:List (LT ls)}:(ae f ls xs).tail=true:=congrArg au.tail (Eq.refl (ae f ls xs))
theorem add_add (a:V)(i j:Nat):(a.add i).add j=a.add (i+j):=by cases a<;>simp[V.add,Nat.add_assoc]
theorem add_zero(a:V):a.add 0=a:=by cases a<;>rfl
theorem QA{f:Bool}{ls:List ab}{xs:List (LT ls)}{i o:Nat}(a8:o<ls.length):(xs.flatMap fun x=>LT.lo f ls x)[i*ls.length+o]? =(xs[i]?).bind fun x=>(LT.lo f ls x)[o]?:=by
 rw[←List.getElem?_drop,yn]
 cases hx:xs[i]? with
 |none=>
  have:xs.length≤i:=List.getElem?_eq_none_iff.1 hx
  rw[List.drop_eq_nil_of_le this]
  simp
 |some x=>
  obtain⟨bn,rfl⟩:=List.getElem?_eq_some_iff.1 hx
  rw[List.drop_eq_getElem_cons bn,List.flatMap_cons,List.getElem?_append_left (by rw[LT.nD];exact a8)]
  rfl
theorem QB{f:Bool}{h:H}{ls:List ab}{xs:List (LT ls)}{n:Nat}:h.from ((ae f ls xs).a.add n)=some ((xs.flatMap fun x=>LT.lo f ls x).drop n):=by
 simp[ae,V.add,H.from]
theorem yX{f:Bool}{h:H}{ls:List ab}{xs:List (LT ls)}{l:ab}{i w o:Nat}(hw:ls.length=w)(a8:o<w):
  ah (.leaf l) h ((ae f ls xs).a.add (i*w+o))=(xs[i]?).bind fun x=>((LT.lo f ls x)[o]?).bind l.pack:=by
 subst hw
 simp only[ah,H.rd,QB,Option.bind_some,List.head?_drop]
 rw[QA a8,Option.bind_assoc]
theorem FT{f:Bool}{h:H}{ls:List ab}{xs:List (LT ls)}{l:ab}{i w:Nat}(hw:ls.length=w)(a8:0<w):
  ah (.leaf l) h ((ae f ls xs).a.add (i*w))=(xs[i]?).bind fun x=>((LT.lo f ls x)[0]?).bind l.pack:=yX (o:=0) hw a8
theorem nL{f:Bool}{ls:List ab}{xs:List (LT ls)}{n:Nat}(hx:xs.length≠0)(aq:ls.length≠0):((ae f ls xs).a.add n).bm=true:=by
 simp only[ae,V.add,V.bm]
 cases xs with
 |nil=>simp at hx
 |cons x xs=>
  have:=LT.nD (f:=f) ls x
  cases hh:LT.lo f ls x with
  |nil=>rw[hh]at this;simp at this;omega
  |cons _ _=>simp[hh]
theorem FU{f:Bool}{h:H}{ls:List ab}{xs:List (LT ls)}{ms:List ab}{i w:Nat}(hw:ls.length=w)(hm:ms.length=w)(a8:0<w):
  ah (.agg ms) h ((ae f ls xs).a.add (i*w))=(xs[i]?).bind fun x=>LT.pack ms (LT.lo f ls x):=by
 subst hw
 simp only[ah,H.fv,QB,Option.bind_some,yn]
 cases hx:xs[i]? with
 |none=>
  have:xs.length≤i:=List.getElem?_eq_none_iff.1 hx
  rw[List.drop_eq_nil_of_le this]
  simp
 |some x=>
  obtain⟨bn,rfl⟩:=List.getElem?_eq_some_iff.1 hx
  rw[List.drop_eq_getElem_cons bn,List.flatMap_cons,hm]
  rw[if_pos ⟨by simp[LT.nD],by omega⟩]
  rw[List.take_left' (LT.nD ls _)]
  rfl
theorem uj{f:Bool}{h:H}{k:IntKind}{xs:List Int}{i:Nat}:ah (.leaf (.int k)) h ((ae f [.int k] xs).a.add (i*1))=xs[i]?:=by
 rw[FT (w:=1) (ls:=[.int k]) (xs:=xs) rfl (by omega)]
 cases xs[i]?<;>simp[LT.lo,ab.lo,ab.pack]
def LT.flat:List ab→Bool
 |[]=>true
 |.int _::ls|.bool::ls|.str::ls=>LT.flat ls
 |_=>false
theorem P2{f:Bool}:∀(ls:List ab) (x:LT ls),LT.flat ls=true→LT.pack ls (LT.lo f ls x)=some x
 |[],x,_=>rfl
 |[l],x,h=>by cases l<;>simp_all [LT.flat,LT.lo,LT.pack,ab.lo,ab.pack]
 |l::b3::ls,x,h=>by
  have h1:l.pack (l.lo f x.1)=some x.1∧LT.flat (b3::ls)=true:=by cases l<;>simp_all [LT.flat,ab.lo,ab.pack]
  simp only[LT.lo,LT.pack,h1.1,Option.bind_some]
  rw[P2 (b3::ls) x.2 h1.2]
  rfl
theorem q8{f:Bool}{h:H}{ls:List ab}{xs:List (LT ls)}{i w:Nat}(hw:ls.length=w)(a8:0<w)(ak:LT.flat ls=true):
  ah (.agg ls) h ((ae f ls xs).a.add (i*w))=xs[i]?:=by
 rw[FU hw hw a8]
 cases xs[i]? with
 |none=>rfl
 |some x=>simp[P2 ls x ak]
def ag(l:List Slot):H:=⟨l.length,fun i=>(l[i]?).getD .fresh⟩
theorem H.ext'{a b:H}(h1:a.next=b.next)(h2:∀i,a.m i=b.m i):a=b:=by
 obtain⟨n,m⟩:=a
 obtain⟨AE,qC⟩:=b
 simp only at h1 h2
 subst h1
 have:m=qC:=funext h2
 rw[this]
theorem hj:H.empty=ag []:=H.ext' rfl fun i=>by simp[H.empty,ag]
theorem bR{l:List Slot}:(ag l).next=l.length:=rfl
theorem fO{l:List Slot}{i:Nat}:(ag l).m i=(l[i]?).getD .fresh:=rfl
theorem b9{l:List Slot}{cs:List V}{e:Nat}:H.new (ag l) cs e=ag (l++[.own cs e]):=by
 refine H.ext' (by simp[H.new,ag]) fun i=>?_
 simp only[H.new,ag]
 by_cases hi:i=l.length
 ·subst hi
  simp
 ·rw[c8 hi,cond_false]
  rcases Nat.lt_or_ge i l.length with h|h
  ·rw[List.getElem?_append_left h]
  ·rw[List.getElem?_eq_none h,List.getElem?_eq_none (by simp;omega)]
theorem k5{l:List Slot}{i:Nat}{s:Slot}(hi:i<l.length):H.put (ag l) i s=ag (l.set i s):=by
 refine H.ext' (by simp[H.put,ag]) fun j=>?_
 simp only[H.put,ag]
 by_cases aL:j=i
 ·subst aL
  simp[hi]
 ·rw[c8 aL,cond_false,List.getElem?_set_ne (by omega)]
theorem Ff{l:List Slot}{n:Nat}:H.de (ag l) n=ag (l++List.replicate n .fresh):=by
 refine H.ext' (by simp[H.de,ag]) fun j=>?_
 simp only[H.de,ag]
 rcases Nat.lt_or_ge j l.length with h|h
 ·rw[List.getElem?_append_left h]
 ·rw[List.getElem?_eq_none h,List.getElem?_append_right h,List.getElem?_replicate]
  split<;>rfl
theorem gk{h:H}:H.de h 0=h:=rfl
theorem Ks{l:ab}{h:H}{id g o:Nat}:ah (.leaf l) h (.aa id g o)=(match h.m id with
  |.own cs _=>if cs.length=g then(cs[o]?).bind l.pack else none
  |_=>none):=by
 simp only[ah,H.rd,H.from]
 cases h.m id<;>try rfl
 rename_i cs e
 simp only
 by_cases aQ:cs.length=g
 ·simp[aQ,List.head?_drop]
 ·simp[aQ]
theorem oQ{ls:List ab}{h:H}{id g o:Nat}(aq:ls.length≠0):ah (.agg ls) h (.aa id g o)=(match h.m id with
  |.own cs _=>if cs.length=g∧ls.length≤cs.length-o then LT.pack ls ((cs.drop o).take ls.length)else none
  |_=>none):=by
 simp only[ah,H.fv,H.from]
 cases h.m id<;>try rfl
 rename_i cs e
 simp only
 by_cases aQ:cs.length=g
 ·subst aQ
  by_cases aq:ls.length≤cs.length-o
  ·simp[*]
  ·simp[aq]
 ·simp[aQ]
theorem J8{h:H}{id g o:Nat}{vs:List V}:H.aY h (.aa id g o) vs=(match h.m id with
  |.own cs e=>if cs.length=g∧o+vs.length≤cs.length then some (h.put id (.own (splice cs o vs) e))else none
  |_=>none):=rfl
theorem e5{l:ab}{sl:List Slot}{id g o e:Nat}{cs:List V}(ad:sl[id]? =some (.own cs e))(aQ:cs.length=g):ah (.leaf l) (ag sl) (.aa id g o)=(cs[o]?).bind l.pack:=by
 rw[Ks,fO,ad];simp[aQ]
theorem eS{sl:List Slot}{id g o e:Nat}{cs vs:List V}(ad:sl[id]? =some (.own cs e))(aQ:cs.length=g)(a8:o+vs.length≤g):H.aY (ag sl) (.aa id g o) vs=some (ag (sl.set id (.own (splice cs o vs) e))):=by
 rw[J8,fO,ad]
 simp only[Option.getD_some]
 rw[if_pos ⟨aQ,by omega⟩,k5 (List.getElem?_eq_some_iff.1 ad).1]
def fh(id:Nat)(ls:List ab)(n:Nat):au:=⟨.aa id (n*ls.length) 0,n,n,true⟩
def uB:au:=⟨.nil,0,0,false⟩
abbrev bx(ls:List ab)(xs:List (LT ls)):List V:=xs.flatMap fun x=>LT.lo true ls x
theorem Js{sl:List Slot}{id e n:Nat}{ls:List ab}{xs:List (LT ls)}(ad:sl[id]? =some (.own (bx ls xs) e))(aM:xs.length*ls.length=n)(o:Nat):(ag sl).from (.aa id n o)=some ((bx ls xs).drop o):=by
 simp only[H.from,fO,ad,Option.getD_some]
 rw[if_pos (by rw[hK,aM])]
theorem JM{ls:List ab}{xs:List (LT ls)}{l:ab}{sl:List Slot}{id e n i w o:Nat}(ad:sl[id]? =some (.own (bx ls xs) e))(aM:xs.length*ls.length=n)(hw:ls.length=w)(a8:o<w):
  ah (.leaf l) (ag sl) (.aa id n (i*w+o))=(xs[i]?).bind fun x=>((LT.lo true ls x)[o]?).bind l.pack:=by
 subst hw
 simp only[ah,H.rd,Js ad aM,Option.bind_some,List.head?_drop]
 rw[QA a8,Option.bind_assoc]
theorem BP{ls:List ab}{xs:List (LT ls)}{l:ab}{sl:List Slot}{id e n i w:Nat}(ad:sl[id]? =some (.own (bx ls xs) e))(aM:xs.length*ls.length=n)(hw:ls.length=w)(a8:0<w):
  ah (.leaf l) (ag sl) (.aa id n (i*w))=(xs[i]?).bind fun x=>((LT.lo true ls x)[0]?).bind l.pack:=JM (o:=0) ad aM hw a8
theorem Jt{ls:List ab}{xs:List (LT ls)}{ms:List ab}{sl:List Slot}{id e n i w:Nat}(ad:sl[id]? =some (.own (bx ls xs) e))(aM:xs.length*ls.length=n)(hw:ls.length=w)(hm:ms.length=w)(a8:0<w):
  ah (.agg ms) (ag sl) (.aa id n (i*w))=(xs[i]?).bind fun x=>LT.pack ms (LT.lo true ls x):=by
 subst hw
 simp only[ah,H.fv,Js ad aM,Option.bind_some,yn]
 cases hx:xs[i]? with
 |none=>
  have:xs.length≤i:=List.getElem?_eq_none_iff.1 hx
  rw[List.drop_eq_nil_of_le this]
  simp
 |some x=>
  obtain⟨bn,rfl⟩:=List.getElem?_eq_some_iff.1 hx
  rw[List.drop_eq_getElem_cons bn,List.flatMap_cons,hm]
  rw[if_pos ⟨by simp[LT.nD],by omega⟩]
  rw[List.take_left' (LT.nD ls _)]
  rfl
theorem Bz{lp:Bool}{ls:List ab}{xs:List (LT ls)}{sl:List Slot}{id e n c:Nat}{t:Bool}(ad:sl[id]? =some (.own (bx ls xs) e))(aM:xs.length*ls.length=n)(aa:ab.plain (.row ls)=true):
  bB lp (ag sl) ls ⟨.aa id n 0,xs.length,c,t⟩=some xs:=by
 have nd:=aa
 simp only[ab.plain,Bool.and_eq_true]at aa
 have gD:0<ls.length:=by cases ls<;>simp_all
 cases xs with
 |nil=>exact mu
 |cons x xs=>
  have h1:bB lp (ag sl) ls ⟨.aa id n 0,(x::xs).length,c,t⟩=jE (fun c=>ax lp (ag sl) ls c) (chunks ls.length (x::xs).length (bx ls (x::xs))):=by
   simp only[bB,cE,V.readable,cond_true,H.fv,Js ad aM,List.drop_zero,Option.bind_some]
   rw[if_neg (by simp),if_pos ⟨by rw[hK];exact Nat.le_refl _,by rw[List.length_cons];exact Nat.ne_of_gt (Nat.mul_pos (by omega) gD)⟩]
   rw[List.take_of_length_le (by rw[hK];exact Nat.le_refl _),Option.bind_some]
  rw[h1,Bk]
  have:∀(ys:List (LT ls)),jE (fun c=>ax lp (ag sl) ls c) (ys.map fun x=>LT.lo true ls x)=some ys:=fun ys=>by
   induction ys with
   |nil=>rfl
   |cons y ys ih=>simp only[List.map_cons,jE,JL (f:=true) (by simp) ls y aa.2,Option.bind_some,ih]
  exact this _
theorem OO{ls:List ab}:∀(xs:List (LT ls)) (i:Nat) (x:LT ls),i<xs.length→splice (bx ls xs) (i*ls.length) (LT.lo true ls x)=bx ls (xs.set i x):=by
 intro xs i x hi
 unfold splice bx
 rw[LT.nD,←Nat.succ_mul,yn]
 have h1:(xs.flatMap fun x=>LT.lo true ls x).take (i*ls.length)=(xs.take i).flatMap fun x=>LT.lo true ls x:=by
  have:=congrArg (fun l=>l.flatMap fun x=>LT.lo true ls x) (List.take_append_drop i xs)
  simp only[List.flatMap_append]at this
  rw[←this,List.take_left']
  rw[hK,List.length_take,Nat.min_eq_left (by omega)]
 rw[h1,List.set_eq_take_append_cons_drop,if_pos hi]
 simp
theorem yA{ls:List ab}{xs:List (LT ls)}{sl:List Slot}{id e n i w:Nat}{x:LT ls}{vs:List V}(ad:sl[id]? =some (.own (bx ls xs) e))(aM:xs.length*ls.length=n)(hw:ls.length=w)(hi:i<xs.length)(aU:vs=LT.lo true ls x):
  H.aY (ag sl) (.aa id n (i*w)) vs=some (ag (sl.set id (.own (bx ls (xs.set i x)) e))):=by
 subst hw;subst aU
 rw[eS (cs:=bx ls xs) ad (by rw[hK,aM]) (by
  rw[LT.nD,←aM,←Nat.succ_mul]
  exact Nat.mul_le_mul_right _ hi),OO xs i x hi]
theorem Pd{ls:List ab}{xs:List (LT ls)}{sl:List Slot}{id w b:Nat}{at_:Option Nat}{x:LT ls}{vs:List V}(ad:sl[id]? =some (.own (bx ls xs) w))(hw:ls.length=w)(gD:0<w)(hx:0<xs.length)(aq:xs.length+1≤2^36)(aE:b≤2^11)(aU:vs=LT.lo true ls x):
  c7 (ag sl) at_ w b (fh id ls xs.length) vs 1=some (fh id ls (xs++[x]).length,ag (sl.set id (.own (bx ls (xs++[x])) w))):=by
 subst hw;subst aU
 simp only[c7,iF,fh,fO,ad,Option.getD_some]
 rw[if_neg (by omega),aS ⟨by unfold ei;exact aq,aE⟩,if_neg (by omega),if_neg (by omega),if_pos ⟨trivial,trivial,hK xs,trivial,trivial,Nat.le_refl _,gD⟩]
 rw[k5 (List.getElem?_eq_some_iff.1 ad).1,List.take_of_length_le (by rw[hK];exact Nat.le_refl _)]
 simp[bx]
theorem append_nil{ls:List ab}{sl:List Slot}{w b:Nat}{x:LT ls}{vs:List V}(hw:ls.length=w)(aE:b≤2^11)(aU:vs=LT.lo true ls x):
  c7 (ag sl) none w b uB vs 1=some (fh sl.length ls [x].length,ag (sl++[.own (bx ls [x]) w])):=by
 subst hw;subst aU
 simp only[c7,iF,uB,newAt]
 rw[if_neg (by omega),aS ⟨by unfold ei;omega,aE⟩,if_pos ⟨trivial,trivial,trivial⟩,b9]
 simp[fh,bx,bR]
def Acc (sl:List Slot)(ls:List ab)(xs:List (LT ls))(s:au)(o:Option Nat):Prop:=
 match o with
 |none=>xs=[]∧(s=uB∨s=⟨.lp true [] 0,0,0,false⟩)
 |some id=>0<xs.length∧s=fh id ls xs.length∧sl[id]? =some (.own (bx ls xs) ls.length)
theorem Acc.nil{sl:List Slot}{ls:List ab}:Acc sl ls [] ⟨.nil,0,0,false⟩ none:=⟨rfl,.inl rfl⟩
theorem Acc.adZ{sl:List Slot}{ls:List ab}:Acc sl ls [] ⟨.lp true [] 0,0,0,false⟩ none:=⟨rfl,.inr rfl⟩
theorem Acc.lt{sl:List Slot}{ls:List ab}{xs:List (LT ls)}{s:au}{id:Nat}(h:Acc sl ls xs s (some id)):id<sl.length:=(List.getElem?_eq_some_iff.1 h.2.2).1
theorem Acc.frame{sl aC:List Slot}{ls:List ab}{xs:List (LT ls)}{s:au}{o:Option Nat}(h:Acc sl ls xs s o)(ak:∀id,o=some id→aC[id]? =sl[id]?):Acc aC ls xs s o:=by
 cases o with
 |none=>exact h
 |some id=>exact ⟨h.1,h.2.1,by rw[ak id rfl];exact h.2.2⟩
theorem Acc.more{sl aC:List Slot}{ls:List ab}{xs:List (LT ls)}{s:au}{o:Option Nat}(h:Acc sl ls xs s o):Acc (sl++aC) ls xs s o:=
 h.frame fun id aT=>by subst aT;rw[List.getElem?_append_left h.lt]
theorem Acc.read{lp:Bool}{sl:List Slot}{ls:List ab}{xs:List (LT ls)}{s:au}{o:Option Nat}(h:Acc sl ls xs s o)(aa:ab.plain (.row ls)=true):bB lp (ag sl) ls s=some xs:=by
 cases o with
 |none=>obtain⟨rfl,rfl |rfl⟩:=h<;>exact mu
 |some id=>obtain⟨h1,rfl,h3⟩:=h;exact Bz h3 rfl aa
theorem Acc.len{sl:List Slot}{ls:List ab}{xs:List (LT ls)}{s:au}{o:Option Nat}(h:Acc sl ls xs s o):s.len=xs.length:=by
 cases o with
 |none=>obtain⟨rfl,rfl |rfl⟩:=h<;>rfl
 |some id=>obtain⟨h1,rfl,h3⟩:=h;rfl
theorem Acc.append{sl:List Slot}{ls:List ab}{xs:List (LT ls)}{s:au}{o:Option Nat}{w b:Nat}{x:LT ls}{vs:List V}(h:Acc sl ls xs s o)(hw:ls.length=w)(gD:0<w)(aq:xs.length+1≤2^36)(aE:b≤2^11)(aU:vs=LT.lo true ls x):
  ∃bc aC id,c7 (ag sl) none w b s vs 1=some (bc,ag aC)∧Acc aC ls (xs++[x]) bc (some id)∧(o=some id∨o=none∧id=sl.length)∧sl.length≤aC.length∧∀j,o≠some j→j<sl.length→aC[j]? =sl[j]?:=by
 subst hw
 cases o with
 |none=>
  obtain⟨rfl,ad⟩:=h
  refine⟨fh sl.length ls [x].length,sl++[.own (bx ls [x]) ls.length],sl.length, ?_,⟨by simp,rfl, ?_⟩,.inr ⟨rfl,rfl⟩, ?_,fun j _ aL=>?_⟩
  ·have h1:=append_nil (ls:=ls) (sl:=sl) (x:=x) (w:=ls.length) (b:=b) rfl aE aU
   rcases ad with rfl |rfl
   ·exact h1
   ·rw[←h1]
    simp only[c7,iF,uB]
    rw[if_neg (show ¬(1=0) by omega),if_neg (show ¬(1=0) by omega)]
    rw[if_pos ⟨trivial,trivial,trivial⟩,if_pos ⟨trivial,trivial,trivial⟩]
  ·simp
  ·simp
  ·exact List.getElem?_append_left aL
 |some id=>
  obtain⟨h1,rfl,h3⟩:=h
  have aT:=(List.getElem?_eq_some_iff.1 h3).1
  refine⟨fh id ls (xs++[x]).length,sl.set id (.own (bx ls (xs++[x])) ls.length),id,Pd h3 rfl gD h1 aq aE aU,⟨by simp,rfl, ?_⟩,.inl rfl,by simp,fun j aL bn=>?_⟩
  ·rw[List.getElem?_set_self aT]
  ·rw[List.getElem?_set_ne (fun e=>aL (by rw[e]))]
theorem P3{f g:Bool}:∀(ls:List ab) (x:LT ls),LT.flat ls=true→LT.lo f ls x=LT.lo g ls x
 |[],x,_=>rfl
 |[l],x,h=>by cases l<;>simp_all [LT.flat,LT.lo,ab.lo]
 |l::b3::ls,x,h=>by
  have h1:l.lo f x.1=l.lo g x.1∧LT.flat (b3::ls)=true:=by cases l<;>simp_all [LT.flat,ab.lo]
  simp only[LT.lo,h1.1]
  rw[P3 (b3::ls) x.2 h1.2]
theorem Pe:∀(ls:List ab),LT.flat ls=true→LT.plain ls=true
 |[],_=>rfl
 |l::ls,h=>by
  have h1:l.plain=true∧LT.flat ls=true:=by cases l<;>simp_all [LT.flat,ab.plain]
  simp[LT.plain,h1.1,Pe ls h1.2]
theorem Pf{f:Bool}{ls:List ab}{xs:List (LT ls)}{w b:Nat}{sl:List Slot}(hw:ls.length=w)(gD:0<w)(ak:LT.flat ls=true)(aq:xs.length≤2^36)(aE:b≤2^11):
  nK w b (ae f ls xs) (ag sl)=some (if xs.length=0 then⟨.lp true [] 0,0,0,false⟩else fh sl.length ls xs.length,if xs.length=0 then ag sl else ag (sl++[.own (bx ls xs) w])):=by
 subst hw
 unfold nK
 rw[bZ]
 by_cases h:xs.length=0
 ·rw[if_pos h,if_pos h,if_pos h]
 ·rw[if_neg h,if_neg h,if_neg h]
  have ao:cellsOf (ag sl) (.slice (ae f ls xs).a xs.length (ae f ls xs).cap (ae f ls xs).tail) ls.length=some (xs.length,bx ls xs):=by
   simp only[cellsOf,if_neg h,H.fv,ae,H.from,List.drop_zero,Option.bind_some]
   rw[if_pos ⟨by rw[hK];exact Nat.le_refl _,Nat.ne_of_gt (Nat.mul_pos (by omega) gD)⟩,List.take_of_length_le (by rw[hK];exact Nat.le_refl _)]
   simp only[Option.map_some,Option.some.injEq,Prod.mk.injEq,true_and,bx]
   congr 1
   funext x
   exact P3 ls x ak
  rw[ao]
  simp only[Option.bind_some,c7,iF,newAt]
  rw[if_neg h,aS ⟨by unfold ei;omega,aE⟩,if_pos ⟨trivial,trivial,trivial⟩,b9]
  rfl
theorem Ja{P:Program}{f:FuncId}{ls:List ab}{w b:Nat}(db:eR P f (e8 [.leaf .slice] (.one (.leaf .slice)) (nK w b)))(hw:ls.length=w)(gD:0<w)(ak:LT.flat ls=true):
  eR P f (mE [.leaf (.row ls)] (.one (.leaf (.row ls))) (k4 b)):=by
 refine RO fun xs r af=>?_
 have kG:=af
 unfold k4 at af
 obtain⟨⟨h1,h2⟩,af⟩:=fe af
 cases af
 have hx:=Pf (f:=false) (xs:=xs) (sl:=[]) hw gD ak h1 h2
 rw[←hj]at hx
 have lO:=(db [.slice (ae false ls xs).a (ae false ls xs).len (ae false ls xs).cap (ae false ls xs).tail] H.empty).2 _ _ (by
  show(nK w b (ae false ls xs) H.empty).bind _=_
  rw[hx]
  rfl)
 refine⟨_,_,lO.2, ?_⟩
 show bB false (if xs.length=0 then H.empty else ag ([]++[.own (bx ls xs) w])) ls (if xs.length=0 then⟨.lp true [] 0,0,0,false⟩else fh 0 ls xs.length)=some xs
 by_cases h:xs.length=0
 ·have:xs=[]:=List.eq_nil_of_length_eq_zero h
  subst this
  exact mu
 ·rw[if_neg h,if_neg h]
  have aa:ab.plain (.row ls)=true:=by
   simp only[ab.plain,Pe ls ak,Bool.and_true]
   cases ls with
   |nil=>simp at hw;omega
   |cons _ _=>rfl
  exact Bz (e:=w) rfl rfl aa
theorem i64_in(n:Int)(h:-9223372036854775808≤n∧n≤9223372036854775807):IntKind.i64.wrap n=n:=IntWalk.i64_in n (by omega)
theorem uk{n:Nat}(h:n<9223372036854775808):IntKind.i64.wrap (n:Int)=(n:Int):=IntWalk.i64_in _ (by omega)
theorem dO{n:Nat}(h:n<9223372036854775807):IntKind.i64.wrap ((n:Int)+1)=((n+1:Nat):Int):=IntWalk.i64_in _ (by omega)
theorem Z7(x y:Int):sI y x=min x y:=by unfold sI;split<;>omega
theorem IU{lp:Bool}{h:H}{k:IntKind}{n:Int}:cE lp h (.int k) (.int k n)=some n:=by simp[cE]
theorem OP{lp:Bool}{h:H}{b:Bool}:cE lp h .bool (.bool b)=some b:=rfl
theorem Pg{lp:Bool}{h:H}{b:ByteArray}:cE lp h .str (.str b)=some b:=rfl
theorem Ph{lp:Bool}{h:H}{ls:List ab}{a:V}{n c:Nat}{t:Bool}:cE lp h (.row ls) (.slice a n c t)=bB lp h ls ⟨a,n,c,t⟩:=rfl
theorem QC{h:H}{k:IntKind}{a:Int}{t:Bool}:bB true h [.int k] ⟨.lp true [.int k a] 0,1,1,t⟩=some [a]:=jb (xs:=([a]:List (LT [.int k]))) rfl
theorem QD{h:H}{k:IntKind}{a b:Int}{t:Bool}:bB true h [.int k] ⟨.lp true [.int k a,.int k b] 0,2,2,t⟩=some [a,b]:=jb (xs:=([a,b]:List (LT [.int k]))) rfl
theorem QE{h:H}{k:IntKind}{a b c:Int}{t:Bool}:bB true h [.int k] ⟨.lp true [.int k a,.int k b,.int k c] 0,3,3,t⟩=some [a,b,c]:=jb (xs:=([a,b,c]:List (LT [.int k]))) rfl
theorem QF{h:H}{k:IntKind}{a b c d:Int}{t:Bool}:bB true h [.int k] ⟨.lp true [.int k a,.int k b,.int k c,.int k d] 0,4,4,t⟩=some [a,b,c,d]:=jb (xs:=([a,b,c,d]:List (LT [.int k]))) rfl
theorem QG{h:H}{k:IntKind}{a b c d e:Int}{t:Bool}:bB true h [.int k] ⟨.lp true [.int k a,.int k b,.int k c,.int k d,.int k e] 0,5,5,t⟩=some [a,b,c,d,e]:=jb (xs:=([a,b,c,d,e]:List (LT [.int k]))) rfl
theorem aF:type_of%(And.intro (And.intro (And.intro (And.intro (And.intro (@Option.bind_some.{0,0}) (@Option.bind_none.{0,0})) (And.intro (@Option.map_some.{0,0}) (@Option.map_none.{0,0}))) (And.intro (And.intro (@cond_true.{1}) (@cond_false.{1})) (And.intro (@Bool.not_true) (@Bool.not_false)))) (And.intro (And.intro (And.intro (@if_true.{1}) (@if_false.{1})) (And.intro (@IU) (@OP))) (And.intro (And.intro (@Pg) (@Ph)) (And.intro (@QC) (And.intro (@QD) (@QE)))))) (And.intro (And.intro (And.intro (And.intro (@QF) (@QG)) (And.intro (@hL) (@jb))) (And.intro (And.intro (@mu) (@List.isEmpty_cons.{0})) (And.intro (@Bool.and_self) (And.intro (@Bool.and_true) (@Bool.true_and))))) (And.intro (And.intro (And.intro (@Bool.or_true) (@Bool.true_or)) (And.intro (@Bool.or_false) (@Bool.false_or))) (And.intro (And.intro (@gk) (@bZ)) (And.intro (@hg) (And.intro (@hf) (@ON))))))):=And.intro (And.intro (And.intro (And.intro (And.intro (@Option.bind_some.{0,0}) (@Option.bind_none.{0,0})) (And.intro (@Option.map_some.{0,0}) (@Option.map_none.{0,0}))) (And.intro (And.intro (@cond_true.{1}) (@cond_false.{1})) (And.intro (@Bool.not_true) (@Bool.not_false)))) (And.intro (And.intro (And.intro (@if_true.{1}) (@if_false.{1})) (And.intro (@IU) (@OP))) (And.intro (And.intro (@Pg) (@Ph)) (And.intro (@QC) (And.intro (@QD) (@QE)))))) (And.intro (And.intro (And.intro (And.intro (@QF) (@QG)) (And.intro (@hL) (@jb))) (And.intro (And.intro (@mu) (@List.isEmpty_cons.{0})) (And.intro (@Bool.and_self) (And.intro (@Bool.and_true) (@Bool.true_and))))) (And.intro (And.intro (And.intro (@Bool.or_true) (@Bool.true_or)) (And.intro (@Bool.or_false) (@Bool.false_or))) (And.intro (And.intro (@gk) (@bZ)) (And.intro (@hg) (And.intro (@hf) (@ON))))))
theorem dm:type_of%(And.intro (And.intro (And.intro (And.intro (And.intro (@hj) (@b9)) (And.intro (@bR) (And.intro (@k5) (@Ff)))) (And.intro (And.intro (@Ks) (@oQ)) (And.intro (@J8) (And.intro (@fO) (@List.nil_append.{0}))))) (And.intro (And.intro (And.intro (@List.cons_append.{0}) (@List.append_nil.{0})) (And.intro (@List.getElem?_cons_zero.{0}) (And.intro (@List.getElem?_cons_succ.{0}) (@Option.getD_some.{0})))) (And.intro (And.intro (@List.length_cons.{0}) (@List.length_nil.{0})) (And.intro (@List.length_append.{0}) (And.intro (@List.take_zero.{0}) (@List.take_succ_cons.{0})))))) (And.intro (And.intro (And.intro (And.intro (@List.take_nil.{0}) (@List.drop_zero.{0})) (And.intro (@List.drop_succ_cons.{0}) (And.intro (@List.drop_nil.{0}) (@List.set_cons_zero.{0})))) (And.intro (And.intro (@List.set_cons_succ.{0}) (@Nat.zero_add)) (And.intro (@Nat.add_zero) (And.intro (@Nat.zero_le) (@Nat.le_refl))))) (And.intro (And.intro (And.intro (@and_self) (@and_true)) (And.intro (@true_and) (And.intro (@Nat.lt_add_one) (@Nat.zero_lt_succ)))) (And.intro (And.intro (@ne_eq.{1}) (@not_false_eq_true)) (And.intro (@Nat.succ_ne_zero) (And.intro (@List.flatMap_cons.{0,0}) (@List.flatMap_nil.{0,0}))))))):=And.intro (And.intro (And.intro (And.intro (And.intro (@hj) (@b9)) (And.intro (@bR) (And.intro (@k5) (@Ff)))) (And.intro (And.intro (@Ks) (@oQ)) (And.intro (@J8) (And.intro (@fO) (@List.nil_append.{0}))))) (And.intro (And.intro (And.intro (@List.cons_append.{0}) (@List.append_nil.{0})) (And.intro (@List.getElem?_cons_zero.{0}) (And.intro (@List.getElem?_cons_succ.{0}) (@Option.getD_some.{0})))) (And.intro (And.intro (@List.length_cons.{0}) (@List.length_nil.{0})) (And.intro (@List.length_append.{0}) (And.intro (@List.take_zero.{0}) (@List.take_succ_cons.{0})))))) (And.intro (And.intro (And.intro (And.intro (@List.take_nil.{0}) (@List.drop_zero.{0})) (And.intro (@List.drop_succ_cons.{0}) (And.intro (@List.drop_nil.{0}) (@List.set_cons_zero.{0})))) (And.intro (And.intro (@List.set_cons_succ.{0}) (@Nat.zero_add)) (And.intro (@Nat.add_zero) (And.intro (@Nat.zero_le) (@Nat.le_refl))))) (And.intro (And.intro (And.intro (@and_self) (@and_true)) (And.intro (@true_and) (And.intro (@Nat.lt_add_one) (@Nat.zero_lt_succ)))) (And.intro (And.intro (@ne_eq.{1}) (@not_false_eq_true)) (And.intro (@Nat.succ_ne_zero) (And.intro (@List.flatMap_cons.{0,0}) (@List.flatMap_nil.{0,0}))))))
end Go.Proofs.YtlphgijokknjhaaGreat.Ev
namespace Go.Proofs.YtlphgijokknjhaaGreat
open Go Go.Proofs.YtlphgijokknjhaaGreat.Ev
theorem Tryz.mixed:Tryz.prog.follows .mixedOrders=true:=by kernel_rfl
structure bj where
 f:FuncId
 e:Entry
 ok:eR Tryz.prog f e
structure cq where
 t:Table
 ok:jC Tryz.prog t
structure xE where
 f:FuncId
 e:Entry→Entry
 ok:o0 Tryz.prog f e
noncomputable def Gf:List bj→List (FuncId×Entry)
 |[]=>[]
 |p::l=>(p.f,p.e)::Gf l
theorem BQ:∀(l:List bj),∀p∈Gf l,eR Tryz.prog p.1 p.2
 |[],_,h=>by cases h
 |p::l,q,h=>by
  rcases List.mem_cons.1 h with rfl |h
  ·exact p.ok
  ·exact BQ l q h
noncomputable def Lj:List xE→List (FuncId×(Entry→Entry))
 |[]=>[]
 |p::l=>(p.f,p.e)::Lj l
theorem Re:∀(l:List xE),∀p∈Lj l,o0 Tryz.prog p.1 p.2
 |[],_,h=>by cases h
 |p::l,q,h=>by
  rcases List.mem_cons.1 h with rfl |h
  ·exact p.ok
  ·exact Re l q h
noncomputable def bC:cq:=⟨Table.nil,jC.nil _⟩
noncomputable def tS (s d:List bj) (T:Table):Table:=qe (Gf s) (Gf d) T
noncomputable def bf (s d:List bj) (b:cq):cq:=⟨tS s d b.t,jC.qe b.ok (BQ s) (BQ d)⟩
noncomputable def MF (l:List xE) (b:cq):cq:=⟨wk (Lj l) b.t,jC.wk b.ok (Re l)⟩
abbrev br(c:List (Nat×List Nat×List ai×Option Nat×Option Nat))(l:List (Nat×List Nat×List ai×List Nat×List ai×Option Nat×Option Nat)):fw:={lits:=[],conds:=c,loops:=l,dB:=[]}
def D0:ab→ab
 |.row _=> .slice
 |l=>l
def C3:List ab→List ab
 |[]=>[]
 |l::ls=>D0 l::C3 ls
def Hh:ai→ai
 |.leaf l=> .leaf (D0 l)
 |.agg ls=> .agg (C3 ls)
def C4:List ai→List ai
 |[]=>[]
 |t::ts=>Hh t::C4 ts
def D1:(l:ab)→l.C→(D0 l).C
 |.row ls,x=>ae false ls x
 |.int _,x=>x
 |.bool,x=>x
 |.str,x=>x
 |.ptr,x=>x
 |.slice,x=>x
 |.map,x=>x
 |.dyn,x=>x
 |.tok,x=>x
def GL:(ls:List ab)→LT ls→LT (C3 ls)
 |[],x=>x
 |[l],x=>D1 l x
 |l::b3::ls,x=>(D1 l x.1,GL (b3::ls) x.2)
def Hi:(t:ai)→t.C→(Hh t).C
 |.leaf l,x=>D1 l x
 |.agg ls,x=>GL ls x
def GM:(ts:List ai)→aj ts→aj (C4 ts)
 |[],x=>x
 |[t],x=>Hi t x
 |t::ea::ts,x=>(Hi t x.1,GM (ea::ts) x.2)
theorem J9(l:ab)(x:l.C):ab.un (D0 l) (D1 l x)=l.lo false x:=by
 cases l<;>rfl
theorem Rf:(ls:List ab)→(x:LT ls)→LT.un (C3 ls) (GL ls x)=LT.lo false ls x
 |[],_=>rfl
 |[l],x=>congrArg (fun v=>[v]) (J9 l x)
 |l::b3::ls,x=>by
  have h1:=J9 l x.1
  have h2:=Rf (b3::ls) x.2
  show ab.un (D0 l) (D1 l x.1)::LT.un (C3 (b3::ls)) (GL (b3::ls) x.2)=l.lo false x.1::LT.lo false (b3::ls) x.2
  rw[h1,h2]
theorem RQ(t:ai)(x:t.C):ai.un (Hh t) (Hi t x)=t.lo false x:=by
 cases t with
 |leaf l=>exact J9 l x
 |agg ls=>exact congrArg V.agg (Rf ls x)
theorem Rg:(ts:List ai)→(x:aj ts)→aj.un (C4 ts) (GM ts x)=aj.lo false ts x
 |[],_=>rfl
 |[t],x=>congrArg (fun v=>[v]) (RQ t x)
 |t::ea::ts,x=>by
  have h1:=RQ t x.1
  have h2:=Rg (ea::ts) x.2
  show ai.un (Hh t) (Hi t x.1)::aj.un (C4 (ea::ts)) (GM (ea::ts) x.2)=t.lo false x.1::aj.lo false (ea::ts) x.2
  rw[h1,h2]
structure cF(ts:List ai)(rs:an) where
 f:FuncId
 fn:Func
 b:cq
 A:fw
 ak:Tryz.prog.funcs[f]? =some fn
 aM:(fn.name== "runtime.NumGoroutine")=false
 cI:A.inr=false
 g:aj ts→H→Option (rs.C×H)
 he:∀x h,jd Tryz.prog b.t A fn rs (aj.un ts x) h=g x h
noncomputable def cF.low {rs:an} (ts:List ai) (X:cF (C4 ts) rs) (iB:an) (g:aj ts→Option iB.C) (aQ:∀x,((X.g (GM ts x) H.empty).bind fun p=>av false p.2 iB (rs.un p.1))=g x):bj:=⟨X.f,mE ts iB g,J7 X.b.ok Tryz.mixed X.ak X.aM (fun x=>by rw[←aQ x,←X.he,Rg]) X.cI⟩
section pure
variable{f:FuncId}{fn:Func}(b:cq)(A:fw)(ak:Tryz.prog.funcs[f]? =some fn)
noncomputable def eu (ts:List ai) (rs:an) (g:aj ts→H→Option (rs.C×H)) (he:∀x h,jd Tryz.prog b.t A fn rs (aj.un ts x) h=g x h) (aM:(fn.name== "runtime.NumGoroutine")=false:=by kernel_rfl) (cI:A.inr=false:=by rfl):bj:=⟨f,e8 ts rs g,F6 b.ok Tryz.mixed ak aM he cI⟩
noncomputable def cQ (ts:List ai) (rs:an) (g:aj ts→H→Option (rs.C×H)) (he:∀x h,jd Tryz.prog b.t A fn rs (aj.un ts x) h=g x h) (aM:(fn.name== "runtime.NumGoroutine")=false:=by kernel_rfl) (cI:A.inr=false:=by rfl):cF ts rs:=⟨f,fn,b,A,ak,aM,cI,g,he⟩
noncomputable def ajp (ts:List ai) (rs:an) (g:aj ts→Option rs.C) (he:∀x h,jd Tryz.prog b.t A fn rs (aj.un ts x) h=(g x).bind fun p=>some (p,h)) (aM:(fn.name== "runtime.NumGoroutine")=false:=by kernel_rfl) (cI:A.inr=false:=by rfl):bj:=⟨f,G1 ts rs g,aaz b.ok Tryz.mixed ak aM he cI⟩
noncomputable def ajq (ts:List ai) (rs:an) (u:aj ts→H→Option (rs.C×H)) (g:aj ts→H→Option rs.C) (hu:∀x h,u x h=(g x h).bind fun p=>some (p,h)) (he:∀x h,jd Tryz.prog b.t A fn rs (aj.un ts x) h=u x h) (aM:(fn.name== "runtime.NumGoroutine")=false:=by kernel_rfl) (cI:A.inr=false:=by rfl):bj:=⟨f,G2 ts rs g,aaA b.ok Tryz.mixed ak aM (fun x h=>(he x h).trans (hu x h)) cI⟩
noncomputable def AL (w n:Nat) (g:au→H→Option (au×H)) (he:∀x h,jd Tryz.prog b.t A fn (.one (.leaf .slice)) (aj.un [.leaf .slice] x) h=g x h)
  (aQ:∀s h,g s h=bif !(V.h_ s.a)then(bif !(V.bm s.a)then some (⟨.nil,0,0,false⟩,h)else (cellsOf h (.slice s.a s.len s.cap s.tail) w).bind fun p=>(c7 h none w n ⟨.lp true [] 0,0,0,false⟩ p.2 p.1).bind fun r=>some (r.1,r.2))else none)
  (aM:(fn.name== "runtime.NumGoroutine")=false:=by kernel_rfl) (cI:A.inr=false:=by rfl):bj:=⟨f,e8 [.leaf .slice] (.one (.leaf .slice)) (nK w n),X0 (g:=g) (F6 b.ok Tryz.mixed ak aM he cI) aQ⟩
theorem RR(ak:Tryz.prog.funcs[f]? =some fn)(ts:List ai)(rs:an)(ka:Nat→aj ts→H→Option (rs.C×H))(aO:∀x h,ka 0 x h=none)(ad:∀n x h,jd Tryz.prog (qe [(f,e8 ts rs (ka n))] [] b.t) A fn rs (aj.un ts x) h=ka (n+1) x h)(aM:(fn.name== "runtime.NumGoroutine")=false)(cI:A.inr=false):∀n,eR Tryz.prog f (e8 ts rs (ka n))
 |0=>by
  have:ka 0=fun _ _=>none:=funext fun x=>funext fun h=>aO x h
  rw[this]
  exact Y4
 |n+1=>F6 (jC.qe b.ok (all_cons (RR ak ts rs ka aO ad aM cI n) (all_nil _)) (all_nil _)) Tryz.mixed ak aM (ad n) cI
noncomputable def ad0 (n:Nat) (ts:List ai) (rs:an) (ka:Nat→aj ts→H→Option (rs.C×H)) (aO:∀x h,ka 0 x h=none) (ad:∀n x h,jd Tryz.prog (qe [(f,e8 ts rs (ka n))] [] b.t) A fn rs (aj.un ts x) h=ka (n+1) x h) (aM:(fn.name== "runtime.NumGoroutine")=false:=by kernel_rfl) (cI:A.inr=false:=by rfl):bj:=⟨f,e8 ts rs (ka n),RR b A ak ts rs ka aO ad aM cI n⟩
noncomputable def wx (ts:List ai) (rs:an) (aM:(fn.name== "runtime.NumGoroutine")=false:=by kernel_rfl) (cI:A.inr=false:=by rfl):bj:=⟨f,e8 ts rs fun x h=>jd Tryz.prog b.t A fn rs (aj.un ts x) h,F6 b.ok Tryz.mixed ak aM (fun _ _=>rfl) cI⟩
noncomputable def sN (T:Table) (A:fw) (fn:Func) (rs:an) (ts:List ai) (iB:an) (x:aj ts):Option iB.C:=(jd Tryz.prog T A fn rs (aj.lo false ts x) H.empty).bind fun p=>av false p.2 iB (rs.un p.1)
noncomputable def fB (rs:an) (ts:List ai) (iB:an) (aM:(fn.name== "runtime.NumGoroutine")=false:=by kernel_rfl) (cI:A.inr=false:=by rfl):bj:=⟨f,mE ts iB (sN b.t A fn rs ts iB),J7 b.ok Tryz.mixed ak aM (fun _=>rfl) cI⟩
noncomputable def ad1 (rs iB:an) (v:Option iB.C) (aU:sN b.t A fn rs [] iB ()=v) (aM:(fn.name== "runtime.NumGoroutine")=false:=by kernel_rfl) (cI:A.inr=false:=by rfl):bj:=⟨f,mE [] iB fun _=>v,J7 b.ok Tryz.mixed ak aM (fun _=>aU) cI⟩
end pure
noncomputable def Hj (s d:List bj) (A:fw) {f:FuncId} {fn:Func} (ak:Tryz.prog.funcs[f]? =some fn) (ts:List ai) (rs:an) (g:Entry→aj ts→H→Option (rs.C×H)) (he:∀Y x h,jd Tryz.prog (tS s d (m2 Table.nil Y)) A fn rs (aj.un ts x) h=g Y x h) (aM:(fn.name== "runtime.NumGoroutine")=false:=by kernel_rfl) (cI:A.inr=false:=by rfl):xE:=⟨f,fun Y=>e8 ts rs (g Y),Z3 (T:=fun Y=>tS s d (m2 Table.nil Y)) (fun _ hG=>eT.qe ((eT.nil Tryz.prog).m2 hG) (BQ s) (BQ d)) (fun _=>rfl) Tryz.mixed ak aM he cI⟩
noncomputable def BA (a0:Int) (h:H):Option ((Bool)×H):=
(((bif (decide ((1:Int)≤a0))then(some ((decide (a0≤1073741824)),h))else (some (false,h)))).bind fun(bb,h2)=>
(some (bb,h2)))
noncomputable def BA.x:=cQ (bf [] [] bC) {br [] []with dB:=[(1,[2],[.leaf .bool])]} Tryz.func121 [.leaf (.int .i64)] (.one (.leaf .bool)) (fun x h=>BA x h) fun _ _=>by kernel_rfl
noncomputable def mS (a0:Int):Option (Bool):=(BA a0 H.empty).bind fun p=>av false p.2 (.one (.leaf .bool)) (an.un (.one (.leaf .bool)) p.1)
noncomputable def mS.p:bj:=cF.low [.leaf (.int .i64)] BA.x (.one (.leaf .bool)) (fun x=>mS x) fun _=>by kernel_rfl
noncomputable def pz.aZ (a0:ByteArray):(Int)×H→Option (ca ((Int)×H) (bG (Unit) (Bool)×H)):=fun(bb,h2)=>
(bif (decide (bb<((ByteArray.size a0:Nat):Int)))then(((aJ (0≤bb∧bb<((ByteArray.size a0:Nat):Int)) (bif !(decide ((((((ByteArray.data a0)[Int.toNat bb]?).map UInt8.toNat).getD 0:Nat):Int)<32))then(aJ (0≤bb∧bb<((ByteArray.size a0:Nat):Int)) (some ((decide ((126:Int)<(((((ByteArray.data a0)[Int.toNat bb]?).map UInt8.toNat).getD 0:Nat):Int))),h2)))else (some (true,h2))))).bind fun(cj,aI)=>
(bif cj then(some (.done (.ret false,aI)))else (some (.more ((IntKind.wrap .i64 (bb+1)),aI)))))else (some (.done (.aP (),h2))))
noncomputable def pz (a0:ByteArray) (h:H):Option ((Bool)×H):=
((iter bd (pz.aZ a0) (0,h)).bind fun(qq,ba)=>match qq with
|.next _=>none
|.ret tq=>(some (tq,ba))
|.aP _=>
(((bif (decide ((1:Int)≤((ByteArray.size a0:Nat):Int)))then(bif (decide (((ByteArray.size a0:Nat):Int)≤64))then(aJ (0≤(0:Int)∧0<((ByteArray.size a0:Nat):Int)) (bif (!(decide ((((((ByteArray.data a0)[Int.toNat 0]?).map UInt8.toNat).getD 0:Nat):Int)=32)))then(aJ (0≤(IntKind.wrap .i64 (((ByteArray.size a0:Nat):Int)-1))∧(IntKind.wrap .i64 (((ByteArray.size a0:Nat):Int)-1))<((ByteArray.size a0:Nat):Int)) (some ((!(decide ((((((ByteArray.data a0)[Int.toNat (IntKind.wrap .i64 (((ByteArray.size a0:Nat):Int)-1))]?).map UInt8.toNat).getD 0:Nat):Int)=32))),ba)))else (some (false,ba))))else (some (false,ba)))else (some (false,ba)))).bind fun(jN,h9)=>
(some (jN,h9)))
|.bW _=>none)
noncomputable def pz.x:=cQ (bf [] [] bC) {br [] [(2,[6],[.leaf (.int .i64)],[],[],some 0,none)]with dB:=[(4,[18],[.leaf .bool]),(7,[2],[.leaf .bool])]} Tryz.func149 [.leaf .str] (.one (.leaf .bool)) (fun x h=>pz x h) fun _ _=>by kernel_rfl
noncomputable def r7 (a0:ByteArray):Option (Bool):=(pz a0 H.empty).bind fun p=>av false p.2 (.one (.leaf .bool)) (an.un (.one (.leaf .bool)) p.1)
noncomputable def r7.p:bj:=cF.low [.leaf .str] pz.x (.one (.leaf .bool)) (fun x=>r7 x) fun _=>by kernel_rfl
noncomputable def py.aZ (h:H) (b5:au):(Int)×H→Option (ca ((Int)×H) (bG (Unit) (Bool)×H)):=fun(cj,aI)=>
(bif (decide (cj<((b5.len:Nat):Int)))then(aJ (0≤cj∧cj<((b5.len:Nat):Int)) ((ah (.leaf .str) aI (V.add b5.a (Int.toNat cj*1))).bind fun fb=>
((((r7 fb).bind fun b4=>
(bif !(!b4)then(bif (decide ((0:Int)<cj))then((ah (.leaf .slice) aI (.aa h.next 5 4)).bind fun fK=>
(aJ (0≤(IntKind.wrap .i64 (cj-1))∧(IntKind.wrap .i64 (cj-1))<((fK.len:Nat):Int)) ((ah (.leaf .str) aI (V.add fK.a (Int.toNat (IntKind.wrap .i64 (cj-1))*1))).bind fun gM=>
(some ((!(Op.bytesLess (ByteArray.toList gM) (ByteArray.toList fb))),aI)))))else (some (false,aI)))else (some (true,aI))))).bind fun(g1,c5)=>
(bif g1 then(some (.done (.ret false,c5)))else (some (.more ((IntKind.wrap .i64 (cj+1)),c5)))))))else (some (.done (.aP (),aI))))
noncomputable def py (a0:(Int×Int×Int×ByteArray×au)) (h:H):Option ((Bool)×H):=
(match a0 with
|(cz,cA,cT,dZ,gp)=>
(let h1:H:=H.new h [.int .i64 cz,.int .i64 cA,.int .i64 cT,.str dZ,.slice gp.a gp.len gp.cap gp.tail] 5
((ah (.leaf .slice) h1 (.aa h.next 5 4)).bind fun b5=>
((iter bd (py.aZ h b5) (0,h1)).bind fun(Lk,cJ)=>match Lk with
|.next _=>none
|.ret C5=>(some (C5,cJ))
|.aP _=>
((((ah (.leaf (.int .i64)) cJ (.aa h.next 5 0)).bind fun oe=>
((mS oe).bind fun tr=>
(bif tr then((ah (.leaf (.int .i64)) cJ (.aa h.next 5 1)).bind fun hp=>
(bif (decide ((1:Int)≤hp))then((ah (.leaf (.int .i64)) cJ (.aa h.next 5 1)).bind fun gH=>
(bif (decide (gH≤8))then((ah (.leaf (.int .i64)) cJ (.aa h.next 5 2)).bind fun ln=>
(bif (decide ((0:Int)≤ln))then((ah (.leaf (.int .i64)) cJ (.aa h.next 5 2)).bind fun gu=>
(bif (decide (gu≤100000))then((ah (.leaf .str) cJ (.aa h.next 5 3)).bind fun iM=>
((r7 iM).bind fun w9=>
(bif w9 then((ah (.leaf .slice) cJ (.aa h.next 5 4)).bind fun mG=>
(some ((decide (((mG.len:Nat):Int)≤16)),cJ)))else (some (false,cJ)))))else (some (false,cJ))))else (some (false,cJ))))else (some (false,cJ))))else (some (false,cJ))))else (some (false,cJ)))))).bind fun(agT,hZ)=>
(some (agT,hZ)))
|.bW _=>none))))
noncomputable def py.x:=cQ (bf [mS.p,r7.p] [] bC) {br [] [(2,[8],[.leaf (.int .i64)],[],[],some 0,none)]with dB:=[(4,[29],[.leaf .bool]),(7,[2],[.leaf .bool])]} Tryz.func122 [.agg [.int .i64,.int .i64,.int .i64,.str,.slice]] (.one (.leaf .bool)) (fun x h=>py x h) fun _ _=>by kernel_rfl
noncomputable def xZ (a0:(Int×Int×Int×ByteArray×(List (ByteArray)))):Option (Bool):=(py (a0.1,a0.2.1,a0.2.2.1,a0.2.2.2.1,ae false [.str] a0.2.2.2.2) H.empty).bind fun p=>av false p.2 (.one (.leaf .bool)) (an.un (.one (.leaf .bool)) p.1)
noncomputable def xZ.p:bj:=cF.low [.agg [.int .i64,.int .i64,.int .i64,.str,.row [.str]]] py.x (.one (.leaf .bool)) (fun x=>xZ x) fun _=>by kernel_rfl
noncomputable def Bl (a0:(Int×Int×Int×ByteArray×au)) (h:H):Option ((Bool)×H):=
(match a0 with
|(cz,cA,cT,dZ,gp)=>
(let h1:H:=H.new h [.int .i64 cz,.int .i64 cA,.int .i64 cT,.str dZ,.slice gp.a gp.len gp.cap gp.tail] 5
((((ah (.leaf (.int .i64)) h1 (.aa h.next 5 0)).bind fun b5=>
(bif (decide (b5=0))then((ah (.leaf (.int .i64)) h1 (.aa h.next 5 1)).bind fun cx=>
(bif (decide (cx=0))then((ah (.leaf (.int .i64)) h1 (.aa h.next 5 2)).bind fun eB=>
(bif (decide (eB=0))then((ah (.leaf .str) h1 (.aa h.next 5 3)).bind fun fb=>
(bif (decide (fb=(⟨#[]⟩:ByteArray)))then((ah (.leaf .slice) h1 (.aa h.next 5 4)).bind fun hc=>
(some ((decide (((hc.len:Nat):Int)=0)),h1)))else (some (false,h1))))else (some (false,h1))))else (some (false,h1))))else (some (false,h1))))).bind fun(eX,h8)=>
(some (eX,h8)))))
noncomputable def Bl.x:=cQ (bf [] [] bC) {br [] []with dB:=[(1,[2],[.leaf .bool])]} Tryz.func123 [.agg [.int .i64,.int .i64,.int .i64,.str,.slice]] (.one (.leaf .bool)) (fun x h=>Bl x h) fun _ _=>by kernel_rfl
noncomputable def tY (a0:(Int×Int×Int×ByteArray×(List (ByteArray)))):Option (Bool):=(Bl (a0.1,a0.2.1,a0.2.2.1,a0.2.2.2.1,ae false [.str] a0.2.2.2.2) H.empty).bind fun p=>av false p.2 (.one (.leaf .bool)) (an.un (.one (.leaf .bool)) p.1)
noncomputable def tY.p:bj:=cF.low [.agg [.int .i64,.int .i64,.int .i64,.str,.row [.str]]] Bl.x (.one (.leaf .bool)) (fun x=>tY x) fun _=>by kernel_rfl
noncomputable def Bf (a0:(Int×Int×Int×Int×Int×Int×Int×Int×Int×ByteArray×au)) (h:H):Option ((Bool)×H):=
(match a0 with
|(cz,cA,cT,dZ,gp,ad2,ad3,ad4,ad5,ad6,Gg)=>
(let h1:H:=H.new h [.int .i64 cz,.int .i64 cA,.int .i64 cT,.int .i64 dZ,.int .i64 gp,.int .i64 ad2,.int .i64 ad3,.int .i64 ad4,.int .i64 ad5,.str ad6,.slice Gg.a Gg.len Gg.cap Gg.tail] 11
((((ah (.leaf (.int .i64)) h1 (.aa h.next 11 0)).bind fun b5=>
((mS b5).bind fun ch=>
(bif !(!ch)then((ah (.leaf (.int .i64)) h1 (.aa h.next 11 5)).bind fun eB=>
(bif !(decide (eB<1))then((ah (.leaf (.int .i64)) h1 (.aa h.next 11 5)).bind fun fb=>
(some ((decide ((128849018880000:Int)<fb)),h1)))else (some (true,h1))))else (some (true,h1)))))).bind fun(mN,bE)=>
(bif mN then(some (false,bE))else ((ah (.leaf (.int .i64)) bE (.aa h.next 11 1)).bind fun gM=>
(bif (decide (gM=1))then((((ah (.leaf (.int .i64)) bE (.aa h.next 11 2)).bind fun fT=>
(bif (decide (fT=0))then((ah (.leaf (.int .i64)) bE (.aa h.next 11 3)).bind fun e9=>
((mS e9).bind fun og=>
(bif og then((ah (.leaf (.int .i64)) bE (.aa h.next 11 4)).bind fun jn=>
(bif (decide ((1:Int)≤jn))then((ah (.leaf (.int .i64)) bE (.aa h.next 11 4)).bind fun jo=>
(bif (decide (jo≤10737418240000))then((ah (.agg [.int .i64,.int .i64,.int .i64,.str,.slice]) bE (.aa h.next 11 6)).bind fun(sr,ss,Ck,za,abv)=>
((bB true bE [.str] abv).bind fun D2=>
((xZ (sr,ss,Ck,za,D2)).bind fun tr=>
(some (tr,bE)))))else (some (false,bE))))else (some (false,bE))))else (some (false,bE)))))else (some (false,bE))))).bind fun(w_,eN)=>
(some (w_,eN)))else (bif (decide (gM=2))then((((ah (.leaf (.int .i64)) bE (.aa h.next 11 2)).bind fun gu=>
(bif (decide (gu=0))then((ah (.leaf (.int .i64)) bE (.aa h.next 11 3)).bind fun iM=>
((mS iM).bind fun w9=>
(bif w9 then((ah (.leaf (.int .i64)) bE (.aa h.next 11 4)).bind fun mG=>
(bif (decide (mG=0))then((ah (.agg [.int .i64,.int .i64,.int .i64,.str,.slice]) bE (.aa h.next 11 6)).bind fun(nP,nQ,vW,vX,zb)=>
((bB true bE [.str] zb).bind fun agU=>
((tY (nP,nQ,vW,vX,agU)).bind fun MG=>
(some (MG,bE)))))else (some (false,bE))))else (some (false,bE)))))else (some (false,bE))))).bind fun(mH,gT)=>
(some (mH,gT)))else (bif (decide (gM=3))then((((ah (.leaf (.int .i64)) bE (.aa h.next 11 2)).bind fun qt=>
((mS qt).bind fun MH=>
(bif MH then((ah (.leaf (.int .i64)) bE (.aa h.next 11 3)).bind fun o8=>
((mS o8).bind fun agV=>
(bif agV then((ah (.leaf (.int .i64)) bE (.aa h.next 11 2)).bind fun D3=>
((ah (.leaf (.int .i64)) bE (.aa h.next 11 3)).bind fun o9=>
(bif (!(decide (D3=o9)))then((ah (.leaf (.int .i64)) bE (.aa h.next 11 4)).bind fun jJ=>
(bif (decide (jJ=0))then((ah (.agg [.int .i64,.int .i64,.int .i64,.str,.slice]) bE (.aa h.next 11 6)).bind fun(Kt,Ku,abw,abx,aby)=>
((bB true bE [.str] aby).bind fun D4=>
((tY (Kt,Ku,abw,abx,D4)).bind fun TE=>
(some (TE,bE)))))else (some (false,bE))))else (some (false,bE)))))else (some (false,bE)))))else (some (false,bE)))))).bind fun(xa,o_)=>
(some (xa,o_)))else (bif (decide (gM=4))then((((ah (.leaf (.int .i64)) bE (.aa h.next 11 2)).bind fun tt=>
((mS tt).bind fun agW=>
(bif agW then((ah (.leaf (.int .i64)) bE (.aa h.next 11 3)).bind fun agX=>
(bif (decide (agX=0))then((ah (.leaf (.int .i64)) bE (.aa h.next 11 4)).bind fun agY=>
(bif (decide (agY=0))then((ah (.agg [.int .i64,.int .i64,.int .i64,.str,.slice]) bE (.aa h.next 11 6)).bind fun(Cl,Cm,Cn,uC,abz)=>
((bB true bE [.str] abz).bind fun agZ=>
((tY (Cl,Cm,Cn,uC,agZ)).bind fun ag0=>
(some (ag0,bE)))))else (some (false,bE))))else (some (false,bE))))else (some (false,bE)))))).bind fun(l3,Aj)=>
(some (l3,Aj)))else (some (false,bE)))))))))))
noncomputable def Bf.x:=cQ (bf [mS.p,xZ.p,tY.p] [] bC) {br [] []with dB:=[(1,[16],[.leaf .bool]),(5,[2],[.leaf .bool]),(7,[2],[.leaf .bool]),(9,[2],[.leaf .bool]),(11,[2],[.leaf .bool])]} Tryz.func81 [.agg [.int .i64,.int .i64,.int .i64,.int .i64,.int .i64,.int .i64,.int .i64,.int .i64,.int .i64,.str,.slice]] (.one (.leaf .bool)) (fun x h=>Bf x h) fun _ _=>by kernel_rfl
noncomputable def vq (a0:(Int×Int×Int×Int×Int×Int×Int×Int×Int×ByteArray×(List (ByteArray)))):Option (Bool):=(Bf (a0.1,a0.2.1,a0.2.2.1,a0.2.2.2.1,a0.2.2.2.2.1,a0.2.2.2.2.2.1,a0.2.2.2.2.2.2.1,a0.2.2.2.2.2.2.2.1,a0.2.2.2.2.2.2.2.2.1,a0.2.2.2.2.2.2.2.2.2.1,ae false [.str] a0.2.2.2.2.2.2.2.2.2.2) H.empty).bind fun p=>av false p.2 (.one (.leaf .bool)) (an.un (.one (.leaf .bool)) p.1)
noncomputable def vq.p:bj:=cF.low [.agg [.int .i64,.int .i64,.int .i64,.int .i64,.int .i64,.int .i64,.int .i64,.int .i64,.int .i64,.str,.row [.str]]] Bf.x (.one (.leaf .bool)) (fun x=>vq x) fun _=>by kernel_rfl
noncomputable def mm (a0:V) (a1:Int) (h:H):Option ((Bool)×H):=
(aJ (V.cS (a0:V)=true) (aJ (V.bm (a0:V)=true) ((ah (.leaf (.int .i64)) h (V.add a0 4)).bind fun bY=>
((bif (decide (bY=0))then(aJ (V.cS (a0:V)=true) (aJ (V.bm (a0:V)=true) ((H.aY h (V.add a0 4) [.int .i64 a1]).bind fun h2=>
(some (.next (),h2)))))else (some (.next (),h)):Option (bG (Unit) (Bool)×H)).bind fun(MI,h3)=>match MI with
|.next _=>
(aJ (V.cS (a0:V)=true) (aJ (V.bm (a0:V)=true) ((ah (.leaf (.int .i64)) h3 (V.add a0 4)).bind fun fb=>
(some ((!(decide (fb=0))),h3)))))
|.ret ag1=>(some (ag1,h3))
|.aP _=>none
|.bW _=>none))))
noncomputable def mm.p:bj:=eu (bf [] [] bC) (br [(9,[],[],none,none)] []) Tryz.func87 [.leaf .ptr,.leaf (.int .i64)] (.one (.leaf .bool)) (fun x h=>mm x.1 x.2 h) fun _ _=>by kernel_rfl
noncomputable def H_ (a0:au) (h:H):Option ((au)×H):=
(bif !(V.h_ (a0.a:V))then(bif (!(V.bm (a0.a:V)))then(some (⟨.nil,0,0,false⟩,h))else ((cellsOf h (.slice a0.a a0.len a0.cap a0.tail:V) 1).bind fun(oy,oh)=>
((c7 h none 1 16 (⟨.lp true ([]) 0,0,0,false⟩) oh oy).bind fun(cU,h2)=>
(some (cU,h2)))))else none)
noncomputable def H_.p:bj:=AL (bf [] [] bC) (br [] []) Tryz.func95 1 16 H_ (fun _ _=>by kernel_rfl) fun _ _=>by kernel_rfl
noncomputable def H9.p:bj:=⟨95,mE [.leaf (.row [.str])] (.one (.leaf (.row [.str]))) (k4 16),Ja H_.p.ok rfl (by omega) rfl⟩
noncomputable def AX (a0:au) (h:H):Option ((au)×H):=
((cellsOf h (.slice a0.a a0.len a0.cap a0.tail:V) 2).bind fun(oy,oh)=>
((c7 h none 2 16 (⟨.nil,0,0,false⟩) oh oy).bind fun(cU,h2)=>
(some (cU,h2))))
noncomputable def AX.x:=cQ (bf [] [] bC) (br [] []) Tryz.func105 [.leaf .slice] (.one (.leaf .slice)) (fun x h=>AX x h) fun _ _=>by kernel_rfl
noncomputable def xN (a0:(List (Int×Int))):Option ((List (Int×Int))):=(AX (ae false [.int .i64,.int .i64] a0) H.empty).bind fun p=>av false p.2 (.one (.leaf (.row [.int .i64,.int .i64]))) (an.un (.one (.leaf .slice)) p.1)
noncomputable def xN.p:bj:=cF.low [.leaf (.row [.int .i64,.int .i64])] AX.x (.one (.leaf (.row [.int .i64,.int .i64]))) (fun x=>xN x) fun _=>by kernel_rfl
noncomputable def BZ (a0:(Int×Int×Int×au)) (h:H):Option (((Int×Int×Int×au))×H):=
(match a0 with
|(cz,cA,cT,dZ)=>
(let h1:H:=H.new h [.int .i64 cz,.int .i64 cA,.int .i64 cT,.slice dZ.a dZ.len dZ.cap dZ.tail] 4
(let h2:H:=H.new h1 [.int .i64 0,.int .i64 0,.int .i64 0,.slice .nil 0 0 false] 4
((ah (.leaf .slice) h2 (.aa h.next 4 3)).bind fun cx=>
((bB true h2 [.int .i64,.int .i64] cx).bind fun ee=>
((xN ee).bind fun bQ=>
((H.aY h2 (.aa h.next 4 3) [.slice ((ae true [.int .i64,.int .i64] bQ).a) bQ.length bQ.length true]).bind fun bp=>
((ah (.agg [.int .i64,.int .i64,.int .i64,.slice]) bp (.aa h.next 4 0)).bind fun(wy,wz,ad7,GN)=>
((H.aY bp (.aa h1.next 4 0) [.int .i64 wy,.int .i64 wz,.int .i64 ad7,.slice GN.a GN.len GN.cap GN.tail]).bind fun h8=>
((ah (.agg [.int .i64,.int .i64,.int .i64,.slice]) h8 (.aa h1.next 4 0:V)).bind fun(sO,sP,C6,C7)=>
(some ((sO,sP,C6,C7),h8))))))))))))
noncomputable def BZ.x:=cQ (bf [xN.p] [] bC) (br [] []) Tryz.func52 [.agg [.int .i64,.int .i64,.int .i64,.slice]] (.one (.agg [.int .i64,.int .i64,.int .i64,.slice])) (fun x h=>BZ x h) fun _ _=>by kernel_rfl
noncomputable def yB (a0:(Int×Int×Int×(List (Int×Int)))):Option ((Int×Int×Int×(List (Int×Int)))):=(BZ (a0.1,a0.2.1,a0.2.2.1,ae false [.int .i64,.int .i64] a0.2.2.2) H.empty).bind fun p=>av false p.2 (.one (.agg [.int .i64,.int .i64,.int .i64,.row [.int .i64,.int .i64]])) (an.un (.one (.agg [.int .i64,.int .i64,.int .i64,.slice])) p.1)
noncomputable def yB.p:bj:=cF.low [.agg [.int .i64,.int .i64,.int .i64,.row [.int .i64,.int .i64]]] BZ.x (.one (.agg [.int .i64,.int .i64,.int .i64,.row [.int .i64,.int .i64]])) (fun x=>yB x) fun _=>by kernel_rfl
noncomputable def nG.aZ (h:H) (a0:au) (a1:Int):(Int)×H→Option (ca ((Int)×H) (bG (Unit) ((Int×Int×Int×au)×Bool)×H)):=fun(cc,h3)=>
(bif (decide (cc<((a0.len:Nat):Int)))then(aJ (0≤cc∧cc<((a0.len:Nat):Int)) ((ah (.agg [.int .i64,.int .i64,.int .i64,.slice]) h3 (V.add a0.a (Int.toNat cc*4))).bind fun(ij,jh,p8,jF)=>
(let ba:H:=H.new h3 [.int .i64 0,.int .i64 0,.int .i64 0,.slice .nil 0 0 false] 4
((H.aY ba (.aa h3.next 4 0) [.int .i64 ij,.int .i64 jh,.int .i64 p8,.slice jF.a jF.len jF.cap jF.tail]).bind fun bp=>
((ah (.leaf (.int .i64)) bp (.aa h3.next 4 0)).bind fun fK=>
(bif (decide (fK=a1))then((ah (.agg [.int .i64,.int .i64,.int .i64,.slice]) bp (.aa h3.next 4 0)).bind fun(sQ,sR,wA,wB)=>
((bB true bp [.int .i64,.int .i64] wB).bind fun D5=>
((yB (sQ,sR,wA,D5)).bind fun(ad8,ad9,aea,Ll)=>
((H.aY bp (.aa h.next 4 0) [.int .i64 ad8,.int .i64 ad9,.int .i64 aea,.slice ((ae true [.int .i64,.int .i64] Ll).a) Ll.length Ll.length true]).bind fun cJ=>
((ah (.agg [.int .i64,.int .i64,.int .i64,.slice]) cJ (.aa h.next 4 0:V)).bind fun(k9,k_,pU,la)=>
(some (.done (.ret ((k9,k_,pU,la),true),cJ))))))))else (some (.more ((IntKind.wrap .i64 (cc+1)),bp)))))))))else (some (.done (.aP (),h3))))
noncomputable def nG (a0:au) (a1:Int) (h:H):Option (((Int×Int×Int×au)×Bool)×H):=
(let h1:H:=H.new h [.int .i64 0,.int .i64 0,.int .i64 0,.slice .nil 0 0 false] 4
((iter bd (nG.aZ h a0 a1) (0,h1)).bind fun(C8,cM)=>match C8 with
|.next _=>none
|.ret wC=>(some (wC,cM))
|.aP _=>
((H.aY cM (.aa h.next 4 0) [.int .i64 0,.int .i64 0,.int .i64 0,.slice .nil 0 0 false]).bind fun dU=>
((ah (.agg [.int .i64,.int .i64,.int .i64,.slice]) dU (.aa h.next 4 0:V)).bind fun(su,sw,vY,nR)=>
(some (((su,sw,vY,nR),false),dU))))
|.bW _=>none))
noncomputable def nG.x:=cQ (bf [yB.p] [] bC) (br [] [(2,[10],[.leaf (.int .i64)],[],[],some 0,none)]) Tryz.func22 [.leaf .slice,.leaf (.int .i64)] (.many [.agg [.int .i64,.int .i64,.int .i64,.slice],.leaf .bool]) (fun x h=>nG x.1 x.2 h) fun _ _=>by kernel_rfl
noncomputable def lH (a0:(List (Int×Int×Int×(List (Int×Int))))) (a1:Int):Option ((Int×Int×Int×(List (Int×Int)))×Bool):=(nG (ae false [.int .i64,.int .i64,.int .i64,.row [.int .i64,.int .i64]] a0) a1 H.empty).bind fun p=>av false p.2 (.many [.agg [.int .i64,.int .i64,.int .i64,.row [.int .i64,.int .i64]],.leaf .bool]) (an.un (.many [.agg [.int .i64,.int .i64,.int .i64,.slice],.leaf .bool]) p.1)
noncomputable def lH.p:bj:=cF.low [.leaf (.row [.int .i64,.int .i64,.int .i64,.row [.int .i64,.int .i64]]),.leaf (.int .i64)] nG.x (.many [.agg [.int .i64,.int .i64,.int .i64,.row [.int .i64,.int .i64]],.leaf .bool]) (fun x=>lH x.1 x.2) fun _=>by kernel_rfl
noncomputable def qO.aZ (T:Table) (a0:au) (a1:V):(Int)×H→Option (ca ((Int)×H) (bG (Unit) (Int)×H)):=fun(bb,h2)=>
(bif (decide (bb<((a0.len:Nat):Int)))then(aJ (0≤bb∧bb<((a0.len:Nat):Int)) ((ah (.agg [.int .i64,.int .i64]) h2 (V.add a0.a (Int.toNat bb*2))).bind fun(lf,lg)=>
(eE T.dg a1 [.agg [.int .i64 lf,.int .i64 lg]] h2 fun v4 ba=>
(an.pack (.one (.leaf .bool)) v4).bind fun b4=>
(bif b4 then(some (.done (.ret bb,ba)))else (some (.more ((IntKind.wrap .i64 (bb+1)),ba)))))))else (some (.done (.aP (),h2))))
noncomputable def qO (T:Table) (a0:au) (a1:V) (h:H):Option ((Int)×H):=
((iter bd (qO.aZ T a0 a1) (0,h)).bind fun(xb,bE)=>match xb with
|.next _=>none
|.ret D6=>(some (D6,bE))
|.aP _=>
(some ((-1),bE))
|.bW _=>none)
noncomputable def qO.p (T:cq):bj:=eu (bf [] [] T) (br [] [(2,[8],[.leaf (.int .i64)],[],[],some 0,none)]) Tryz.func106 [.leaf .slice,.leaf .dyn] (.one (.leaf (.int .i64))) (fun x h=>qO T.t x.1 x.2 h) fun _ _=>by kernel_rfl
noncomputable def nv.tb (T:Table):Table:=tS [] [] T
noncomputable def nv.b (T:cq):cq:=bf [] [] T
noncomputable def nv (T:Table) (a0:au) (a1:V) (h:H):Option ((Bool)×H):=
((qO (nv.tb T) a0 a1 h).bind fun(bw,h2)=>
(some ((decide ((0:Int)≤bw)),h2)))
noncomputable def nv.p (T:cq):bj:=eu (bf [qO.p (nv.b T)] [] (nv.b T)) (br [] []) Tryz.func53 [.leaf .slice,.leaf .dyn] (.one (.leaf .bool)) (fun x h=>nv T.t x.1 x.2 h) fun _ _=>by kernel_rfl
noncomputable def BB (a0:(Int×Int)) (h:H):Option ((Bool)×H):=
(match a0 with
|(cz,cA)=>
(let h1:H:=H.new h [.int .i64 cz,.int .i64 cA] 2
((((ah (.leaf (.int .i64)) h1 (.aa h.next 2 0)).bind fun b5=>
(bif (decide ((0:Int)≤b5))then((ah (.leaf (.int .i64)) h1 (.aa h.next 2 0)).bind fun cx=>
(bif (decide (cx≤10737418240000))then((ah (.leaf (.int .i64)) h1 (.aa h.next 2 1)).bind fun eB=>
(bif (decide ((0:Int)≤eB))then((ah (.leaf (.int .i64)) h1 (.aa h.next 2 1)).bind fun fb=>
(bif (decide (fb≤128849018880000))then((ah (.leaf (.int .i64)) h1 (.aa h.next 2 1)).bind fun hc=>
(bif !(decide ((0:Int)<hc))then((ah (.leaf (.int .i64)) h1 (.aa h.next 2 0)).bind fun fK=>
(some ((decide (fK=0)),h1)))else (some (true,h1))))else (some (false,h1))))else (some (false,h1))))else (some (false,h1))))else (some (false,h1))))).bind fun(jN,h9)=>
(some (jN,h9)))))
noncomputable def BB.x:=cQ (bf [] [] bC) {br [] []with dB:=[(1,[2],[.leaf .bool])]} Tryz.func143 [.agg [.int .i64,.int .i64]] (.one (.leaf .bool)) (fun x h=>BB x h) fun _ _=>by kernel_rfl
noncomputable def q5 (a0:(Int×Int)):Option (Bool):=(BB a0 H.empty).bind fun p=>av false p.2 (.one (.leaf .bool)) (an.un (.one (.leaf .bool)) p.1)
noncomputable def q5.p:bj:=cF.low [.agg [.int .i64,.int .i64]] BB.x (.one (.leaf .bool)) (fun x=>q5 x) fun _=>by kernel_rfl
noncomputable def BC (a0:(Int×Int)) (h:H):Option ((Bool)×H):=
(match a0 with
|(cz,cA)=>
(let h1:H:=H.new h [.int .i64 cz,.int .i64 cA] 2
((ah (.agg [.int .i64,.int .i64]) h1 (.aa h.next 2 0)).bind fun(sS,sU)=>
((q5 (sS,sU)).bind fun ch=>
(some ((!ch),h1))))))
noncomputable def BC.x:=cQ (bf [q5.p] [] bC) (br [] []) Tryz.func142 [.agg [.int .i64,.int .i64]] (.one (.leaf .bool)) (fun x h=>BC x h) fun _ _=>by kernel_rfl
noncomputable def yg (a0:(Int×Int)):Option (Bool):=(BC a0 H.empty).bind fun p=>av false p.2 (.one (.leaf .bool)) (an.un (.one (.leaf .bool)) p.1)
noncomputable def yg.p:bj:=cF.low [.agg [.int .i64,.int .i64]] BC.x (.one (.leaf .bool)) (fun x=>yg x) fun _=>by kernel_rfl
noncomputable def pH.aZ (a0:au) (h1:H):(Int)×H→Option (ca ((Int)×H) (bG (Unit) ((Int×Int))×H)):=fun(cj,aI)=>
(bif (decide (cj<((a0.len:Nat):Int)))then(aJ (0≤cj∧cj<((a0.len:Nat):Int)) ((ah (.agg [.int .i64,.int .i64]) aI (V.add a0.a (Int.toNat cj*2))).bind fun(p9,p_)=>
(let bp:H:=H.new aI [.int .i64 0,.int .i64 0] 2
((H.aY bp (.aa aI.next 2 0) [.int .i64 p9,.int .i64 p_]).bind fun bE=>
(let h8:H:=H.de bE 0
((ah (.leaf (.int .i64)) h8 (.aa h1.next 2 0)).bind fun fT=>
((ah (.leaf (.int .i64)) h8 (.aa aI.next 2 0)).bind fun e9=>
((ah (.leaf (.int .i64)) h8 (.aa h1.next 2 1)).bind fun iv=>
((ah (.leaf (.int .i64)) h8 (.aa aI.next 2 1)).bind fun jn=>
((H.aY h8 (.aa h1.next 2 0) [.int .i64 (IntKind.wrap .i64 (fT+e9))]).bind fun cM=>
((H.aY cM (.aa h1.next 2 1) [.int .i64 (IntKind.wrap .i64 (iv+jn))]).bind fun cO=>
(aJ (fg (.aa aI.next 2 1:V) (.aa h1.next 2 0:V)=true) (some (.more ((IntKind.wrap .i64 (cj+1)),cO)))))))))))))))else (some (.done (.aP (),aI))))
noncomputable def pH (a0:au) (h:H):Option (((Int×Int))×H):=
(let h1:H:=H.new h [.int .i64 0,.int .i64 0] 2
(let h2:H:=H.new h1 [.int .i64 0,.int .i64 0] 2
((iter bd (pH.aZ a0 h1) (0,h2)).bind fun(wD,cD)=>match wD with
|.next _=>none
|.ret C9=>(some (C9,cD))
|.aP _=>
((ah (.leaf (.int .i64)) cD (.aa h1.next 2 0)).bind fun ln=>
((ah (.leaf (.int .i64)) cD (.aa h1.next 2 1)).bind fun gu=>
((H.aY cD (.aa h.next 2 0) [.int .i64 ln,.int .i64 gu]).bind fun dy=>
((ah (.agg [.int .i64,.int .i64]) dy (.aa h.next 2 0:V)).bind fun(Kv,Kw)=>
(some ((Kv,Kw),dy))))))
|.bW _=>none)))
noncomputable def pH.x:=cQ (bf [] [] bC) (br [] [(3,[8],[.leaf (.int .i64)],[],[],some 0,none)]) Tryz.func144 [.leaf .slice] (.one (.agg [.int .i64,.int .i64])) (fun x h=>pH x h) fun _ _=>by kernel_rfl
noncomputable def yh (a0:(List (Int×Int))):Option ((Int×Int)):=(pH (ae false [.int .i64,.int .i64] a0) H.empty).bind fun p=>av false p.2 (.one (.agg [.int .i64,.int .i64])) (an.un (.one (.agg [.int .i64,.int .i64])) p.1)
noncomputable def yh.p:bj:=cF.low [.leaf (.row [.int .i64,.int .i64])] pH.x (.one (.agg [.int .i64,.int .i64])) (fun x=>yh x) fun _=>by kernel_rfl
noncomputable def pM.tb:cq:=bf [q5.p,yh.p] [yg.p] bC
noncomputable def pM.fc:cq:=bf [nv.p pM.tb] [] pM.tb
noncomputable def pM (a0:au) (h:H):Option (((Int×Int)×Int)×H):=
(let h1:H:=H.new h [.int .i64 0,.int .i64 0] 2
(bif (decide ((8:Int)<((a0.len:Nat):Int)))then((H.aY h1 (.aa h.next 2 0) [.int .i64 0,.int .i64 0]).bind fun h2=>
((ah (.agg [.int .i64,.int .i64]) h2 (.aa h.next 2 0:V)).bind fun(lf,lg)=>
(some (((lf,lg),8),h2))))else ((nv pM.tb.t a0 (.func 142 []:V) h1).bind fun(bQ,ba)=>
(bif bQ then((H.aY ba (.aa h.next 2 0) [.int .i64 0,.int .i64 0]).bind fun bp=>
((ah (.agg [.int .i64,.int .i64]) bp (.aa h.next 2 0:V)).bind fun(wy,wz)=>
(some (((wy,wz),1),bp))))else ((bB true ba [.int .i64,.int .i64] a0).bind fun ajr=>
((yh ajr).bind fun(Lm,Ln)=>
(let c5:H:=H.new ba [.int .i64 0,.int .i64 0] 2
((H.aY c5 (.aa ba.next 2 0) [.int .i64 Lm,.int .i64 Ln]).bind fun cJ=>
((ah (.agg [.int .i64,.int .i64]) cJ (.aa ba.next 2 0)).bind fun(k9,k_)=>
((q5 (k9,k_)).bind fun xc=>
(bif xc then((ah (.agg [.int .i64,.int .i64]) cJ (.aa ba.next 2 0)).bind fun(sr,ss)=>
((H.aY cJ (.aa h.next 2 0) [.int .i64 sr,.int .i64 ss]).bind fun cD=>
((ah (.agg [.int .i64,.int .i64]) cD (.aa h.next 2 0:V)).bind fun(sx,sy)=>
(some (((sx,sy),0),cD)))))else ((H.aY cJ (.aa h.next 2 0) [.int .i64 0,.int .i64 0]).bind fun d_=>
((ah (.agg [.int .i64,.int .i64]) d_ (.aa h.next 2 0:V)).bind fun(nS,nT)=>
(some (((nS,nT),15),d_)))))))))))))))
noncomputable def pM.x:=cQ pM.fc (br [] []) Tryz.func107 [.leaf .slice] (.many [.agg [.int .i64,.int .i64],.leaf (.int .i64)]) (fun x h=>pM x h) fun _ _=>by kernel_rfl
noncomputable def q9 (a0:(List (Int×Int))):Option ((Int×Int)×Int):=(pM (ae false [.int .i64,.int .i64] a0) H.empty).bind fun p=>av false p.2 (.many [.agg [.int .i64,.int .i64],.leaf (.int .i64)]) (an.un (.many [.agg [.int .i64,.int .i64],.leaf (.int .i64)]) p.1)
noncomputable def q9.p:bj:=cF.low [.leaf (.row [.int .i64,.int .i64])] pM.x (.many [.agg [.int .i64,.int .i64],.leaf (.int .i64)]) (fun x=>q9 x) fun _=>by kernel_rfl
noncomputable def BD (a0:(Int×Int)) (h:H):Option ((Bool)×H):=
(match a0 with
|(cz,cA)=>
(let h1:H:=H.new h [.int .i64 cz,.int .i64 cA] 2
((ah (.agg [.int .i64,.int .i64]) h1 (.aa h.next 2 0)).bind fun(sS,sU)=>
((bB true h1 [.int .i64,.int .i64] ⟨.lp true ([.int .i64 sS,.int .i64 sU]) 0,1,1,false⟩).bind fun ee=>
((q9 ee).bind fun((sV,sW),bQ)=>
(let bp:H:=H.new h1 [.int .i64 0,.int .i64 0] 2
((H.aY bp (.aa h1.next 2 0) [.int .i64 sV,.int .i64 sW]).bind fun bE=>
(some ((decide (bQ=0)),bE)))))))))
noncomputable def BD.x:=cQ (bf [q9.p] [] bC) (br [] []) Tryz.func80 [.agg [.int .i64,.int .i64]] (.one (.leaf .bool)) (fun x h=>BD x h) fun _ _=>by kernel_rfl
noncomputable def r_ (a0:(Int×Int)):Option (Bool):=(BD a0 H.empty).bind fun p=>av false p.2 (.one (.leaf .bool)) (an.un (.one (.leaf .bool)) p.1)
noncomputable def r_.p:bj:=cF.low [.agg [.int .i64,.int .i64]] BD.x (.one (.leaf .bool)) (fun x=>r_ x) fun _=>by kernel_rfl
noncomputable def oG.aZ (h:H) (cx:au):(Int×Int)×H→Option (ca ((Int×Int)×H) (bG (Int) (Int)×H)):=fun((iY,kR),bp)=>
(bif (decide (kR<((cx.len:Nat):Int)))then(aJ (0≤kR∧kR<((cx.len:Nat):Int)) ((ah (.agg [.int .i64,.int .i64]) bp (V.add cx.a (Int.toNat kR*2))).bind fun(wy,wz)=>
(let h8:H:=H.new bp [.int .i64 0,.int .i64 0] 2
((H.aY h8 (.aa bp.next 2 0) [.int .i64 wy,.int .i64 wz]).bind fun h9=>
(((let c5:H:=H.de h9 0
((ah (.leaf (.int .i64)) c5 (.aa bp.next 2 0)).bind fun iv=>
(bif !(decide (iv<1))then((ah (.leaf (.int .i64)) c5 (.aa bp.next 2 0)).bind fun jn=>
(bif !(decide ((1073741824:Int)<jn))then((ah (.leaf (.int .i64)) c5 (.aa bp.next 2 1)).bind fun jo=>
(bif !(decide (jo<1))then((ah (.leaf (.int .i64)) c5 (.aa bp.next 2 1)).bind fun oe=>
(bif !(decide ((10737418240000:Int)<oe))then(bif (decide ((0:Int)<kR))then((ah (.leaf .slice) c5 (.aa h.next 4 3)).bind fun hb=>
(aJ (0≤(IntKind.wrap .i64 (kR-1))∧(IntKind.wrap .i64 (kR-1))<((hb.len:Nat):Int)) (aJ (V.bm ((V.add hb.a (Int.toNat (IntKind.wrap .i64 (kR-1))*2)):V)=true) ((ah (.leaf (.int .i64)) c5 (V.add (V.add hb.a (Int.toNat (IntKind.wrap .i64 (kR-1))*2)) 0)).bind fun hp=>
((ah (.leaf (.int .i64)) c5 (.aa bp.next 2 0)).bind fun gH=>
(some ((decide (gH≤hp)),c5)))))))else (some (false,c5)))else (some (true,c5))))else (some (true,c5))))else (some (true,c5))))else (some (true,c5)))))).bind fun(xd,eO)=>
(bif xd then(some (.done (.ret 10,eO)))else ((ah (.leaf (.int .i64)) eO (.aa bp.next 2 1)).bind fun iM=>
(some (.more (((IntKind.wrap .i64 (iY+iM)),(IntKind.wrap .i64 (kR+1))),eO))))))))))else (some (.done (.aP iY,bp))))
noncomputable def oG (a0:(Int×Int×Int×au)) (h:H):Option ((Int)×H):=
(match a0 with
|(cz,cA,cT,dZ)=>
(let h1:H:=H.new h [.int .i64 cz,.int .i64 cA,.int .i64 cT,.slice dZ.a dZ.len dZ.cap dZ.tail] 4
((ah (.leaf .slice) h1 (.aa h.next 4 3)).bind fun b5=>
(bif (decide ((32:Int)<((b5.len:Nat):Int)))then(some (12,h1))else ((ah (.leaf .slice) h1 (.aa h.next 4 3)).bind fun cx=>
((iter bd (oG.aZ h cx) ((0,0),h1)).bind fun(sX,et)=>match sX with
|.next _=>none
|.ret wE=>(some (wE,et))
|.aP Hk=>
((ah (.leaf (.int .i64)) et (.aa h.next 4 1)).bind fun mI=>
(bif (!(decide (Hk=mI)))then(some (14,et))else (some (0,et))))
|.bW _=>none))))))
noncomputable def oG.x:=cQ (bf [] [] bC) {br [] [(5,[3,13],[.leaf (.int .i64),.leaf (.int .i64)],[3],[.leaf (.int .i64)],some 0,none)]with dB:=[(7,[51],[.leaf .bool])]} Tryz.func169 [.agg [.int .i64,.int .i64,.int .i64,.slice]] (.one (.leaf (.int .i64))) (fun x h=>oG x h) fun _ _=>by kernel_rfl
noncomputable def vx (a0:(Int×Int×Int×(List (Int×Int)))):Option (Int):=(oG (a0.1,a0.2.1,a0.2.2.1,ae false [.int .i64,.int .i64] a0.2.2.2) H.empty).bind fun p=>av false p.2 (.one (.leaf (.int .i64))) (an.un (.one (.leaf (.int .i64))) p.1)
noncomputable def vx.p:bj:=cF.low [.agg [.int .i64,.int .i64,.int .i64,.row [.int .i64,.int .i64]]] oG.x (.one (.leaf (.int .i64))) (fun x=>vx x) fun _=>by kernel_rfl
noncomputable def BE (a0:au) (a1:Int) (h:H):Option ((Int)×H):=
(aJ (0≤a1∧a1<((a0.len:Nat):Int)) ((ah (.agg [.int .i64,.int .i64,.int .i64,.slice]) h (V.add a0.a (Int.toNat a1*4))).bind fun(Lo,Lp,Lq,zM)=>
(let h2:H:=H.new h [.int .i64 0,.int .i64 0,.int .i64 0,.slice .nil 0 0 false] 4
((H.aY h2 (.aa h.next 4 0) [.int .i64 Lo,.int .i64 Lp,.int .i64 Lq,.slice zM.a zM.len zM.cap zM.tail]).bind fun h3=>
((((ah (.leaf (.int .i64)) h3 (.aa h.next 4 0)).bind fun eB=>
(bif !(decide (eB<1))then((ah (.leaf (.int .i64)) h3 (.aa h.next 4 0)).bind fun fb=>
(some ((decide ((1073741824:Int)<fb)),h3)))else (some (true,h3))))).bind fun(mN,bE)=>
(bif mN then(some (2,bE))else (((let h8:H:=H.de bE 0
(bif (decide ((0:Int)<a1))then(aJ (0≤(IntKind.wrap .i64 (a1-1))∧(IntKind.wrap .i64 (a1-1))<((a0.len:Nat):Int)) (aJ (V.bm ((V.add a0.a (Int.toNat (IntKind.wrap .i64 (a1-1))*4)):V)=true) ((ah (.leaf (.int .i64)) h8 (V.add (V.add a0.a (Int.toNat (IntKind.wrap .i64 (a1-1))*4)) 0)).bind fun fT=>
((ah (.leaf (.int .i64)) h8 (.aa h.next 4 0)).bind fun e9=>
(some ((decide (e9≤fT)),h8))))))else (some (false,h8))))).bind fun(df,cX)=>
(bif df then(some (5,cX))else ((((ah (.agg [.int .i64,.int .i64]) cX (.aa h.next 4 1)).bind fun(sz,sA)=>
((r_ (sz,sA)).bind fun kI=>
(bif !(!kI)then((ah (.leaf (.int .i64)) cX (.aa h.next 4 2)).bind fun hb=>
(some ((decide (hb=0)),cX)))else (some (true,cX)))))).bind fun(fH,d_)=>
(bif fH then(some (1,d_))else ((ah (.agg [.int .i64,.int .i64,.int .i64,.slice]) d_ (.aa h.next 4 0)).bind fun(nS,nT,sB,oY)=>
((bB true d_ [.int .i64,.int .i64] oY).bind fun l4=>
((vx (nS,nT,sB,l4)).bind fun xe=>
(some (xe,d_)))))))))))))))
noncomputable def BE.x:=cQ (bf [r_.p,vx.p] [] bC) {br [] []with dB:=[(2,[10],[.leaf .bool]),(4,[19],[.leaf .bool]),(6,[33],[.leaf .bool])]} Tryz.func148 [.leaf .slice,.leaf (.int .i64)] (.one (.leaf (.int .i64))) (fun x h=>BE x.1 x.2 h) fun _ _=>by kernel_rfl
noncomputable def yi (a0:(List (Int×Int×Int×(List (Int×Int))))) (a1:Int):Option (Int):=(BE (ae false [.int .i64,.int .i64,.int .i64,.row [.int .i64,.int .i64]] a0) a1 H.empty).bind fun p=>av false p.2 (.one (.leaf (.int .i64))) (an.un (.one (.leaf (.int .i64))) p.1)
noncomputable def yi.p:bj:=cF.low [.leaf (.row [.int .i64,.int .i64,.int .i64,.row [.int .i64,.int .i64]]),.leaf (.int .i64)] BE.x (.one (.leaf (.int .i64))) (fun x=>yi x.1 x.2) fun _=>by kernel_rfl
noncomputable def oJ.aZ (a0:au):(Int)×H→Option (ca ((Int)×H) (bG (Unit) (Int×Int)×H)):=fun(bb,h2)=>
(bif (decide (bb<((a0.len:Nat):Int)))then((bB true h2 [.int .i64,.int .i64,.int .i64,.row [.int .i64,.int .i64]] a0).bind fun eD=>
((yi eD bb).bind fun ch=>
(bif (!(decide (ch=0)))then(some (.done (.ret (bb,ch),h2)))else (some (.more ((IntKind.wrap .i64 (bb+1)),h2))))))else (some (.done (.aP (),h2))))
noncomputable def oJ (a0:au) (h:H):Option ((Int×Int)×H):=
(bif (decide ((32:Int)<((a0.len:Nat):Int)))then(some (((-1),8),h))else ((iter bd (oJ.aZ a0) (0,h)).bind fun(qq,ba)=>match qq with
|.next _=>none
|.ret tq=>(some (tq,ba))
|.aP _=>
(some (((-1),0),ba))
|.bW _=>none))
noncomputable def oJ.x:=cQ (bf [yi.p] [] bC) (br [] [(4,[11],[.leaf (.int .i64)],[],[],some 0,none)]) Tryz.func120 [.leaf .slice] (.many [.leaf (.int .i64),.leaf (.int .i64)]) (fun x h=>oJ x h) fun _ _=>by kernel_rfl
noncomputable def oH (a0:(List (Int×Int×Int×(List (Int×Int))))):Option (Int×Int):=(oJ (ae false [.int .i64,.int .i64,.int .i64,.row [.int .i64,.int .i64]] a0) H.empty).bind fun p=>av false p.2 (.many [.leaf (.int .i64),.leaf (.int .i64)]) (an.un (.many [.leaf (.int .i64),.leaf (.int .i64)]) p.1)
noncomputable def oH.p:bj:=cF.low [.leaf (.row [.int .i64,.int .i64,.int .i64,.row [.int .i64,.int .i64]])] oJ.x (.many [.leaf (.int .i64),.leaf (.int .i64)]) (fun x=>oH x) fun _=>by kernel_rfl
end Go.Proofs.YtlphgijokknjhaaGreat
