/- The evaluator, the functions of this seat and what they compute: some texts in one, in short names. Conditions: those of each law. -/
import Derived.Test.YtlphgijokknjhaaGreatTRM4
set_option linter.all false
set_option maxRecDepth 100000
set_option maxHeartbeats 4000000
namespace Go.Proofs.YtlphgijokknjhaaGreat
open Go Go.Proofs.YtlphgijokknjhaaGreat.Ev
def zX(a b:dV):Int:=if a.2.2.1=b.2.2.1 then b.1-a.1 else a.2.2.1-b.2.2.1
theorem YL{a b:dV}(bD:jY a=true)(aE:jY b=true):tT a b=some (zX a b):=by
 obtain⟨_,a1,_,_,a2,a3,_⟩:=vz bD
 obtain⟨_,b8,_,_,b2,mi,_⟩:=vz aE
 have a1:=uf.1 a1
 have b8:=uf.1 b8
 obtain⟨UH,ak0,ai0,ak1,ak2⟩:=a
 obtain⟨ak3,ak4,ai1,ak5,ak6⟩:=b
 simp only at a1 a2 a3 b8 b2 mi
 unfold tT Bb zX
 simp only
 by_cases h:ai0=ai1
 ·simp -implicitDefEqProofs only[aF,reduceIte,av,az,aB,ax,an.un,aj.un,ai.un,LT.un,ab.un,ab.plain,LT.plain,dm,List.replicate,Ev.splice,LT.pack,ab.pack,Nat.reduceAdd,Nat.reduceSub,Nat.reduceLeDiff,Nat.reduceLT,Nat.reduceEqDiff,LT.lo,ab.lo]
  rw[decide_eq_true h,if_pos h]
  try simp -implicitDefEqProofs only[aF,reduceIte,av,az,aB,ax,an.un,aj.un,ai.un,LT.un,ab.un,ab.plain,LT.plain,dm,List.replicate,Ev.splice,LT.pack,ab.pack,Nat.reduceAdd,Nat.reduceSub,Nat.reduceLeDiff,Nat.reduceLT,Nat.reduceEqDiff,LT.lo,ab.lo]
  rw[IntWalk.i64_in _ (by omega)]
 ·simp -implicitDefEqProofs only[aF,reduceIte,av,az,aB,ax,an.un,aj.un,ai.un,LT.un,ab.un,ab.plain,LT.plain,dm,List.replicate,Ev.splice,LT.pack,ab.pack,Nat.reduceAdd,Nat.reduceSub,Nat.reduceLeDiff,Nat.reduceLT,Nat.reduceEqDiff,LT.lo,ab.lo]
  rw[decide_eq_false h,if_neg h]
  try simp -implicitDefEqProofs only[aF,reduceIte,av,az,aB,ax,an.un,aj.un,ai.un,LT.un,ab.un,ab.plain,LT.plain,dm,List.replicate,Ev.splice,LT.pack,ab.pack,Nat.reduceAdd,Nat.reduceSub,Nat.reduceLeDiff,Nat.reduceLT,Nat.reduceEqDiff,LT.lo,ab.lo]
  rw[IntWalk.i64_in _ (by omega)]
theorem call137{T:Table}(bt:T.dg.fn 137=tT.p.e){b:Bool}{f g:dV}(ak:jY f=true)(aQ:jY g=true){R:Type}(k:V→H→Option R)(h:H):
  eE T.dg (.func 137 []) [.agg [.int .i64 f.1,.int .i64 f.2.1,.int .i64 f.2.2.1,.str f.2.2.2.1,.slice (ae b [.str] f.2.2.2.2).a (ae b [.str] f.2.2.2.2).len (ae b [.str] f.2.2.2.2).cap (ae b [.str] f.2.2.2.2).tail],.agg [.int .i64 g.1,.int .i64 g.2.1,.int .i64 g.2.2.1,.str g.2.2.2.1,.slice (ae b [.str] g.2.2.2.2).a (ae b [.str] g.2.2.2.2).len (ae b [.str] g.2.2.2.2).cap (ae b [.str] g.2.2.2.2).tail]] h k=k (.int .i64 (zX f g)) h:=by
 simp only[eE,bt,tT.p,cF.low,mE,List.append_nil,yz,az,aB,ax]
 have kl:∀n:Int,cE true h (.int .i64) (.int .i64 n)=some n:=fun n=>rfl
 have bh:∀s:ByteArray,cE true h .str (.str s)=some s:=fun s=>rfl
 have af:∀l:List ByteArray,cE true h (.row [.str]) (.slice (ae b [.str] l).a (ae b [.str] l).len (ae b [.str] l).cap (ae b [.str] l).tail)=some l:=fun l=>hL rfl
 simp only[kl,bh,af,Option.bind_some]
 rw[YL (a:=(f.1,f.2.1,f.2.2.1,f.2.2.2.1,f.2.2.2.2)) (b:=(g.1,g.2.1,g.2.2.1,g.2.2.2.1,g.2.2.2.2)) ak aQ]
 rfl
theorem CS{sl:List Slot}{i:Nat}{g z:gP}(h:sl[i]? =some (bA z)):H.aY (ag sl) (.aa i 5 0) [.int .i64 g.1,.int .i64 g.2.1,.int .i64 g.2.2.1,.str g.2.2.2.1,.slice g.2.2.2.2.a g.2.2.2.2.len g.2.2.2.2.cap g.2.2.2.2.tail]=some (ag (sl.set i (bA g))):=by
 rw[eS (g:=5) h rfl (by simp)]
 rfl
theorem ZI{b:Bool}{sl:List Slot}{fs:List dV}{S:au}{o:Option Nat}{h2:H}{m:Nat}{T:Table}(bt:T.dg.fn 137=tT.p.e)(hm:h2.next=m)(fQ:m=sl.length)(eh:Acc sl cR (fs.map (bl b)) S o){f0:dV}(aO:fs[0]? =some f0)(ak:∀f∈fs,jY f=true)(aq:fs.length≤2^20):
  ∃f∈fs,(∀g∈fs,g.2.2.1≤f.2.2.1)∧iter bd (oC.aZ T S (.func 137 []) h2) (1,ag (sl++[bA (bl b f0)]))=some (.aP (),ag (sl++[bA (bl b f)])):=by
 have gD:0<fs.length:=(List.getElem?_eq_some_iff.1 aO).1
 have ai2:f0∈fs:=List.mem_of_getElem? aO
 have pf:S.len=fs.length:=by rw[eh.len,List.length_map]
 obtain⟨x,aw,f,nc,ti,rfl⟩:=ft (f:=oC.aZ T S (.func 137 []) h2)
  (Inv:=fun st=>∃(i:Nat) (f:dV),st=((i:Int),ag (sl++[bA (bl b f)]))∧i≤fs.length∧f∈fs∧∀g∈fs.take i,g.2.2.1≤f.2.2.1)
  (Post:=fun x=>∃f∈fs,(∀g∈fs,g.2.2.1≤f.2.2.1)∧x=(.aP (),ag (sl++[bA (bl b f)]))) (fun st=>fs.length-st.1.toNat) (fun st a6=>by
   obtain⟨i,f,rfl,hi,nc,ti⟩:=a6
   by_cases bn:i<fs.length
   ·left
    have hx:fs[i]? =some fs[i]:=List.getElem?_eq_getElem bn
    have u6:=List.getElem_mem bn
    have xu:Acc (sl++[bA (bl b f)]) cR (fs.map (bl b)) S o:=eh.frame fun id aT=>by subst aT;rw[List.getElem?_append_left eh.lt]
    have UI:(fs.map (bl b))[i]? =some (bl b fs[i]):=by rw[List.getElem?_map,hx];rfl
    have aQ:(sl++[bA (bl b f)])[m]? =some (bA (bl b f)):=by subst fQ;simp
    have key:∀hF,((if 0<zX fs[i] f then fs[i]else f)=hF)→∃bc,oC.aZ T S (.func 137 []) h2 ((i:Int),ag (sl++[bA (bl b f)]))=some (.more (((i+1:Nat):Int),ag (sl++[bA (bl b hF)])))∧bc=hF:=fun hF ll=>by
     refine⟨hF, ?_,rfl⟩
     unfold oC.aZ
     simp only[gk,pf]
     rw[decide_eq_true (show(i:Int)<(fs.length:Int) by omega),cond_true,aS (by omega),Int.toNat_natCast,FM xu UI,Option.bind_some]
     simp only[hm]
     rw[(jX aQ).2.1,Option.bind_some]
     simp only
     rw[call137 bt (ak _ u6) (ak _ nc)]
     simp only[an.pack,ai.pack,ab.pack]
     by_cases ao:0<zX fs[i] f
     ·rw[if_pos ao]at ll
      subst ll
      simp only[Option.bind_some,reduceIte]
      rw[decide_eq_true ao,cond_true,aS (by omega),FM xu UI,Option.bind_some]
      simp only
      rw[CS (g:=bl b fs[i]) aQ,Option.bind_some,Option.bind_some]
      simp only
      rw[dO (by omega)]
      have:(sl++[bA (bl b f)]).set m (bA (bl b fs[i]))=sl++[bA (bl b fs[i])]:=by subst fQ;simp
      rw[this]
     ·rw[if_neg ao]at ll
      subst ll
      simp only[Option.bind_some,reduceIte]
      rw[decide_eq_false ao,cond_false,Option.bind_some]
      simp only
      rw[dO (by omega)]
    obtain⟨_,k,_⟩:=key _ rfl
    refine⟨_,k,⟨i+1,_,rfl,by omega, ?_,fun g hA=>?_⟩,by simp only[Int.toNat_natCast];omega⟩
    ·split
     ·exact u6
     ·exact nc
    ·rw[List.take_add_one,hx]at hA
     simp only[Option.toList_some,List.mem_append,List.mem_singleton]at hA
     have Hg:zX fs[i] f=if fs[i].2.2.1=f.2.2.1 then f.1-fs[i].1 else fs[i].2.2.1-f.2.2.1:=rfl
     rcases hA with hA|rfl
     ·have:=ti g hA
      split
      ·rename_i ao
       rw[Hg]at ao
       split at ao<;>omega
      ·exact this
     ·split
      ·omega
      ·rename_i ao
       rw[Hg]at ao
       split at ao<;>omega
   ·right
    have:i=fs.length:=by omega
    subst this
    rw[List.take_length]at ti
    refine⟨_, ?_,f,nc,ti,rfl⟩
    unfold oC.aZ
    simp only[pf]
    rw[decide_eq_false (by omega),cond_false]) bd ((1:Int),ag (sl++[bA (bl b f0)])) ⟨1,f0,rfl,by omega,ai2,fun g aQ=>by
     obtain⟨y,ys,rfl⟩:=List.exists_cons_of_length_pos gD
     simp at aO aQ
     subst aO aQ
     exact Int.le_refl _⟩ (dj (by show fs.length-(1:Int).toNat<_;omega))
 exact ⟨f,nc,ti,aw⟩
theorem WJ{b:Bool}{sl:List Slot}{fs:List dV}{S:au}{o:Option Nat}(eh:Acc sl cR (fs.map (bl b)) S o)(bS:fs≠[])(ak:∀f∈fs,jY f=true)(aq:fs.length≤2^20):
  ∃f∈fs,(∀g∈fs,g.2.2.1≤f.2.2.1)∧∃aC,ny S (ag sl)=some (bl b f,ag aC)∧sl.length≤aC.length∧∀j,j<sl.length→aC[j]? =sl[j]?:=by
 have gD:0<fs.length:=List.length_pos_iff.2 bS
 have aO:fs[0]? =some fs[0]:=List.getElem?_eq_getElem gD
 have pf:S.len=fs.length:=by rw[eh.len,List.length_map]
 have fr:∀ext,Acc (sl++ext) cR (fs.map (bl b)) S o:=fun ext=>eh.frame fun id aT=>by subst aT;rw[List.getElem?_append_left eh.lt]
 obtain⟨f,nc,ti,k⟩:=ZI (b:=b) (h2:=ag (sl++[bA dt,bA dt])) (T:=ny.tb.t) rfl bR rfl (fr [bA dt,bA dt]) aO ak aq
 refine⟨f,nc,ti,(sl++[bA (bl b f),bA (bl b f),bA (bl b f)]), ?_,by simp,fun j aL=>by rw[List.getElem?_append_left aL]⟩
 unfold ny oC
 simp only[b9,bR,show Slot.own [V.int .i64 0,V.int .i64 0,V.int .i64 0,V.str ⟨#[]⟩,V.slice .nil 0 0 false] 5=bA dt from rfl,List.append_assoc,List.cons_append,List.nil_append,pf]
 rw[decide_eq_false (show ¬(fs.length:Int)<1 by omega),cond_false,Option.bind_some]
 simp only
 rw[aS (by omega)]
 have UJ:=FM (i:=0) (g:=bl b fs[0]) (fr [bA dt,bA dt]) (by rw[List.getElem?_map,aO];rfl)
 rw[Nat.zero_mul]at UJ
 rw[UJ,Option.bind_some]
 simp only[b9,bR,show Slot.own [V.int .i64 0,V.int .i64 0,V.int .i64 0,V.str ⟨#[]⟩,V.slice .nil 0 0 false] 5=bA dt from rfl]
 rw[sn (sl:=sl++[bA dt,bA dt]) (g:=bl b fs[0]),Option.bind_some,k,Option.bind_some]
 simp only
 have hlen:(sl++[bA dt,bA dt]).length=sl.length+2:=by simp
 have aG:((sl++[bA dt,bA dt])++[bA (bl b f)])[(sl++[bA dt,bA dt]).length]? =some (bA (bl b f)):=by simp
 rw[(jX aG).2.1,Option.bind_some]
 have e2:((sl++[bA dt,bA dt])++[bA (bl b f)])[sl.length+1]? =some (bA dt):=by simp
 simp only[List.length_append,List.length_singleton]
 rw[CS (g:=bl b f) e2,Option.bind_some]
 have s2:((sl++[bA dt,bA dt])++[bA (bl b f)]).set (sl.length+1) (bA (bl b f))=sl++[bA dt,bA (bl b f),bA (bl b f)]:=by simp
 rw[s2]
 have bP:(sl++[bA dt,bA (bl b f),bA (bl b f)])[sl.length+1]? =some (bA (bl b f)):=by simp
 rw[(jX bP).2.1,Option.bind_some,Option.bind_some]
 simp only
 have eC:(sl++[bA dt,bA (bl b f),bA (bl b f)])[sl.length]? =some (bA dt):=by simp
 rw[CS (g:=bl b f) eC,Option.bind_some]
 have cU:(sl++[bA dt,bA (bl b f),bA (bl b f)]).set sl.length (bA (bl b f))=sl++[bA (bl b f),bA (bl b f),bA (bl b f)]:=by simp
 rw[cU]
 have lB:(sl++[bA (bl b f),bA (bl b f),bA (bl b f)])[sl.length]? =some (bA (bl b f)):=by simp
 rw[(jX lB).2.1,Option.bind_some]
theorem y3:H.empty=ag []:=rfl
theorem ZJ(l:List ByteArray)(h:l.length≤2^20):k4 16 l=some l:=by
 unfold k4
 rw[aS ⟨by unfold ei;omega,by decide⟩]
theorem ZK{h:H}{a b c e:Int}{s:ByteArray}{al:List ByteArray}:av false h (.many [.agg bT,.leaf (.int .i64)]) (an.un (.many [.agg cR,.leaf (.int .i64)]) ((a,b,c,s,ae true [.str] al),e))=some ((a,b,c,s,al),e):=by
 simp only[av,az,aB,ax,an.un,aj.un,ai.un,LT.un]
 have kl:∀n:Int,cE false h (.int .i64) (ab.un (.int .i64) n)=some n:=fun n=>rfl
 have bh:∀n:ByteArray,cE false h .str (ab.un .str n)=some n:=fun n=>rfl
 have af:cE false h (.row [.str]) (ab.un .slice (ae true [.str] al))=some al:=jb rfl
 simp only[kl,bh,af,Option.bind_some]
theorem ZL{h:H}{a b c e:Int}{s:ByteArray}:av false h (.many [.agg bT,.leaf (.int .i64)]) (an.un (.many [.agg cR,.leaf (.int .i64)]) ((a,b,c,s,⟨.nil,0,0,false⟩),e))=some ((a,b,c,s,[]),e):=by
 simp only[av,az,aB,ax,an.un,aj.un,ai.un,LT.un]
 have kl:∀n:Int,cE false h (.int .i64) (ab.un (.int .i64) n)=some n:=fun n=>rfl
 have bh:∀n:ByteArray,cE false h .str (ab.un .str n)=some n:=fun n=>rfl
 have af:cE false h (.row [.str]) (ab.un .slice (⟨.nil,0,0,false⟩:au))=some []:=mu
 simp only[kl,bh,af,Option.bind_some]
theorem WK{c:e3}{n:Int}(ao:Sound c):∃r e,tX c n=some (r,e)∧(e=0→(cL c.2.1 n).2=true∧jY r=true∧∀s∈(cL c.2.1 n).1.2.2.2,(eK c.1 s.1).2.2.1≤r.2.2.1):=by
 generalize h6:bI (ae false bT c.1) (ae false aX c.2.1) (ae false aX c.2.2.1) c.2.2.2=C
 have s0:([C,bA dt]:List Slot)[0]? =some (bI (ae false bT c.1) (ae false aX c.2.1) (ae false aX c.2.2.1) c.2.2.2):=by rw[h6];rfl
 obtain⟨T,x,S,o,aw,aH,aW,bq⟩:=aao (b:=false) (b2:=false) (R:=ae false aX c.2.2.1) (d:=c.2.2.2) (n:=n) (sl:=[C,bA dt]) ao
 have pe:2≤T.length:=by simpa using aW
 have t1:T[1]? =some (bA dt):=by rw[bq 1 (by simp)];rfl
 generalize he:(if(cL c.2.1 n).2=true then(if(cL c.2.1 n).1.2.2.2=[]then(9:Int)else 0)else 7)=e at aw
 obtain⟨x0,bY,b5,cx⟩:=x
 have bu:∀U:List Slot,(T++U)[1]? =some (bA dt):=fun U=>by rw[List.getElem?_append_left (by omega)];exact t1
 have hw:H.aY (ag (T++[aA bX])) (.aa T.length 4 0) [.int .i64 x0,.int .i64 bY,.int .i64 b5,.slice cx.a cx.len cx.cap cx.tail]=some (ag (T++[aA (x0,bY,b5,cx)])):=jU (x:=(x0,bY,b5,cx))
 by_cases aO:e=0
 ·have ak:(cL c.2.1 n).2=true:=by
   by_cases ak:(cL c.2.1 n).2=true
   ·exact ak
   ·rw[if_neg ak]at he;omega
  rw[if_pos ak]at he
  have bS:(cL c.2.1 n).1.2.2.2≠[]:=fun h=>by rw[if_pos h]at he;omega
  have eh:=aH ak bS
  have e6:=(sd ak).1
  have cI:∀f∈(cL c.2.1 n).1.2.2.2.map fun s=>eK c.1 s.1,jY f=true∧lx f:=fun f kF=>by
   obtain⟨s,ad,rfl⟩:=List.mem_map.1 kF
   exact ao.ph _ (Fq (ao.has _ e6 s ad)).1
  have xu:Acc (T++[aA (x0,bY,b5,cx)]) cR (((cL c.2.1 n).1.2.2.2.map fun s=>eK c.1 s.1).map (bl false)) S o:=by
   rw[List.map_map]
   exact eh.frame fun id aT=>by subst aT;rw[List.getElem?_append_left eh.lt]
  obtain⟨f,nc,ti,U,bb,cc,cj⟩:=WJ xu (by simpa using bS) (fun f kF=>(cI f kF).1) (by have:=vE (ao.j5.all _ e6).2.2.2.1;simp;omega)
  have UK:=(cI f nc).1
  have ai3:T.length+1≤U.length:=by simpa using cc
  have gi:∀V:List Slot,(U++V)[1]? =some (bA dt):=fun V=>by rw[List.getElem?_append_left (by omega),cj 1 (by simp;omega),List.getElem?_append_left (by omega)];exact t1
  refine⟨f,0, ?_,fun _=>⟨ak,UK,fun s ad=>ti _ (List.mem_map_of_mem ad)⟩⟩
  unfold tX x8
  simp only[y3,b9,bR,List.nil_append,List.length_nil,show Slot.own [.slice (ae false bT c.1).a (ae false bT c.1).len (ae false bT c.1).cap (ae false bT c.1).tail,.slice (ae false aX c.2.1).a (ae false aX c.2.1).len (ae false aX c.2.1).cap (ae false aX c.2.1).tail,.slice (ae false aX c.2.2.1).a (ae false aX c.2.2.1).len (ae false aX c.2.2.1).cap (ae false aX c.2.2.1).tail,.int .i64 c.2.2.2] 4=C from h6,show Slot.own [V.int .i64 0,V.int .i64 0,V.int .i64 0,V.str ⟨#[]⟩,V.slice .nil 0 0 false] 5=bA dt from rfl,List.cons_append]
  rw[iH s0,Option.bind_some]
  simp only
  rw[aw,Option.bind_some]
  simp only[b9,bR,show Slot.own [V.int .i64 0,V.int .i64 0,V.int .i64 0,V.slice .nil 0 0 false] 4=aA bX from rfl]
  rw[hw,Option.bind_some,decide_eq_true aO,Bool.not_true,cond_false,bb,Option.bind_some]
  simp only[b9,bR,show Slot.own [V.int .i64 0,V.int .i64 0,V.int .i64 0,V.str ⟨#[]⟩,V.slice .nil 0 0 false] 5=bA dt from rfl]
  have fJ:(U++[bA (bl false f)])[U.length]? =some (bA (bl false f)):=by simp
  rw[sn (sl:=U) (g:=bl false f),Option.bind_some,(jX fJ).2.2,Option.bind_some]
  have oq:bB true (ag (U++[bA (bl false f)])) [.str] (bl false f).2.2.2.2=some f.2.2.2.2:=hL rfl
  rw[oq,Option.bind_some,ZJ _ (by have:=vz UK;omega),Option.bind_some]
  have Aq:H.aY (ag (U++[bA (bl false f)])) (.aa U.length 5 4) [.slice (ae true [.str] f.2.2.2.2).a f.2.2.2.2.length f.2.2.2.2.length true]=some (ag ((U++[bA (bl false f)]).set U.length (bA (bl true f)))):=by
   rw[eS (g:=5) fJ rfl (by simp)];rfl
  rw[Aq,Option.bind_some]
  have s1:(U++[bA (bl false f)]).set U.length (bA (bl true f))=U++[bA (bl true f)]:=by simp
  rw[s1]
  have gz:(U++[bA (bl true f)])[U.length]? =some (bA (bl true f)):=by simp
  rw[(jX gz).2.1,Option.bind_some]
  simp only[List.length_cons,List.length_nil,Nat.zero_add]
  rw[CS (g:=bl true f) (gi _),Option.bind_some]
  have z3:((U++[bA (bl true f)]).set 1 (bA (bl true f)))[1]? =some (bA (bl true f)):=by rw[List.getElem?_set_self (by simp;omega)]
  rw[(jX z3).2.1,Option.bind_some,Option.bind_some]
  exact ZK
 ·refine⟨(0,0,0,⟨#[]⟩,[]),e, ?_,fun h=>absurd h aO⟩
  ·unfold tX x8
   simp only[y3,b9,bR,List.nil_append,List.length_nil,show Slot.own [.slice (ae false bT c.1).a (ae false bT c.1).len (ae false bT c.1).cap (ae false bT c.1).tail,.slice (ae false aX c.2.1).a (ae false aX c.2.1).len (ae false aX c.2.1).cap (ae false aX c.2.1).tail,.slice (ae false aX c.2.2.1).a (ae false aX c.2.2.1).len (ae false aX c.2.2.1).cap (ae false aX c.2.2.1).tail,.int .i64 c.2.2.2] 4=C from h6,show Slot.own [V.int .i64 0,V.int .i64 0,V.int .i64 0,V.str ⟨#[]⟩,V.slice .nil 0 0 false] 5=bA dt from rfl,List.cons_append]
   rw[iH s0,Option.bind_some]
   simp only
   rw[aw,Option.bind_some]
   simp only[b9,bR,show Slot.own [V.int .i64 0,V.int .i64 0,V.int .i64 0,V.slice .nil 0 0 false] 4=aA bX from rfl]
   rw[hw,Option.bind_some,decide_eq_false aO,Bool.not_false,cond_true]
   simp only[List.length_cons,List.length_nil,Nat.zero_add]
   rw[CS (g:=dt) (bu _),Option.bind_some]
   have z3:((T++[aA (x0,bY,b5,cx)]).set 1 (bA dt))[1]? =some (bA dt):=by rw[List.getElem?_set_self (by simp;omega)]
   rw[(jX z3).2.1,Option.bind_some,Option.bind_some]
   exact ZL
theorem adz(f:dV)(day:Int):um f day=some (if 0≤day∧day≤100000 then(if day<f.2.2.1 then 5 else 0)else 2):=by
 obtain⟨a,b,c,s,al⟩:=f
 unfold um B7
 simp only
 by_cases h1:day<0
 ·rw[if_neg (by omega)]
  try simp -implicitDefEqProofs only[aF,reduceIte,av,az,aB,ax,an.un,aj.un,ai.un,LT.un,ab.un,ab.plain,LT.plain,dm,List.replicate,Ev.splice,LT.pack,ab.pack,Nat.reduceAdd,Nat.reduceSub,Nat.reduceLeDiff,Nat.reduceLT,Nat.reduceEqDiff,LT.lo,ab.lo]
  rw[decide_eq_true h1]
  try simp -implicitDefEqProofs only[aF,reduceIte,av,az,aB,ax,an.un,aj.un,ai.un,LT.un,ab.un,ab.plain,LT.plain,dm,List.replicate,Ev.splice,LT.pack,ab.pack,Nat.reduceAdd,Nat.reduceSub,Nat.reduceLeDiff,Nat.reduceLT,Nat.reduceEqDiff,LT.lo,ab.lo]
 ·by_cases h2:100000<day
  ·rw[if_neg (by omega)]
   try simp -implicitDefEqProofs only[aF,reduceIte,av,az,aB,ax,an.un,aj.un,ai.un,LT.un,ab.un,ab.plain,LT.plain,dm,List.replicate,Ev.splice,LT.pack,ab.pack,Nat.reduceAdd,Nat.reduceSub,Nat.reduceLeDiff,Nat.reduceLT,Nat.reduceEqDiff,LT.lo,ab.lo]
   rw[decide_eq_false h1,decide_eq_true h2]
   try simp -implicitDefEqProofs only[aF,reduceIte,av,az,aB,ax,an.un,aj.un,ai.un,LT.un,ab.un,ab.plain,LT.plain,dm,List.replicate,Ev.splice,LT.pack,ab.pack,Nat.reduceAdd,Nat.reduceSub,Nat.reduceLeDiff,Nat.reduceLT,Nat.reduceEqDiff,LT.lo,ab.lo]
  ·rw[if_pos (by omega)]
   try simp -implicitDefEqProofs only[aF,reduceIte,av,az,aB,ax,an.un,aj.un,ai.un,LT.un,ab.un,ab.plain,LT.plain,dm,List.replicate,Ev.splice,LT.pack,ab.pack,Nat.reduceAdd,Nat.reduceSub,Nat.reduceLeDiff,Nat.reduceLT,Nat.reduceEqDiff,LT.lo,ab.lo]
   rw[decide_eq_false h1,decide_eq_false h2]
   try simp -implicitDefEqProofs only[aF,reduceIte,av,az,aB,ax,an.un,aj.un,ai.un,LT.un,ab.un,ab.plain,LT.plain,dm,List.replicate,Ev.splice,LT.pack,ab.pack,Nat.reduceAdd,Nat.reduceSub,Nat.reduceLeDiff,Nat.reduceLT,Nat.reduceEqDiff,LT.lo,ab.lo]
   by_cases h3:day<c
   ·rw[if_pos h3,decide_eq_true h3];rfl
   ·rw[if_neg h3,decide_eq_false h3];rfl
theorem Qk{c:e3}{n day:Int}(ao:Sound c):∃y e,mr c n day=some (y,e)∧(e=0→(0≤day∧day≤100000∧-1≤y∧y≤300)∧∀s∈(cL c.2.1 n).1.2.2.2,(eK c.1 s.1).2.2.1≤day∧365*y≤day-(eK c.1 s.1).2.2.1):=by
 obtain⟨⟨dp,bw,bJ,ch,bQ⟩,e,aw,aH⟩:=WK (n:=n) ao
 have Nv:tX (c.1,c.2.1,c.2.2.1,c.2.2.2) n=some ((dp,bw,bJ,ch,bQ),e):=aw
 generalize h6:bI (ae false bT c.1) (ae false aX c.2.1) (ae false aX c.2.2.1) c.2.2.2=C
 have s0:([C]:List Slot)[0]? =some (bI (ae false bT c.1) (ae false aX c.2.1) (ae false aX c.2.2.1) c.2.2.2):=by rw[h6];rfl
 have cy:∀h,bB true h [.int .i64,.int .i64,.int .i64,.str,.row [.str]] (ae false bT c.1)=some c.1:=fun h=>hL rfl
 have dd:∀h,bB true h [.int .i64,.int .i64,.int .i64,.row [.int .i64,.int .i64]] (ae false aX c.2.1)=some c.2.1:=fun h=>pF
 have dF:∀h,bB true h [.int .i64,.int .i64,.int .i64,.row [.int .i64,.int .i64]] (ae false aX c.2.2.1)=some c.2.2.1:=fun h=>pF
 obtain⟨y,e2,fo,jy⟩:=ZE bJ day
 have Es:=adz (dp,bw,bJ,ch,bQ) day
 have hw:=sn (sl:=[C]) (g:=bl true (dp,bw,bJ,ch,bQ))
 simp only[bZ,hg,hf]at hw
 rw[show([C]++[bA dt]:List Slot)=[C,bA dt]from rfl]at hw
 obtain⟨w,af2⟩:∃w,um (dp,bw,bJ,ch,bQ) day=some w:=⟨_,Es⟩
 have fJ:([C]++[bA (bl true (dp,bw,bJ,ch,bQ))])[([C]:List Slot).length]? =some (bA (bl true (dp,bw,bJ,ch,bQ))):=by simp
 have pre:mr c n day=(bif (!(decide (e=0)))then some (0,e)else ((um (dp,bw,bJ,ch,bQ) day).bind fun og=>(bif (!(decide (og=0)))then some (0,og)else (vp bJ day)))):=by
  unfold mr BK
  simp only[y3,b9,bR,List.nil_append,List.length_nil,show Slot.own [.slice (ae false bT c.1).a (ae false bT c.1).len (ae false bT c.1).cap (ae false bT c.1).tail,.slice (ae false aX c.2.1).a (ae false aX c.2.1).len (ae false aX c.2.1).cap (ae false aX c.2.1).tail,.slice (ae false aX c.2.2.1).a (ae false aX c.2.2.1).len (ae false aX c.2.2.1).cap (ae false aX c.2.2.1).tail,.int .i64 c.2.2.2] 4=C from h6,show Slot.own [V.int .i64 0,V.int .i64 0,V.int .i64 0,V.str ⟨#[]⟩,V.slice .nil 0 0 false] 5=bA dt from rfl,List.cons_append]
  rw[iH s0,Option.bind_some]
  simp only
  rw[cy,Option.bind_some,dd,Option.bind_some,dF,Option.bind_some,Nv,Option.bind_some]
  simp only
  rw[hw,Option.bind_some]
  cases bF:decide (e=0)with
  |false=>rfl
  |true=>
   simp only[Bool.not_true,cond_false]
   rw[(jX fJ).2.1,Option.bind_some]
   have oq:∀h,bB true h [.str] (ae true [.str] bQ)=some bQ:=fun h=>jb rfl
   simp only
   rw[oq,Option.bind_some,af2,Option.bind_some,Option.bind_some]
   have af3:ah (.leaf (.int .i64)) (ag ([C]++[bA (bl true (dp,bw,bJ,ch,bQ))])) (.aa ([C]:List Slot).length 5 2)=some bJ:=by rw[e5 (g:=5) fJ rfl];rfl
   cases uV:decide (w=0)with
   |false=>rfl
   |true=>
    simp only[Bool.not_true,cond_false]
    rw[af3,Option.bind_some,fo]
    rfl
 rw[pre]
 by_cases aO:e=0
 ·obtain⟨f1,f2,f3⟩:=aH aO
  rw[decide_eq_true aO,Bool.not_true,cond_false,Es,Option.bind_some]
  split
  ·split
   ·exact ⟨0,5,rfl,fun h=>by omega⟩
   ·rename_i d1 d2
    refine⟨y,e2,by rw[fo];rfl,fun he=>⟨(by have:=jy he;omega),fun s ad=>?_⟩⟩
    have:=f3 s ad
    have:=jy he
    simp only at*
    omega
  ·exact ⟨0,2,rfl,fun h=>by omega⟩
 ·rw[decide_eq_false aO]
  exact ⟨0,e,rfl,fun h=>absurd h aO⟩
abbrev Cc (g:gP):List V:=[.int .i64 g.1,.int .i64 g.2.1,.int .i64 g.2.2.1,.str g.2.2.2.1,.slice g.2.2.2.2.a g.2.2.2.2.len g.2.2.2.2.cap g.2.2.2.2.tail]
theorem YM{fs:List dV}{n:Int}{i:Nat}(hi:i<fs.length)(h1:fs[i].1=n)(h2:∀f∈fs.take i,f.1≠n):eK fs n=fs[i]:=by
 have:(fs.take i++fs.drop i).find? (fun f=>decide (f.1=n))=some fs[i]:=by
  rw[List.find?_append,List.find?_eq_none.2 (fun f ak=>by simpa using h2 f ak),List.drop_eq_getElem_cons hi,List.find?_cons_of_pos (by simpa using h1)]
  rfl
 rw[List.take_append_drop]at this
 unfold eK
 rw[this]
 rfl
theorem R8{T:Table}{v:V}{b:Bool}{fs:List dV}{n:Int}{sl:List Slot}(lO:∀(g:dV) (ext:List Slot) {R:Type} (k:V→H→Option R),eE T.dg v [.agg (Cc (bl b g))] (ag (sl++ext)) k=k (.bool (decide (g.1=n))) (ag (sl++(ext++[bA (bl b g)]))))(hx:∃f∈fs,f.1=n)(aq:fs.length≤2^20):
  ∃(i:Nat) (ext:List Slot),nw T (ae b bT fs) v (ag sl)=some ((i:Int),ag (sl++ext))∧fs[i]? =some (eK fs n):=by
 obtain⟨x,aw,i,ext,rfl,aH⟩:=ft (f:=nw.aZ T (ae b bT fs) v)
  (Inv:=fun st=>∃(i:Nat) (ext:List Slot),st=((i:Int),ag (sl++ext))∧i≤fs.length∧∀f∈fs.take i,f.1≠n)
  (Post:=fun x=>∃(i:Nat) (ext:List Slot),x=(.ret (i:Int),ag (sl++ext))∧fs[i]? =some (eK fs n)) (fun st=>fs.length-st.1.toNat) (fun st a6=>by
   obtain⟨i,ext,rfl,hi,j8⟩:=a6
   by_cases bn:i<fs.length
   ·have eW:fs[i]? =some fs[i]:=List.getElem?_eq_getElem bn
    have key:nw.aZ T (ae b bT fs) v ((i:Int),ag (sl++ext))=if fs[i].1=n then some (.done (.ret (i:Int),ag (sl++(ext++[bA (bl b fs[i])]))))else some (.more (((i+1:Nat):Int),ag (sl++(ext++[bA (bl b fs[i])])))):=by
     unfold nw.aZ
     simp only[bZ]
     rw[decide_eq_true (show(i:Int)<(fs.length:Int) by omega),cond_true,aS (by omega),Int.toNat_natCast,JY eW,Option.bind_some]
     simp only
     have ao:=lO fs[i] ext (R:=ca (Int×H) (bG Unit Int×H)) fun v4 ba=>(an.pack (.one (.leaf .bool)) v4).bind fun b4=>(bif b4 then(some (.done (.ret (i:Int),ba)))else (some (.more ((IntKind.wrap .i64 ((i:Int)+1)),ba))))
     refine ao.trans ?_
     simp only[an.pack,ai.pack,ab.pack,Option.bind_some]
     by_cases h1:fs[i].1=n
     ·rw[if_pos h1,decide_eq_true h1,cond_true]
     ·rw[if_neg h1,decide_eq_false h1,cond_false,dO (by omega)]
    by_cases h1:fs[i].1=n
    ·rw[if_pos h1]at key
     exact .inr ⟨_,key,i,_,rfl,by rw[YM bn h1 j8];exact eW⟩
    ·rw[if_neg h1]at key
     refine .inl ⟨_,key,⟨i+1,_,rfl,by omega,fun f ak=>?_⟩,by simp only[Int.toNat_natCast];omega⟩
     rw[List.take_add_one,eW]at ak
     simp only[Option.toList_some,List.mem_append,List.mem_singleton]at ak
     rcases ak with ak |rfl
     ·exact j8 f ak
     ·exact h1
   ·have:i=fs.length:=by omega
    subst this
    rw[List.take_length]at j8
    obtain⟨f,h1,h2⟩:=hx
    exact absurd h2 (j8 f h1)) bd ((0:Int),ag sl) ⟨0,[],by rw[List.append_nil];rfl,Nat.zero_le _,(fun f ak=>by cases ak)⟩ (dj (by show fs.length-0<_;omega))
 refine⟨i,ext, ?_,aH⟩
 unfold nw
 rw[aw,Option.bind_some]
theorem call89{T:Table}(bt:T.dg.fn 89=vu.p.e){b:Bool}{n a:Int}{sl:List Slot}{q:Nat}(aV:sl[q]? =some (a_ (n,a)))(g:dV)(ext:List Slot){R:Type}(k:V→H→Option R):
  eE T.dg (.func 89 [.aa q 2 0]) [.agg (Cc (bl b g))] (ag (sl++ext)) k=k (.bool (decide (g.1=n))) (ag (sl++(ext++[bA (bl b g)]))):=by
 have hz:=(List.getElem?_eq_some_iff.1 aV).1
 have h1:vu (bl b g) (.aa q 2 0) (ag (sl++ext))=some (decide (g.1=n),ag (sl++(ext++[bA (bl b g)]))):=by
  unfold vu
  simp only[b9,bR,List.append_assoc]
  have z:(sl++(ext++[bA (bl b g)]))[(sl++ext).length]? =some (bA (bl b g)):=by rw[←List.append_assoc];simp
  rw[(jX z).1,Option.bind_some,aS (show V.bm (.aa q 2 0)=true from rfl),show V.add (.aa q 2 0) 0=.aa q 2 0 from rfl]
  rw[(lR (sl:=sl++(ext++[bA (bl b g)])) (id:=q) (x:=(n,a)) (by rw[List.getElem?_append_left hz];exact aV)).1,Option.bind_some]
 simp only[eE,bt,vu.p,eu,e8,List.cons_append,List.nil_append]
 have aa:aj.pack [.agg [.int .i64,.int .i64,.int .i64,.str,.slice],.leaf .ptr] [.agg (Cc (bl b g)),.aa q 2 0]=some (bl b g,(.aa q 2 0:V)):=rfl
 rw[aa,Option.bind_some]
 simp only
 rw[h1]
 rfl
theorem aa4{c:e3}(ao:Sound c):∃l,vG c 0 0=some (l,0):=by
 generalize h6:bI (ae false bT c.1) (ae false aX c.2.1) (ae false aX c.2.2.1) c.2.2.2=C
 have s0:([C]:List Slot)[0]? =some (bI (ae false bT c.1) (ae false aX c.2.1) (ae false aX c.2.2.1) c.2.2.2):=by rw[h6];rfl
 obtain⟨T,m,f1,f2,f3,f4,f5⟩:=Q1 (b:=false) (b2:=false) (c:=c) (R:=ae false aX c.2.2.1) (d:=c.2.2.2) (sl:=[C]) ao
 have t0:T[0]? =some (bI (ae false bT c.1) (ae false aX c.2.1) (ae false aX c.2.2.1) c.2.2.2):=by rw[f5 0 (by simp)];exact s0
 have cy:∀h,bB true h [.int .i64,.int .i64,.int .i64,.str,.row [.str]] (ae false bT c.1)=some c.1:=fun h=>hL rfl
 have dd:∀h,bB true h [.int .i64,.int .i64,.int .i64,.row [.int .i64,.int .i64]] (ae false aX c.2.1)=some c.2.1:=fun h=>pF
 have dF:∀h,bB true h [.int .i64,.int .i64,.int .i64,.row [.int .i64,.int .i64]] (ae false aX c.2.2.1)=some c.2.2.1:=fun h=>pF
 have aq:=ao.pj
 obtain⟨x,aw,xs,U,S,o,rfl,aH⟩:=ft (f:=pO.aZ (ag []) 0 0 (ae false aX c.2.1))
  (Inv:=fun st=>∃(i:Nat) (xs:List Int) (U:List Slot) (S:au) (o:Option Nat),st=((S,(i:Int)),ag U)∧i≤c.2.1.length∧xs.length≤i∧Acc U [.int .i64] xs S o∧(∀id,o=some id→id≠0)∧U[0]? =some (bI (ae false bT c.1) (ae false aX c.2.1) (ae false aX c.2.2.1) c.2.2.2))
  (Post:=fun x=>∃(xs:List Int) (U:List Slot) (S:au) (o:Option Nat),x=(.aP S,ag U)∧Acc U [.int .i64] xs S o) (fun st=>c.2.1.length-st.1.2.toNat) (fun st a6=>by
   obtain⟨i,xs,U,S,o,rfl,hi,uW,eh,a8,jx⟩:=a6
   have lj:=(List.getElem?_eq_some_iff.1 jx).1
   by_cases bn:i<c.2.1.length
   ·left
    have eW:c.2.1[i]? =some c.2.1[i]:=List.getElem?_eq_getElem bn
    obtain⟨y,e,a1,_⟩:=Qk (n:=c.2.1[i].1) (day:=0) ao
    have UH:mr (c.1,c.2.1,c.2.2.1,c.2.2.2) c.2.1[i].1 0=some (y,e):=a1
    have v0:(U++[aA (dY false c.2.1[i])])[0]? =some (bI (ae false bT c.1) (ae false aX c.2.1) (ae false aX c.2.2.1) c.2.2.2):=by rw[List.getElem?_append_left lj];exact jx
    have xu:Acc (U++[aA (dY false c.2.1[i])]) [.int .i64] xs S o:=eh.frame fun id aT=>by subst aT;rw[List.getElem?_append_left eh.lt]
    obtain⟨bc,cK,id,b8,b2,mi,AP,NO⟩:=xu.append (w:=1) (b:=8) (x:=c.2.1[i].1) (vs:=[.int .i64 c.2.1[i].1]) rfl (by omega) (by omega) (by omega) rfl
    have aT:id≠0:=by
     rcases mi with mi|⟨_,mi⟩
     ·exact a8 _ mi
     ·simp at mi;omega
    have key:pO.aZ (ag []) 0 0 (ae false aX c.2.1) ((S,(i:Int)),ag U)=if e=0∧0≤y then some (.more ((bc,((i+1:Nat):Int)),ag cK))else some (.more ((S,((i+1:Nat):Int)),ag (U++[aA (dY false c.2.1[i])]))):=by
     unfold pO.aZ
     simp only[bZ,b9,bR,List.length_nil]
     rw[decide_eq_true (show(i:Int)<(c.2.1.length:Int) by omega),cond_true,aS (by omega),Int.toNat_natCast,vQ eW,Option.bind_some]
     simp only
     rw[show Slot.own [V.int .i64 0,V.int .i64 0,V.int .i64 0,V.slice .nil 0 0 false] 4=aA bX from rfl]
     have w:=jU (sl:=U) (x:=dY false c.2.1[i])
     have bw:=(ic (sl:=U++[aA (dY false c.2.1[i])]) (id:=U.length) (x:=dY false c.2.1[i]) (by simp)).1
     rw[w,Option.bind_some,iH v0,Option.bind_some,bw,Option.bind_some]
     simp only
     rw[cy,Option.bind_some,dd,Option.bind_some,dF,Option.bind_some,UH,Option.bind_some]
     simp only
     by_cases h1:e=0
     ·rw[decide_eq_true h1,cond_true,Option.bind_some]
      by_cases h2:0≤y
      ·rw[if_pos ⟨h1,h2⟩]
       simp only
       rw[decide_eq_true h2,cond_true,bw,Option.bind_some,b8,Option.bind_some,Option.bind_some]
       simp only
       rw[dO (by omega)]
      ·rw[if_neg (fun h=>h2 h.2)]
       simp only
       rw[decide_eq_false h2,cond_false,Option.bind_some]
       simp only
       rw[dO (by omega)]
     ·rw[if_neg (fun h=>h1 h.1),decide_eq_false h1,cond_false,Option.bind_some]
      simp only[cond_false,Option.bind_some]
      rw[dO (by omega)]
    by_cases hh:e=0∧0≤y
    ·rw[if_pos hh]at key
     exact ⟨_,key,⟨i+1,xs++[c.2.1[i].1],cK,bc,some id,rfl,by omega,by simp;omega,b2,(fun da h=>by cases h;exact aT),by rw[NO 0 (fun h=>a8 0 h rfl) (by simp)];exact v0⟩,by simp only[Int.toNat_natCast];omega⟩
    ·rw[if_neg hh]at key
     exact ⟨_,key,⟨i+1,xs,_,S,o,rfl,by omega,by omega,xu,a8,v0⟩,by simp only[Int.toNat_natCast];omega⟩
   ·right
    have:i=c.2.1.length:=by omega
    refine⟨_, ?_,xs,U,S,o,rfl,eh⟩
    unfold pO.aZ
    simp only[bZ]
    rw[decide_eq_false (by omega),cond_false]) bd ((⟨.nil,0,0,false⟩,(0:Int)),ag T) ⟨0,[],T,⟨.nil,0,0,false⟩,none,rfl,Nat.zero_le _,Nat.le_refl _,Acc.nil,(fun _ h=>by cases h),t0⟩ (dj (by show c.2.1.length-0<_;omega))
 refine⟨xs, ?_⟩
 unfold vG pO
 simp only[y3,b9,bR,List.nil_append,List.length_nil,show Slot.own [.slice (ae false bT c.1).a (ae false bT c.1).len (ae false bT c.1).cap (ae false bT c.1).tail,.slice (ae false aX c.2.1).a (ae false aX c.2.1).len (ae false aX c.2.1).cap (ae false aX c.2.1).tail,.slice (ae false aX c.2.2.1).a (ae false aX c.2.2.1).len (ae false aX c.2.2.1).cap (ae false aX c.2.2.1).tail,.int .i64 c.2.2.2] 4=C from h6]
 rw[iH s0,Option.bind_some]
 simp only
 rw[f1,Option.bind_some]
 simp only[Bool.not_true,cond_false]
 rw[show(decide ((0:Int)<0))=false from rfl,show(decide ((300:Int)<0))=false from rfl,show(decide ((100000:Int)<0))=false from rfl]
 simp only[Bool.not_false,cond_true,Option.bind_some,cond_false]
 rw[rr t0,Option.bind_some,aw,Option.bind_some]
 simp only[Option.bind_some,av,az,aB,an.un,aj.un,ai.un]
 have af:cE false (ag U) (.row [.int .i64]) (ab.un .slice S)=some xs:=aH.read rfl
 have kl:∀n:Int,cE false (ag U) (.int .i64) (ab.un (.int .i64) n)=some n:=fun n=>rfl
 rw[af,Option.bind_some,kl,Option.bind_some]
theorem XE{b b2:Bool}{h:H}{sl:List Slot}{p:Nat}{fs:List dV}{L R:au}{d:Int}{xs:List (Int×Int)}(aa:h.next=p)(s0:sl[p]? =some (bI (ae b bT fs) L R d))(hx:∀s∈xs,∃f∈fs,f.1=s.1)(aq:xs.length≤2^20)(j_:fs.length≤2^20):
  ∃aC S o,iter bd (ja.aZ h (ae b2 aD xs)) ((⟨.nil,0,0,false⟩,0),ag sl)=some (.aP S,ag aC)∧Acc aC cR (xs.map fun s=>bl b (eK fs s.1)) S o∧(∀id,o=some id→sl.length≤id)∧sl.length≤aC.length∧∀j,j<sl.length→aC[j]? =sl[j]?:=by
 have jG:=(List.getElem?_eq_some_iff.1 s0).1
 obtain⟨x,aw,aC,S,o,rfl,aH,aW,bq,bU⟩:=ft (f:=ja.aZ h (ae b2 aD xs))
  (Inv:=fun st=>∃(i:Nat) (aC:List Slot) (S:au) (o:Option Nat),st=((S,(i:Int)),ag aC)∧i≤xs.length∧Acc aC cR ((xs.take i).map fun s=>bl b (eK fs s.1)) S o∧(∀id,o=some id→sl.length≤id)∧sl.length≤aC.length∧∀j,j<sl.length→aC[j]? =sl[j]?)
  (Post:=fun x=>∃aC S o,x=(.aP S,ag aC)∧Acc aC cR (xs.map fun s=>bl b (eK fs s.1)) S o∧(∀id,o=some id→sl.length≤id)∧sl.length≤aC.length∧∀j,j<sl.length→aC[j]? =sl[j]?) (fun st=>xs.length-st.1.2.toNat) (fun st a6=>by
   obtain⟨i,T,S,o,rfl,hi,t1,t2,t3,t4⟩:=a6
   by_cases bn:i<xs.length
   ·left
    have eW:xs[i]? =some xs[i]:=List.getElem?_eq_getElem bn
    obtain⟨q,ext,a0,a1⟩:=R8 (T:=ja.tb.t) (v:=.func 89 [.aa T.length 2 0]) (b:=b) (fs:=fs) (n:=xs[i].1) (sl:=T++[a_ xs[i]]) (fun g ext {_} k=>call89 (a:=xs[i].2) rfl (by simp) g ext k) (hx _ (List.getElem_mem bn)) j_
    generalize aQ:bl b (eK fs xs[i].1)=g
    have aV:=(List.getElem?_eq_some_iff.1 a1).1
    have dG:Acc ((T++[a_ xs[i]])++ext) cR ((xs.take i).map fun s=>bl b (eK fs s.1)) S o:=t1.frame fun id aT=>by subst aT;rw[List.append_assoc,List.getElem?_append_left t1.lt]
    obtain⟨bc,cK,id,bL,HH,cY,ai4,kT⟩:=dG.append (w:=5) (b:=64) (x:=g) (vs:=[.int .i64 g.1,.int .i64 g.2.1,.int .i64 g.2.2.1,.str g.2.2.2.1,.slice g.2.2.2.2.a g.2.2.2.2.len g.2.2.2.2.cap g.2.2.2.2.tail]) rfl (by omega) (by rw[List.length_map,List.length_take];omega) (by omega) rfl
    have jx:(T++[a_ xs[i]])[p]? =some (bI (ae b bT fs) L R d):=by rw[List.getElem?_append_left (by omega),t4 p jG];exact s0
    have gi:((T++[a_ xs[i]])++ext)[p]? =some (bI (ae b bT fs) L R d):=by rw[List.getElem?_append_left (by simp;omega)];exact jx
    refine⟨((bc,((i+1:Nat):Int)),ag cK), ?_,⟨i+1,cK,bc,some id,rfl,by omega, ?_,fun da h=>?_,by simp at ai4;omega,fun j aL=>?_⟩,by simp only[Int.toNat_natCast];omega⟩
    ·unfold ja.aZ
     simp only[bZ,b9,bR,aa]
     rw[decide_eq_true (show(i:Int)<(xs.length:Int) by omega),cond_true,aS (by omega),Int.toNat_natCast,yM eW,Option.bind_some]
     rw[nM (x:=xs[i]),Option.bind_some,rq jx,Option.bind_some,a0,Option.bind_some]
     simp only
     rw[rq gi,Option.bind_some,aS (by rw[bZ];omega),Int.toNat_natCast,JY a1,Option.bind_some,aQ]
     rw[bL,Option.bind_some]
     simp only
     rw[dO (by omega)]
    ·rw[List.take_add_one,eW,List.map_append]
     rw[←aQ]at HH
     exact HH
    ·cases h
     rcases cY with cY|⟨_,cY⟩
     ·exact t2 _ cY
     ·simp at cY;omega
    ·rw[kT j (fun h=>by have:=t2 j h;omega) (by simp;omega),List.append_assoc,List.getElem?_append_left (by omega),t4 j aL]
   ·right
    have:i=xs.length:=by omega
    subst this
    rw[List.take_length]at t1
    refine⟨_, ?_,T,S,o,rfl,t1,t2,t3,t4⟩
    unfold ja.aZ
    simp only[bZ]
    rw[decide_eq_false (by omega),cond_false]) bd ((⟨.nil,0,0,false⟩,(0:Int)),ag sl) ⟨0,sl,⟨.nil,0,0,false⟩,none,rfl,Nat.zero_le _,Acc.nil,(fun _ h=>by cases h),Nat.le_refl _,fun _ _=>rfl⟩ (dj (by show xs.length-0<_;omega))
 exact ⟨aC,S,o,aw,aH,aW,bq,bU⟩
theorem ZM{c:e3}{n:Int}{sl:List Slot}(ao:Sound c)(ak:(cL c.2.1 n).2=true):
  ∃aC S o,ja (ae false bT c.1,ae false aX c.2.1,ae false aX c.2.2.1,c.2.2.2) n (ag sl)=some (((cL c.2.1 n).1.1,(cL c.2.1 n).1.2.1,(cL c.2.1 n).1.2.2.1,ae true aD (cL c.2.1 n).1.2.2.2)|>fun x=>(x,S,0),ag aC)∧
   Acc aC cR ((cL c.2.1 n).1.2.2.2.map fun s=>bl false (eK c.1 s.1)) S o∧sl.length≤aC.length∧∀j,j<sl.length→aC[j]? =sl[j]?:=by
 generalize h6:bI (ae false bT c.1) (ae false aX c.2.1) (ae false aX c.2.2.1) c.2.2.2=C
 have fR:∀x∈c.2.1,x.2.2.2.length≤32:=fun x hx=>vE (ao.j5.all x hx).2.2.2.1
 have hq:=B2 c.2.1 n (by have:=ao.pj;omega) fun x hx=>by have:=fR x hx;omega
 have e6:=(sd ak).1
 rcases gS:cL c.2.1 n with⟨⟨f0,f1,f2,f3⟩,rZ⟩
 rw[gS]at hq ak e6
 simp only at ak
 subst ak
 have s0:(sl++[C,aA bX])[sl.length]? =some (bI (ae false bT c.1) (ae false aX c.2.1) (ae false aX c.2.2.1) c.2.2.2):=by rw[h6];simp
 have ai5:((sl++[C,aA bX])++[aA (f0,f1,f2,ae true aD f3)])[sl.length]? =some (bI (ae false bT c.1) (ae false aX c.2.1) (ae false aX c.2.2.1) c.2.2.2):=by rw[List.getElem?_append_left (by simp)];exact s0
 obtain⟨U,S,o,aw,aH,aW,bq,bU⟩:=XE (b2:=true) (h:=ag sl) (sl:=(sl++[C,aA bX])++[aA (f0,f1,f2,ae true aD f3)]) (p:=sl.length) (xs:=f3) bR ai5 (ao.has _ e6) (by have:=fR _ e6;simp only at this;omega) (by have:=ao.f64;omega)
 have ai3:sl.length+3≤U.length:=by simpa using bq
 have v1:U[sl.length+1]? =some (aA bX):=by rw[bU _ (by simp)];simp
 have v2:U[sl.length+2]? =some (aA (f0,f1,f2,ae true aD f3)):=by rw[bU _ (by simp)];simp
 refine⟨U.set (sl.length+1) (aA (f0,f1,f2,ae true aD f3)),S,o, ?_, ?_,by simp;omega,fun j aL=>?_⟩
 ·obtain⟨l,hold⟩:=aa4 ao
  have adA:vG (c.1,c.2.1,c.2.2.1,c.2.2.2) 0 0=some (l,0):=hold
  have cy:∀h,bB true h [.int .i64,.int .i64,.int .i64,.str,.row [.str]] (ae false bT c.1)=some c.1:=fun h=>hL rfl
  have dd:∀h,bB true h [.int .i64,.int .i64,.int .i64,.row [.int .i64,.int .i64]] (ae false aX c.2.1)=some c.2.1:=fun h=>pF
  have dF:∀h,bB true h [.int .i64,.int .i64,.int .i64,.row [.int .i64,.int .i64]] (ae false aX c.2.2.1)=some c.2.2.1:=fun h=>pF
  unfold ja
  simp only[b9,bR]
  simp only[show Slot.own [.slice (ae false bT c.1).a (ae false bT c.1).len (ae false bT c.1).cap (ae false bT c.1).tail,.slice (ae false aX c.2.1).a (ae false aX c.2.1).len (ae false aX c.2.1).cap (ae false aX c.2.1).tail,.slice (ae false aX c.2.2.1).a (ae false aX c.2.2.1).len (ae false aX c.2.2.1).cap (ae false aX c.2.2.1).tail,.int .i64 c.2.2.2] 4=C from h6,show Slot.own [V.int .i64 0,V.int .i64 0,V.int .i64 0,V.slice .nil 0 0 false] 4=aA bX from rfl,List.append_assoc,List.cons_append,List.nil_append,List.length_append,List.length_singleton]
  rw[iH s0,Option.bind_some]
  simp only
  rw[cy,Option.bind_some,dd,Option.bind_some,dF,Option.bind_some,adA,Option.bind_some]
  simp only[decide_true,Bool.not_true,cond_false]
  rw[rr s0,Option.bind_some,dd,Option.bind_some,hq,Option.bind_some]
  simp only[b9,bR,Bool.not_true,cond_false]
  have w:=jU (sl:=sl++[C,aA bX]) (x:=(f0,f1,f2,ae true aD f3))
  simp only[bZ,hg,hf,List.append_assoc,List.cons_append,List.nil_append,List.length_append]at w
  rw[w,Option.bind_some]
  have z:(sl++[C,aA bX,aA (f0,f1,f2,ae true aD f3)])[sl.length+([C,aA bX]:List Slot).length]? =some (aA (f0,f1,f2,ae true aD f3)):=by simp
  rw[(ic z).2.2.2,Option.bind_some]
  simp only[List.append_assoc,List.cons_append,List.nil_append]at aw
  rw[aw,Option.bind_some]
  simp only[List.length_append,List.length_cons,List.length_nil,Nat.zero_add]
  rw[hl v2,Option.bind_some]
  simp only
  rw[rj (y:=(f0,f1,f2,ae true aD f3)) v1,Option.bind_some]
  have gz:(U.set (sl.length+1) (aA (f0,f1,f2,ae true aD f3)))[sl.length+1]? =some (aA (f0,f1,f2,ae true aD f3)):=by rw[List.getElem?_set_self (by omega)]
  rw[hl gz,Option.bind_some]
 ·exact aH.frame fun id aT=>by
   subst aT
   have:=aW id rfl
   simp at this
   rw[List.getElem?_set_ne (by omega)]
 ·rw[List.getElem?_set_ne (by omega),bU j (by simp;omega),List.append_assoc,List.getElem?_append_left aL]
section
variable{α:Type}[DecidableEq α]
def iJ(k:α)(a:Int):List (α×Int)→List (α×Int)
 |[]=>[(k,a)]
 |p::r=>if k=p.1 then(k,p.2+a)::r else p::iJ k a r
def iK(k:α):List (α×Int)→Int
 |[]=>0
 |p::r=>if k=p.1 then p.2 else iK k r
def o2(l:List (α×Int)):Int:=(l.map (·.2)).sum
theorem Q2(k:α)(a:Int):∀l,o2 (iJ k a l)=o2 l+a
 |[]=>by simp[iJ,o2]
 |p::r=>by
  have ih:=Q2 k a r
  unfold o2 at ih⊢
  unfold iJ
  split
  ·simp only[List.map_cons,List.sum_cons];omega
  ·simp only[List.map_cons,List.sum_cons];omega
theorem Jk(k:α)(a:Int):∀l:List (α×Int),∀x,x∈(iJ k a l).map (·.1)↔x=k∨x∈l.map (·.1)
 |[],x=>by simp[iJ]
 |p::r,x=>by
  have ih:=Jk k a r x
  unfold iJ
  split
  ·rename_i h
   simp only[List.map_cons,List.mem_cons]
   rw[←h]
   constructor
   ·exact fun h=>h.elim .inl fun h=> .inr (.inr h)
   ·exact fun h=>h.elim .inl fun h=>h
  ·simp only[List.map_cons,List.mem_cons,ih]
   constructor
   ·rintro(h|h|h)
    ·exact .inr (.inl h)
    ·exact .inl h
    ·exact .inr (.inr h)
   ·rintro(h|h|h)
    ·exact .inr (.inl h)
    ·exact .inl h
    ·exact .inr (.inr h)
theorem PD(k:α)(a:Int):∀l:List (α×Int),(l.map (·.1)).Nodup→((iJ k a l).map (·.1)).Nodup
 |[],_=>by simp[iJ]
 |p::r,h=>by
  rw[List.map_cons,List.nodup_cons]at h
  unfold iJ
  split
  ·rename_i e
   rw[List.map_cons,List.nodup_cons,e]
   exact h
  ·rename_i e
   rw[List.map_cons,List.nodup_cons]
   refine⟨fun hm=>?_,PD k a r h.2⟩
   rcases(Jk k a r p.1).1 hm with h1|h1
   ·exact e h1.symm
   ·exact h.1 h1
theorem Q3(k:α){a:Int}(bD:0≤a):∀l:List (α×Int),(∀p∈l,0≤p.2)→∀p∈iJ k a l,0≤p.2
 |[],_,p,aa=>by simp[iJ]at aa;subst aa;exact bD
 |q::r,h,p,aa=>by
  unfold iJ at aa
  split at aa
  ·rcases List.mem_cons.1 aa with rfl |aa
   ·have:=h q (by simp);simp only;omega
   ·exact h p (by simp[aa])
  ·rcases List.mem_cons.1 aa with rfl |aa
   ·exact h _ (by simp)
   ·exact Q3 k bD r (fun p aa=>h p (by simp[aa])) p aa
theorem JZ(k:α):∀l:List (α×Int),(∀p∈l,0≤p.2)→0≤iK k l∧iK k l≤o2 l
 |[],_=>by simp[iK,o2]
 |q::r,h=>by
  have aO:=h q (by simp)
  have ih:=JZ k r fun p aa=>h p (by simp[aa])
  have ad:o2 (q::r)=q.2+o2 r:=by simp[o2]
  unfold iK
  split
  ·omega
  ·omega
theorem Q4:∀{l:List (α×Int)},(l.map (·.1)).Nodup→(l.map (·.1)).map (fun k=>iK k l)=l.map (·.2)
 |[],_=>rfl
 |p::r,h=>by
  rw[List.map_cons,List.nodup_cons]at h
  have ih:=Q4 h.2
  simp only[List.map_cons]
  congr 1
  ·simp[iK]
  ·rw[←ih]
   refine List.map_congr_left fun k aN=>?_
   rw[iK,if_neg (fun e=>h.1 (by rw[←e];exact aN))]
theorem XF{a b:List Int}(h:a.Perm b):a.sum=b.sum:=by
 induction h with
 |nil=>rfl
 |cons x _ ih=>simp[ih]
 |swap x y l=>simp;omega
 |trans _ _ h1 h2=>exact h1.trans h2
theorem ZN{l:List (α×Int)}{ks:List α}(h:(l.map (·.1)).Nodup)(aa:ks.Perm (l.map (·.1))):(ks.map fun k=>iK k l).sum=o2 l:=by
 rw[XF (aa.map _),Q4 h]
 rfl
end
theorem O2{kt:ai}{β:Type}(x:kt.C)(p:kt.C×β)(l:List (kt.C×β)):gA kt x (p::l)=bif kt.er x p.1 then some 0 else (gA kt x l).map (· +1):=rfl
theorem YN{kt:ai}{β:Type}(x:kt.C)(v:β)(p:kt.C×β)(l:List (kt.C×β)):uJ kt x v (p::l)=bif kt.er x p.1 then(x,v)::l else p::uJ kt x v l:=by
 unfold uJ
 rw[O2]
 cases kt.er x p.1 with
 |true=>rfl
 |false=>
  simp only[cond_false]
  cases gA kt x l with
  |none=>rfl
  |some i=>rfl
theorem YO{kt:ai}{β:Type}(z:β)(x:kt.C)(p:kt.C×β)(l:List (kt.C×β)):p2 kt z x (p::l)=bif kt.er x p.1 then(p.2,true)else p2 kt z x l:=by
 unfold p2
 rw[O2]
 cases kt.er x p.1 with
 |true=>rfl
 |false=>
  simp only[cond_false]
  cases gA kt x l with
  |none=>rfl
  |some i=>rfl
theorem R9(k:ByteArray):∀l:List (ByteArray×Int),(p2 iQ (0:Int) k l).1=iK k l
 |[]=>rfl
 |p::l=>by
  rw[YO (kt:=iQ) (0:Int) k p l]
  have he:ai.er iQ k p.1=decide (k=p.1):=rfl
  unfold iK
  by_cases h:k=p.1
  ·rw[he,decide_eq_true h,if_pos h];rfl
  ·rw[he,decide_eq_false h,if_neg h];exact R9 k l
theorem R_(k:ByteArray)(a:Int):∀l:List (ByteArray×Int),uJ iQ k (iK k l+a) l=iJ k a l
 |[]=>by simp only[iK,iJ];rw[show(0:Int)+a=a by omega];rfl
 |p::l=>by
  rw[YN (kt:=iQ) k _ p l]
  have he:ai.er iQ k p.1=decide (k=p.1):=rfl
  unfold iK iJ
  by_cases h:k=p.1
  ·rw[he,decide_eq_true h,if_pos h,if_pos h];rfl
  ·rw[he,decide_eq_false h,if_neg h,if_neg h]
   simp only[cond_false]
   rw[R_ k a l]
abbrev iL(es:List (ByteArray×Int)):Slot:=.cZ (ho iQ gg es)
theorem SB:∀es:List (ByteArray×Int),zY iQ gg (ho iQ gg es)=some es
 |[]=>rfl
 |e::es=>by
  show(ai.pack iQ (iQ.un e.1)).bind _=_
  have h1:ai.pack iQ (iQ.un e.1)=some e.1:=rfl
  have h2:ai.pack gg (gg.un e.2)=some e.2:=rfl
  rw[h1,Option.bind_some,h2,Option.bind_some]
  have:=SB es
  rw[show es.map (fun p=>(ai.un iQ p.1,ai.un gg p.2))=ho iQ gg es from rfl,this]
  rfl
theorem Kk{sl:List Slot}{m:Nat}{es:List (ByteArray×Int)}(h:sl[m]? =some (iL es)):(ag sl).cZ m iQ gg=some es:=by
 simp only[H.cZ,fO,h,Option.getD_some]
 exact SB es
theorem Sa{sl:List Slot}{m:Nat}{es:List (ByteArray×Int)}(h:sl[m]? =some (iL es))(k:ByteArray):∃b,my (ag sl) m iQ gg (0:Int) k=some (iK k es,b):=by
 unfold my
 rw[Kk h,Option.map_some]
 exact ⟨_,congrArg some (Prod.ext (R9 k es) rfl)⟩
theorem adB{sl:List Slot}{m:Nat}{es:List (ByteArray×Int)}(h:sl[m]? =some (iL es))(k:ByteArray)(a:Int):p3 (ag sl) m iQ gg k (iK k es+a)=some (ag (sl.set m (iL (iJ k a es)))):=by
 unfold p3
 rw[Kk h,Option.map_some,R_,k5 (List.getElem?_eq_some_iff.1 h).1]
theorem aap{sl:List Slot}{b1:List gP}{S:au}{o:Option Nat}{i:Nat}{g:gP}(h:Acc sl cR b1 S o)(hx:b1[i]? =some g):V.bm (V.add S.a (i*5))=true∧ah (.leaf .str) (ag sl) (V.add (V.add S.a (i*5)) 3)=some g.2.2.2.1:=by
 cases o with
 |none=>obtain⟨rfl,_⟩:=h;cases hx
 |some id=>
  obtain⟨h1,rfl,h3⟩:=h
  simp only[fh,kv]
  refine⟨rfl, ?_⟩
  show ah (.leaf .str) (ag sl) (.aa id (b1.length*cR.length) (i*5+3))=_
  rw[JM (ls:=cR) (xs:=b1) (l:=.str) (w:=5) (o:=3) h3 rfl rfl (by omega),hx]
  rfl
def fG(fs:List dV)(xs:List (Int×Int)):List (ByteArray×Int):=xs.foldl (fun es s=>iJ (eK fs s.1).2.2.2.1 s.2 es) []
theorem Ql(fs:List dV)(xs:List (Int×Int))(s:Int×Int):fG fs (xs++[s])=iJ (eK fs s.1).2.2.2.1 s.2 (fG fs xs):=by unfold fG;rw[List.foldl_append];rfl
theorem YP(fs:List dV){xs:List (Int×Int)}{i:Nat}(h:i<xs.length):fG fs (xs.take (i+1))=iJ (eK fs xs[i].1).2.2.2.1 xs[i].2 (fG fs (xs.take i)):=by
 rw[List.take_add_one,List.getElem?_eq_getElem h]
 exact Ql fs _ _
theorem PE(fs:List dV):∀xs:List (Int×Int),(∀s∈xs,0≤s.2)→o2 (fG fs xs)=b0 xs∧((fG fs xs).map (·.1)).Nodup∧(∀p∈fG fs xs,0≤p.2)∧(fG fs xs).length≤xs.length∧∀k∈(fG fs xs).map (·.1),∃s∈xs,k=(eK fs s.1).2.2.2.1:=by
 intro xs
 suffices af4:∀ys:List (Int×Int),(∀s∈ys.reverse,0≤s.2)→o2 (fG fs ys.reverse)=b0 ys.reverse∧((fG fs ys.reverse).map (·.1)).Nodup∧(∀p∈fG fs ys.reverse,0≤p.2)∧(fG fs ys.reverse).length≤ys.reverse.length∧∀k∈(fG fs ys.reverse).map (·.1),∃s∈ys.reverse,k=(eK fs s.1).2.2.2.1 by
  have:=af4 xs.reverse
  rw[List.reverse_reverse]at this
  exact this
 intro ys
 induction ys with
 |nil=>intro _;exact ⟨rfl,List.nodup_nil,(fun p h=>by cases h),Nat.le_refl _,(fun k h=>by cases h)⟩
 |cons s ys ih=>
  intro h
  rw[List.reverse_cons]at h⊢
  obtain⟨h1,h2,h3,aI,ba⟩:=ih fun q aV=>h q (by rw[List.mem_append];exact .inl aV)
  have ad:=h s (by simp)
  rw[Ql]
  refine⟨by rw[Q2,h1];simp[b0],PD _ _ _ h2,Q3 _ ad _ h3, ?_,fun k aN=>?_⟩
  ·have:∀(k:ByteArray) (a:Int) (l:List (ByteArray×Int)),(iJ k a l).length≤l.length+1:=fun k a l=>by
    induction l with
    |nil=>simp[iJ]
    |cons p r ih=>
     unfold iJ
     split
     ·simp
     ·simp only[List.length_cons];omega
   have:=this (eK fs s.1).2.2.2.1 s.2 (fG fs ys.reverse)
   rw[List.length_append,List.length_singleton]
   omega
  ·rcases(Jk _ _ _ k).1 aN with rfl |aN
   ·exact ⟨s,by simp,rfl⟩
   ·obtain⟨q,aV,e⟩:=ba k aN
    exact ⟨q,by rw[List.mem_append];exact .inl aV,e⟩
theorem OH{xs:List (Int×Int)}(h:∀s∈xs,0≤s.2)(i:Nat):b0 (xs.take i)≤b0 xs:=by
 have e:b0 xs=b0 (xs.take i)+b0 (xs.drop i):=by
  unfold b0
  rw[←List.sum_append,←List.map_append,List.take_append_drop]
 have:∀ys:List (Int×Int),(∀s∈ys,0≤s.2)→0≤b0 ys:=fun ys=>by
  induction ys with
  |nil=>intro _;simp[b0]
  |cons y ys ih=>
   intro h
   have h1:=h y (by simp)
   have h2:=ih fun s ad=>h s (by simp[ad])
   unfold b0 at h2⊢
   simp only[List.map_cons,List.sum_cons]
   omega
 have:=this (xs.drop i) fun s ad=>h s (List.mem_of_mem_drop ad)
 omega
theorem YQ{b2:Bool}{h8:H}{sl:List Slot}{m:Nat}{fs:List dV}{xs:List (Int×Int)}{S:au}{o:Option Nat}(hm:h8.next=m)(s1:sl[m]? =some (iL []))(eh:Acc sl cR (xs.map fun s=>bl false (eK fs s.1)) S o)(aa:∀s∈xs,0≤s.2)(o1:b0 xs≤2^60)(aq:xs.length≤2^20):
  ∃ext,iter bd (kW.aZ S h8 (ae b2 aD xs)) (0,ag sl)=some (.aP (),ag (sl.set m (iL (fG fs xs))++ext)):=by
 have fQ:=(List.getElem?_eq_some_iff.1 s1).1
 have pf:S.len=xs.length:=by rw[eh.len,List.length_map]
 have DN:∀id,o=some id→id≠m:=fun id aT e=>by
  subst aT
  have:=eh.2.2
  rw[e,s1]at this
  simp at this
 obtain⟨x,aw,ext,rfl⟩:=ft (f:=kW.aZ S h8 (ae b2 aD xs))
  (Inv:=fun st=>∃(i:Nat) (ext:List Slot),st=((i:Int),ag (sl.set m (iL (fG fs (xs.take i)))++ext))∧i≤xs.length)
  (Post:=fun x=>∃ext,x=(.aP (),ag (sl.set m (iL (fG fs xs))++ext))) (fun st=>xs.length-st.1.toNat) (fun st a6=>by
   obtain⟨i,ext,rfl,hi⟩:=a6
   by_cases bn:i<xs.length
   ·left
    have eW:xs[i]? =some xs[i]:=List.getElem?_eq_getElem bn
    have hy:=List.getElem_mem bn
    have nd:∀s∈xs.take i,0≤s.2:=fun s ad=>aa s (List.mem_of_mem_take ad)
    obtain⟨nr,mc,xJ,H2,H3⟩:=PE fs (xs.take i) nd
    have aU:=JZ (eK fs xs[i].1).2.2.2.1 _ xJ
    have iu:=OH aa i
    have fi:=OH aa (i+1)
    have Av:b0 (xs.take (i+1))=b0 (xs.take i)+xs[i].2:=by
     unfold b0
     rw[List.take_add_one,eW,List.map_append,List.sum_append]
     simp
    have TD:=aa _ hy
    generalize rY:sl.set m (iL (fG fs (xs.take i)))++ext=M
    have EA:(M++[a_ xs[i]])[m]? =some (iL (fG fs (xs.take i))):=by
     rw[←rY,List.append_assoc,List.getElem?_append_left (by simpa using fQ),List.getElem?_set_self fQ]
    have dG:Acc (M++[a_ xs[i]]) cR (xs.map fun s=>bl false (eK fs s.1)) S o:=by
     rw[←rY,List.append_assoc]
     exact eh.frame fun id aT=>by
      subst aT
      rw[List.getElem?_append_left (by simpa using eh.lt),List.getElem?_set_ne (Ne.symm (DN id rfl))]
    obtain⟨bw,bJ⟩:=aap dG (i:=i) (g:=bl false (eK fs xs[i].1)) (by rw[List.getElem?_map,eW];rfl)
    obtain⟨kQ,xr⟩:=Sa EA (eK fs xs[i].1).2.2.2.1
    have a6:=adB EA (eK fs xs[i].1).2.2.2.1 xs[i].2
    refine⟨(((i+1:Nat):Int),ag (sl.set m (iL (fG fs (xs.take (i+1))))++(ext++[a_ xs[i]]))), ?_,⟨i+1,_,rfl,by omega⟩,by simp only[Int.toNat_natCast];omega⟩
    unfold kW.aZ
    simp only[bZ,b9,bR,gk,pf,hm]
    rw[decide_eq_true (show(i:Int)<(xs.length:Int) by omega),cond_true,aS (by omega),Int.toNat_natCast,yM eW,Option.bind_some]
    rw[nM (sl:=M) (x:=xs[i]),Option.bind_some,aS (by omega),aS bw,bJ,Option.bind_some,xr,Option.bind_some]
    simp only
    rw[(lR (sl:=M++[a_ xs[i]]) (id:=M.length) (x:=xs[i]) (by simp)).2,Option.bind_some]
    rw[IntWalk.i64_in _ (by omega)]
    rw[a6,Option.bind_some,dO (by omega)]
    rw[←YP fs bn,←rY,List.append_assoc,List.set_append_left _ _ (by simpa using fQ),List.set_set]
   ·right
    have:i=xs.length:=by omega
    subst this
    refine⟨_, ?_,ext,rfl⟩
    unfold kW.aZ
    simp only[bZ]
    rw[decide_eq_false (by omega),cond_false,List.take_length]) bd ((0:Int),ag sl) ⟨0,[],by rw[List.append_nil,List.take_zero];show _=((0:Int),ag (sl.set m (iL [])));rw[oL s1],Nat.zero_le _⟩ (dj (by show xs.length-0<_;omega))
 exact ⟨ext,aw⟩
theorem RA{f:Bool}{h:H}{xs:List ByteArray}{i:Nat}{x:ByteArray}(hx:xs[i]? =some x):ah (.leaf .str) h ((ae f [.str] xs).a.add (i*1))=some x:=by
 rw[FT (w:=1) (ls:=[.str]) (xs:=xs) rfl (by omega),hx]
 rfl
theorem YR{h8:H}{sl:List Slot}{m:Nat}{es:List (ByteArray×Int)}{ks:List ByteArray}(hm:h8.next=m)(s1:sl[m]? =some (iL es))(aq:ks.length≤2^20):
  ∃aC S o,iter bd (kW.cl h8 (ae true [.str] ks)) ((⟨.nil,0,0,false⟩,0),ag sl)=some (.aP S,ag aC)∧Acc aC [.int .i64] (ks.map fun k=>iK k es) S o:=by
 have fQ:=(List.getElem?_eq_some_iff.1 s1).1
 obtain⟨x,aw,aC,S,o,rfl,aH⟩:=ft (f:=kW.cl h8 (ae true [.str] ks))
  (Inv:=fun st=>∃(i:Nat) (aC:List Slot) (S:au) (o:Option Nat),st=((S,(i:Int)),ag aC)∧i≤ks.length∧Acc aC [.int .i64] ((ks.take i).map fun k=>iK k es) S o∧(∀id,o=some id→id≠m)∧aC[m]? =some (iL es))
  (Post:=fun x=>∃aC S o,x=(.aP S,ag aC)∧Acc aC [.int .i64] (ks.map fun k=>iK k es) S o) (fun st=>ks.length-st.1.2.toNat) (fun st a6=>by
   obtain⟨i,T,S,o,rfl,hi,t1,t2,t3⟩:=a6
   have pe:=(List.getElem?_eq_some_iff.1 t3).1
   by_cases bn:i<ks.length
   ·left
    have eW:ks[i]? =some ks[i]:=List.getElem?_eq_getElem bn
    obtain⟨kQ,xr⟩:=Sa t3 ks[i]
    obtain⟨bc,cK,id,a1,a2,a3,a4,a5⟩:=t1.append (w:=1) (b:=8) (x:=iK ks[i] es) (vs:=[.int .i64 (iK ks[i] es)]) rfl (by omega) (by rw[List.length_map,List.length_take];omega) (by omega) rfl
    refine⟨((bc,((i+1:Nat):Int)),ag cK), ?_,⟨i+1,cK,bc,some id,rfl,by omega, ?_,fun da h=>?_,by rw[a5 m (fun h=>t2 m h rfl) pe];exact t3⟩,by simp only[Int.toNat_natCast];omega⟩
    ·unfold kW.cl
     simp only[bZ,hm]
     rw[decide_eq_true (show(i:Int)<(ks.length:Int) by omega),cond_true,aS (by omega),Int.toNat_natCast,RA eW,Option.bind_some,xr,Option.bind_some]
     simp only
     rw[a1,Option.bind_some]
     simp only
     rw[dO (by omega)]
    ·rw[List.take_add_one,eW,List.map_append]
     exact a2
    ·cases h
     rcases a3 with a3|⟨_,a3⟩
     ·exact t2 _ a3
     ·omega
   ·right
    have:i=ks.length:=by omega
    subst this
    rw[List.take_length]at t1
    refine⟨_, ?_,T,S,o,rfl,t1⟩
    unfold kW.cl
    simp only[bZ]
    rw[decide_eq_false (by omega),cond_false]) bd ((⟨.nil,0,0,false⟩,(0:Int)),ag sl) ⟨0,sl,⟨.nil,0,0,false⟩,none,rfl,Nat.zero_le _,Acc.nil,(fun _ h=>by cases h),s1⟩ (dj (by show ks.length-0<_;omega))
 exact ⟨aC,S,o,aw,aH⟩
theorem XG(l:List ByteArray):(lQ l).Perm l:=by
 unfold lQ
 have h:=(List.mergeSort_perm (l.map bytesOf) leB).map y0
 rw[List.map_map]at h
 have e:l.map (y0∘bytesOf)=l:=by
  rw[show(y0∘bytesOf:ByteArray→ByteArray)=id from funext fun x=>by cases x;simp[y0,bytesOf]]
  exact List.map_id _
 rw[e]at h
 exact h
theorem XH{c:e3}{n:Int}(ao:Sound c)(ak:(cL c.2.1 n).2=true):∃names uO,tW c n=some (names,uO,0)∧uO.sum=b0 (cL c.2.1 n).1.2.2.2∧(∀v∈uO,0≤v)∧uO.length≤32:=by
 generalize h6:bI (ae false bT c.1) (ae false aX c.2.1) (ae false aX c.2.2.1) c.2.2.2=C
 have s0:([C]:List Slot)[0]? =some (bI (ae false bT c.1) (ae false aX c.2.1) (ae false aX c.2.2.1) c.2.2.2):=by rw[h6];rfl
 obtain⟨U,S,o,aw,aH,aW,bq⟩:=ZM (sl:=[C]) ao ak
 have e6:=(sd ak).1
 obtain⟨aT,ji⟩:=ao.j5.all _ e6
 obtain⟨hlen,_,Mc,SC⟩:=mo ji.2.2.1
 rcases gS:(cL c.2.1 n).1 with⟨f0,f1,f2,f3⟩
 rw[gS]at aw aH hlen Mc SC e6
 simp only at aw aH hlen Mc SC
 have gD:∀s∈f3,0≤s.2:=fun s ad=>by
  have:=Mc s ad
  simp only[kM,Bool.and_eq_true,decide_eq_true_eq]at this
  omega
 have uW:∀s∈f3,∃f∈c.1,f.1=s.1:=fun s ad=>ao.has _ e6 s ad
 have s1:((U++[aA (f0,f1,f2,ae true aD f3)])++[iL []])[U.length+1]? =some (iL []):=by rw[show U.length+1=(U++[aA (f0,f1,f2,ae true aD f3)]).length by simp];exact List.getElem?_concat_length
 have eh:Acc ((U++[aA (f0,f1,f2,ae true aD f3)])++[iL []]) cR (f3.map fun s=>bl false (eK c.1 s.1)) S o:=by
  rw[List.append_assoc]
  exact aH.frame fun id aT=>by subst aT;rw[List.getElem?_append_left aH.lt]
 obtain⟨ext,fo⟩:=YQ (b2:=true) (h8:=ag (U++[aA (f0,f1,f2,ae true aD f3)])) (m:=U.length+1) (fs:=c.1) (by rw[bR];simp) s1 eh gD (by omega) (by omega)
 generalize rY:((U++[aA (f0,f1,f2,ae true aD f3)])++[iL []]).set (U.length+1) (iL (fG c.1 f3))++ext=M at fo
 have EA:M[U.length+1]? =some (iL (fG c.1 f3)):=by
  rw[←rY,List.getElem?_append_left (by simp),List.getElem?_set_self (by simp)]
 have ai6:=(List.getElem?_eq_some_iff.1 EA).1
 obtain⟨nr,mc,xJ,H2,H3⟩:=PE c.1 f3 gD
 have iy:(M++[Slot.own [.map (some (U.length+1))] 1])[M.length]? =some (.own [.map (some (U.length+1))] 1):=by simp
 have Th:(M++[Slot.own [.map (some (U.length+1))] 1])[U.length+1]? =some (iL (fG c.1 f3)):=by rw[List.getElem?_append_left ai6];exact EA
 have Nw:=XG ((fG c.1 f3).map (·.1))
 obtain⟨W,xI,ak7,jv,jw⟩:=YR (h8:=ag (U++[aA (f0,f1,f2,ae true aD f3)])) (m:=U.length+1) (ks:=lQ ((fG c.1 f3).map (·.1))) (by rw[bR];simp) Th (by rw[Nw.length_eq,List.length_map];omega)
 have nO:nz (.func 92 [.aa M.length 1 0]) (ag (M++[Slot.own [.map (some (U.length+1))] 1]))=some (ae true [.str] (lQ ((fG c.1 f3).map (·.1))),ag (M++[Slot.own [.map (some (U.length+1))] 1])):=by
  unfold nz
  simp only[fO,iy,Option.getD_some]
  rw[Kk Th,Option.bind_some]
  unfold yG
  rw[aS ⟨by omega,mc,fun x hx=>by
   obtain⟨s,ad,rfl⟩:=H3 x hx
   have:=(ao.ph _ (Fq (uW s ad)).1).2.1
   unfold maxLen
   omega⟩]
 refine⟨lQ ((fG c.1 f3).map (·.1)),(lQ ((fG c.1 f3).map (·.1))).map fun k=>iK k (fG c.1 f3), ?_,by rw[ZN mc Nw];exact nr,fun v aU=>by
  obtain⟨k,_,rfl⟩:=List.mem_map.1 aU
  exact (JZ k _ xJ).1,by rw[List.length_map,Nw.length_eq,List.length_map];omega⟩
 unfold tW kW AV
 simp only[y3,b9,bR,List.nil_append,List.length_nil,show Slot.own [.slice (ae false bT c.1).a (ae false bT c.1).len (ae false bT c.1).cap (ae false bT c.1).tail,.slice (ae false aX c.2.1).a (ae false aX c.2.1).len (ae false aX c.2.1).cap (ae false aX c.2.1).tail,.slice (ae false aX c.2.2.1).a (ae false aX c.2.2.1).len (ae false aX c.2.2.1).cap (ae false aX c.2.2.1).tail,.int .i64 c.2.2.2] 4=C from h6]
 rw[iH s0,Option.bind_some]
 simp only
 rw[aw,Option.bind_some]
 simp only[b9,bR,vM,decide_true,Bool.not_true,cond_false,show Slot.own [V.int .i64 0,V.int .i64 0,V.int .i64 0,V.slice .nil 0 0 false] 4=aA bX from rfl,show Slot.cZ []=iL []from rfl]
 have w:=jU (sl:=U) (x:=(f0,f1,f2,ae true aD f3))
 rw[w,Option.bind_some]
 simp only[b9,bR,vM]
 have z:((U++[aA (f0,f1,f2,ae true aD f3)])++[iL []])[U.length]? =some (aA (f0,f1,f2,ae true aD f3)):=by rw[List.append_assoc];simp
 rw[(ic z).2.2.2,Option.bind_some,fo,Option.bind_some]
 simp only[b9,bR,Option.bind_some,List.length_append,List.length_singleton]
 rw[nO,Option.bind_some]
 simp only
 rw[jv,Option.bind_some,Option.bind_some]
 simp only[Option.bind_some,av,az,aB,an.un,aj.un,ai.un]
 have rK:cE false (ag W) (.row [.str]) (ab.un .slice (ae true [.str] (lQ ((fG c.1 f3).map (·.1)))))=some (lQ ((fG c.1 f3).map (·.1))):=jb rfl
 have nh:cE false (ag W) (.row [.int .i64]) (ab.un .slice xI)=some ((lQ ((fG c.1 f3).map (·.1))).map fun k=>iK k (fG c.1 f3)):=jw.read rfl
 have kl:∀n:Int,cE false (ag W) (.int .i64) (ab.un (.int .i64) n)=some n:=fun n=>rfl
 rw[rK,Option.bind_some,nh,Option.bind_some,kl,Option.bind_some]
 rfl
theorem ZO:xS=some true:=rfl
theorem ZP{sl:List Slot}{n:Nat}(aM:n≤2^30):xM ⟨.nil,0,0,false⟩ (n:Int) (ag sl)=if n=0 then some (⟨.nil,0,0,false⟩,ag sl)else some (⟨.aa sl.length (n*4) 0,0,n,true⟩,ag (sl++[.own (eI [.int .i64 0,.int .i64 0,.int .i64 0,.slice .nil 0 0 false] n) 4])):=by
 unfold xM
 rw[decide_eq_false (show ¬(n:Int)<0 by omega)]
 try simp -implicitDefEqProofs only[aF,reduceIte,av,az,aB,ax,an.un,aj.un,ai.un,LT.un,ab.un,ab.plain,LT.plain,Int.toNat_zero,Nat.sub_self]
 rw[show IntKind.wrap .i64 (((0:Nat):Int)-((0:Nat):Int))=0 from rfl,show(n:Int)-0=(n:Int) by omega,uk (by omega)]
 by_cases aO:n=0
 ·subst aO
  rw[if_pos rfl,decide_eq_false (show ¬(0:Int)<((0:Nat):Int) by omega)]
  try simp -implicitDefEqProofs only[aF,reduceIte,av,az,aB,ax,an.un,aj.un,ai.un,LT.un,ab.un,ab.plain,LT.plain]
 ·rw[if_neg aO,decide_eq_true (show(0:Int)<(n:Int) by omega)]
  try simp -implicitDefEqProofs only[aF,reduceIte,av,az,aB,ax,an.un,aj.un,ai.un,LT.un,ab.un,ab.plain,LT.plain]
  rw[aS (by omega),aS ⟨by omega,by unfold ei;omega,by omega⟩,Int.toNat_natCast]
  try simp -implicitDefEqProofs only[aF,reduceIte,av,az,aB,ax,an.un,aj.un,ai.un,LT.un,ab.un,ab.plain,LT.plain]
  simp only[c7,iF,V.add,newAt]
  rw[if_neg aO,aS ⟨by unfold ei;omega,by omega⟩,if_pos ⟨trivial,trivial,rfl⟩,b9,bR]
  try simp -implicitDefEqProofs only[aF,reduceIte,av,az,aB,ax,an.un,aj.un,ai.un,LT.un,ab.un,ab.plain,LT.plain]
  rw[aS (by omega)]
  try simp -implicitDefEqProofs only[aF,reduceIte,av,az,aB,ax,an.un,aj.un,ai.un,LT.un,ab.un,ab.plain,LT.plain]
  rfl
theorem Qm{h:H}{xs:List bK}:cellsOf h (.slice (ae true aX xs).a xs.length xs.length true) 4=some (xs.length,bx aX xs):=by
 have e:(ae true aX xs).a=.lp true (bx aX xs) 0:=rfl
 have hlen:(bx aX xs).length=xs.length*4:=hK (ls:=aX) xs
 unfold cellsOf
 by_cases aO:xs.length=0
 ·have:xs=[]:=List.eq_nil_of_length_eq_zero aO
  subst this
  rfl
 ·simp only
  rw[if_neg aO,e]
  simp only[H.fv,H.from,Option.bind_some,List.drop_zero]
  rw[if_pos ⟨by omega,by omega⟩,List.take_of_length_le (by omega)]
  rfl
theorem XI{sl:List Slot}(xs ys:List bK)(aq:xs.length+ys.length≤2^30):
  ∃s ext o,kn ⟨.lp true [.slice (ae true aX xs).a xs.length xs.length true,.slice (ae true aX ys).a ys.length ys.length true] 0,2,2,false⟩ (ag sl)=some (s,ag (sl++ext))∧Acc (sl++ext) aX (xs++ys) s o∧∀id,o=some id→sl.length≤id:=by
 have eh:(V.add (V.lp true [.slice (ae true aX xs).a xs.length xs.length true,.slice (ae true aX ys).a ys.length ys.length true] 0) (0*1))=V.lp true [.slice (ae true aX xs).a xs.length xs.length true,.slice (ae true aX ys).a ys.length ys.length true] 0:=rfl
 have dp:∀h:H,ah (.leaf .slice) h (V.add (V.lp true [.slice (ae true aX xs).a xs.length xs.length true,.slice (ae true aX ys).a ys.length ys.length true] 0) (0*1))=some ⟨(ae true aX xs).a,xs.length,xs.length,true⟩:=fun h=>rfl
 have bw:∀h:H,ah (.leaf .slice) h (V.add (V.lp true [.slice (ae true aX xs).a xs.length xs.length true,.slice (ae true aX ys).a ys.length ys.length true] 0) (1*1))=some ⟨(ae true aX ys).a,ys.length,ys.length,true⟩:=fun h=>rfl
 have w1:IntKind.wrap .i64 ((0:Int)+(xs.length:Int))=(xs.length:Int):=by rw[i64_in _ (by omega)];omega
 have w2:IntKind.wrap .i64 ((xs.length:Int)+(ys.length:Int))=((xs.length+ys.length:Nat):Int):=by rw[i64_in _ (by omega)];omega
 have iA:IntKind.wrap .i64 ((0:Int)+1)=1:=rfl
 have mQ:IntKind.wrap .i64 ((1:Int)+1)=2:=rfl
 have iO:Int.toNat 0=0:=rfl
 have bL:Int.toNat 1=1:=rfl
 unfold kn
 have qL:iter bd (kn.aZ ⟨.lp true [.slice (ae true aX xs).a xs.length xs.length true,.slice (ae true aX ys).a ys.length ys.length true] 0,2,2,false⟩) ((0,0),ag sl)=some (.aP (((xs.length+ys.length:Nat):Int)),ag sl):=by
  refine kr (s0:=((0,0),ag sl)) (fun i=>((uG (0:Int) (xs.length:Int) ((xs.length+ys.length:Nat):Int) i,(i:Int)),ag sl)) rfl 2 bd (fun i hi=>?_) ?_ (dj (by omega))
  ·obtain rfl |rfl:i=0∨i=1:=by omega
   ·unfold kn.aZ
    try simp -implicitDefEqProofs only[aF,reduceIte,av,az,aB,ax,an.un,aj.un,ai.un,LT.un,ab.un,ab.plain,LT.plain]
    rw[decide_eq_true (show(((0:Nat):Int)<((2:Nat):Int)) by omega),cond_true,aS (by omega)]
    rw[show Int.toNat (((0:Nat):Int))=0 from rfl,dp]
    try simp -implicitDefEqProofs only[aF,reduceIte,av,az,aB,ax,an.un,aj.un,ai.un,LT.un,ab.un,ab.plain,LT.plain]
    rw[yH,w1,decide_eq_false (show ¬(xs.length:Int)<0 by omega)]
    try simp -implicitDefEqProofs only[aF,reduceIte,av,az,aB,ax,an.un,aj.un,ai.un,LT.un,ab.un,ab.plain,LT.plain]
    rfl
   ·unfold kn.aZ
    try simp -implicitDefEqProofs only[aF,reduceIte,av,az,aB,ax,an.un,aj.un,ai.un,LT.un,ab.un,ab.plain,LT.plain]
    rw[decide_eq_true (show(((1:Nat):Int)<((2:Nat):Int)) by omega),cond_true,aS (by omega)]
    rw[show Int.toNat (((1:Nat):Int))=1 from rfl,bw]
    try simp -implicitDefEqProofs only[aF,reduceIte,av,az,aB,ax,an.un,aj.un,ai.un,LT.un,ab.un,ab.plain,LT.plain]
    rw[yI,w2,decide_eq_false (show ¬((xs.length+ys.length:Nat):Int)<0 by omega)]
    try simp -implicitDefEqProofs only[aF,reduceIte,av,az,aB,ax,an.un,aj.un,ai.un,LT.un,ab.un,ab.plain,LT.plain]
    rfl
  ·unfold kn.aZ
   try simp -implicitDefEqProofs only[aF,reduceIte,av,az,aB,ax,an.un,aj.un,ai.un,LT.un,ab.un,ab.plain,LT.plain]
   rw[decide_eq_false (show ¬(((2:Nat):Int)<((2:Nat):Int)) by omega),cond_false]
   rfl
 rw[qL]
 try simp -implicitDefEqProofs only[aF,reduceIte,av,az,aB,ax,an.un,aj.un,ai.un,LT.un,ab.un,ab.plain,LT.plain]
 rw[ZP aq]
 have hx:∀h,cellsOf h (.slice (ae true aX xs).a xs.length xs.length true) 4=some (xs.length,bx aX xs):=fun h=>Qm
 have aK:∀h,cellsOf h (.slice (ae true aX ys).a ys.length ys.length true) 4=some (ys.length,bx aX ys):=fun h=>Qm
 have gY:(bx aX xs).length=xs.length*4:=hK (ls:=aX) xs
 have h5:(bx aX ys).length=ys.length*4:=hK (ls:=aX) ys
 have key:∀(t0 t1 t2:au×List Slot),c7 (ag t0.2) none 4 48 t0.1 (bx aX xs) xs.length=some (t1.1,ag t1.2)→c7 (ag t1.2) none 4 48 t1.1 (bx aX ys) ys.length=some (t2.1,ag t2.2)→
   iter bd (kn.cl ⟨.lp true [.slice (ae true aX xs).a xs.length xs.length true,.slice (ae true aX ys).a ys.length ys.length true] 0,2,2,false⟩) ((t0.1,0),ag t0.2)=some (.aP t2.1,ag t2.2):=fun t0 t1 t2 h1 h2=>by
  refine kr (s0:=((t0.1,0),ag t0.2)) (fun i=>((uG t0.1 t1.1 t2.1 i,(i:Int)),ag (uG t0.2 t1.2 t2.2 i))) rfl 2 bd (fun i hi=>?_) ?_ (dj (by omega))
  ·obtain rfl |rfl:i=0∨i=1:=by omega
   ·unfold kn.cl
    try simp -implicitDefEqProofs only[aF,reduceIte,av,az,aB,ax,an.un,aj.un,ai.un,LT.un,ab.un,ab.plain,LT.plain]
    rw[decide_eq_true (show(((0:Nat):Int)<((2:Nat):Int)) by omega),cond_true,aS (by omega)]
    rw[show Int.toNat (((0:Nat):Int))=0 from rfl,dp]
    try simp -implicitDefEqProofs only[aF,reduceIte,av,az,aB,ax,an.un,aj.un,ai.un,LT.un,ab.un,ab.plain,LT.plain]
    rw[hx]
    try simp -implicitDefEqProofs only[aF,reduceIte,av,az,aB,ax,an.un,aj.un,ai.un,LT.un,ab.un,ab.plain,LT.plain]
    rw[yH,yH,h1]
    try simp -implicitDefEqProofs only[aF,reduceIte,av,az,aB,ax,an.un,aj.un,ai.un,LT.un,ab.un,ab.plain,LT.plain]
    rfl
   ·unfold kn.cl
    try simp -implicitDefEqProofs only[aF,reduceIte,av,az,aB,ax,an.un,aj.un,ai.un,LT.un,ab.un,ab.plain,LT.plain]
    rw[decide_eq_true (show(((1:Nat):Int)<((2:Nat):Int)) by omega),cond_true,aS (by omega)]
    rw[show Int.toNat (((1:Nat):Int))=1 from rfl,bw]
    try simp -implicitDefEqProofs only[aF,reduceIte,av,az,aB,ax,an.un,aj.un,ai.un,LT.un,ab.un,ab.plain,LT.plain]
    rw[aK]
    try simp -implicitDefEqProofs only[aF,reduceIte,av,az,aB,ax,an.un,aj.un,ai.un,LT.un,ab.un,ab.plain,LT.plain]
    rw[yI,yI,h2]
    try simp -implicitDefEqProofs only[aF,reduceIte,av,az,aB,ax,an.un,aj.un,ai.un,LT.un,ab.un,ab.plain,LT.plain]
    rfl
  ·unfold kn.cl
   try simp -implicitDefEqProofs only[aF,reduceIte,av,az,aB,ax,an.un,aj.un,ai.un,LT.un,ab.un,ab.plain,LT.plain]
   rw[decide_eq_false (show ¬(((2:Nat):Int)<((2:Nat):Int)) by omega),cond_false]
   rfl
 by_cases aO:xs.length+ys.length=0
 ·have Nh:xs=[]:=List.eq_nil_of_length_eq_zero (by omega)
  have wY:ys=[]:=List.eq_nil_of_length_eq_zero (by omega)
  subst Nh wY
  rw[if_pos (show([]:List bK).length+([]:List bK).length=0 from rfl)]
  try simp -implicitDefEqProofs only[aF,reduceIte,av,az,aB,ax,an.un,aj.un,ai.un,LT.un,ab.un,ab.plain,LT.plain]
  rw[key (⟨.nil,0,0,false⟩,sl) (⟨.nil,0,0,false⟩,sl) (⟨.nil,0,0,false⟩,sl) rfl rfl]
  try simp -implicitDefEqProofs only[aF,reduceIte,av,az,aB,ax,an.un,aj.un,ai.un,LT.un,ab.un,ab.plain,LT.plain]
  exact ⟨⟨.nil,0,0,false⟩,[],none,by rw[List.append_nil],⟨rfl,.inl rfl⟩,fun _ h=>by cases h⟩
 ·rw[if_neg aO]
  try simp -implicitDefEqProofs only[aF,reduceIte,av,az,aB,ax,an.un,aj.un,ai.un,LT.un,ab.un,ab.plain,LT.plain]
  have s0:(sl++[Slot.own (eI [.int .i64 0,.int .i64 0,.int .i64 0,.slice .nil 0 0 false] (xs.length+ys.length)) 4])[sl.length]? =some (.own (eI [.int .i64 0,.int .i64 0,.int .i64 0,.slice .nil 0 0 false] (xs.length+ys.length)) 4):=by simp
  have a1:=E9 (b:=48) (a:=0) s0 (vi _ _) gY (by omega) (by omega) (by omega)
  have s1:((sl++[Slot.own (eI [.int .i64 0,.int .i64 0,.int .i64 0,.slice .nil 0 0 false] (xs.length+ys.length)) 4]).set sl.length (.own (Ev.splice (eI [.int .i64 0,.int .i64 0,.int .i64 0,.slice .nil 0 0 false] (xs.length+ys.length)) (0*4) (bx aX xs)) 4))[sl.length]? =some (.own (Ev.splice (eI [.int .i64 0,.int .i64 0,.int .i64 0,.slice .nil 0 0 false] (xs.length+ys.length)) (0*4) (bx aX xs)) 4):=by rw[List.getElem?_set_self (by simp)]
  have ga:(eI [V.int .i64 0,V.int .i64 0,V.int .i64 0,V.slice .nil 0 0 false] (xs.length+ys.length)).length=(xs.length+ys.length)*4:=vi _ _
  have a2:=E9 (b:=48) (a:=0+xs.length) s1 (n:=xs.length+ys.length) (by simp only[Ev.splice,List.length_append,List.length_take,List.length_drop,ga,gY];omega) h5 (by omega) (by omega) (by omega)
  rw[key (_,_) (_,_) (_,_) a1 a2]
  try simp -implicitDefEqProofs only[aF,reduceIte,av,az,aB,ax,an.un,aj.un,ai.un,LT.un,ab.un,ab.plain,LT.plain]
  have KP:Ev.splice (Ev.splice (eI [V.int .i64 0,V.int .i64 0,V.int .i64 0,V.slice .nil 0 0 false] (xs.length+ys.length)) (0*4) (bx aX xs)) ((0+xs.length)*4) (bx aX ys)=bx aX (xs++ys):=by
   simp only[Ev.splice,Nat.zero_mul,List.take_zero,List.nil_append,Nat.zero_add]
   rw[←gY,List.take_left' rfl,List.drop_eq_nil_of_le (by rw[List.length_append,List.length_drop,ga,gY,h5];omega),List.append_nil]
   unfold bx
   rw[List.flatMap_append]
  rw[KP,List.set_set,List.set_append_right _ _ (Nat.le_refl _),Nat.sub_self]
  simp only[List.set_cons_zero]
  refine⟨_,[Slot.own (bx aX (xs++ys)) 4],some sl.length,rfl,⟨by simp only[List.length_append];omega, ?_, ?_⟩,fun id h=>by cases h;exact Nat.le_refl _⟩
  ·simp only[fh,List.length_append,Nat.zero_add]
   rfl
  ·simp
theorem XJ(k:Int)(xs:List (Int×Int))(s:Int×Int):dS k (xs++[s])=dS k xs+if s.1=k then s.2 else 0:=by
 unfold dS
 rw[List.filter_append,List.map_append,List.sum_append]
 by_cases h:s.1=k
 ·rw[if_pos h,List.filter_cons,if_pos (decide_eq_true h)];simp
 ·rw[if_neg h,List.filter_cons,if_neg (by simpa using h)];simp
theorem YS{h9:H}{sl:List Slot}{m:Nat}{es:List (Int×Int)}{g:Int→Int}{xs:List (Int×Int)}(hm:h9.next=m)(s1:sl[m]? =some (.dk .i64 .i64 es))(aQ:∀k,(getM k es).getD 0=g k)(aE:∀k,0≤g k∧g k≤4000000000000000000)(hx:∀x∈xs,0≤x.2∧x.2≤1000000000000000)(aq:xs.length≤64):
  ∃aC fx,iter bd (ec.aZ h9 (ae true aD xs)) (0,ag sl)=some (.aP (),ag aC)∧aC[m]? =some (.dk .i64 .i64 fx)∧(∀k,(getM k fx).getD 0=g k+dS k xs)∧sl.length≤aC.length∧∀j,j≠m→j<sl.length→aC[j]? =sl[j]?:=by
 have fQ:=(List.getElem?_eq_some_iff.1 s1).1
 obtain⟨x,aw,aC,fx,rfl,aH,aW,bq,bU⟩:=ft (f:=ec.aZ h9 (ae true aD xs))
  (Inv:=fun st=>∃(i:Nat) (aC:List Slot) (fx:List (Int×Int)),st=((i:Int),ag aC)∧i≤xs.length∧aC[m]? =some (.dk .i64 .i64 fx)∧(∀k,(getM k fx).getD 0=g k+dS k (xs.take i))∧sl.length≤aC.length∧∀j,j≠m→j<sl.length→aC[j]? =sl[j]?)
  (Post:=fun x=>∃aC fx,x=(.aP (),ag aC)∧aC[m]? =some (.dk .i64 .i64 fx)∧(∀k,(getM k fx).getD 0=g k+dS k xs)∧sl.length≤aC.length∧∀j,j≠m→j<sl.length→aC[j]? =sl[j]?) (fun st=>xs.length-st.1.toNat) (fun st a6=>by
   obtain⟨i,T,fx,rfl,hi,t1,t2,t3,t4⟩:=a6
   have pe:=(List.getElem?_eq_some_iff.1 t1).1
   by_cases bn:i<xs.length
   ·left
    have eW:xs[i]? =some xs[i]:=List.getElem?_eq_getElem bn
    have u6:=hx _ (List.getElem_mem bn)
    have ai7:=E_ xs[i].1 (xs.take i) fun z bH=>hx z (List.mem_of_mem_take bH)
    rw[List.length_take,Nat.min_eq_left (by omega)]at ai7
    have Hm:=aE xs[i].1
    have bk:=t2 xs[i].1
    have gi:(T++[a_ xs[i]])[m]? =some (.dk .i64 .i64 fx):=by rw[List.getElem?_append_left pe];exact t1
    have r:=lR (sl:=T++[a_ xs[i]]) (id:=T.length) (x:=xs[i]) (by simp)
    refine⟨(((i+1:Nat):Int),ag ((T++[a_ xs[i]]).set m (.dk .i64 .i64 (iR xs[i].1 ((getM xs[i].1 fx).getD 0+xs[i].2) fx)))), ?_,⟨i+1,_,_,rfl,by omega,List.getElem?_set_self (by simp;omega),fun k=>?_,by simp;omega,fun j aL dJ=>by rw[List.getElem?_set_ne (Ne.symm aL),List.getElem?_append_left (by omega),t4 j aL dJ]⟩,by simp only[Int.toNat_natCast];omega⟩
    ·unfold ec.aZ
     simp only[bZ,b9,bR,hm]
     rw[decide_eq_true (show(i:Int)<(xs.length:Int) by omega),cond_true,aS (by omega),Int.toNat_natCast,yM eW,Option.bind_some]
     rw[nM (x:=xs[i]),Option.bind_some,r.1,Option.bind_some,FX gi,Option.bind_some,r.2,Option.bind_some,Option.bind_some]
     rw[dO (by omega),IntWalk.i64_in _ (by omega),k5 (by simp;omega)]
    ·rw[List.take_add_one,eW]
     show _=g k+dS k (xs.take i++[xs[i]])
     rw[XJ]
     by_cases aN:xs[i].1=k
     ·subst aN
      rw[Ip,if_pos rfl]
      simp only[Option.getD_some]
      omega
     ·rw[IG _ (fun e=>aN e.symm),if_neg aN,t2 k]
      omega
   ·right
    have:i=xs.length:=by omega
    subst this
    rw[List.take_length]at t2
    refine⟨_, ?_,T,fx,rfl,t1,t2,t3,t4⟩
    unfold ec.aZ
    simp only[bZ]
    rw[decide_eq_false (by omega),cond_false]) bd ((0:Int),ag sl) ⟨0,sl,es,rfl,Nat.zero_le _,s1,(fun k=>by rw[List.take_zero,q7,aQ k];omega),Nat.le_refl _,fun _ _ _=>rfl⟩ (dj (by show xs.length-0<_;omega))
 exact ⟨aC,fx,aw,aH,aW,bq,bU⟩
theorem WL(k:Int)(xs:List bK)(x:bK):ew k (xs++[x])=ew k xs+dS k x.2.2.2:=by rw[Ir];simp[ew]
theorem lW.shares{x:bK}(h:lW x):x.2.2.2.length≤32∧(∀s∈x.2.2.2,0≤s.2∧s.2≤1000000000000000):=by
 obtain⟨h1,_,h2,h3⟩:=mo h.2.2.1
 have aa:∀s∈x.2.2.2,0≤s.2:=fun s ad=>by
  have:=h2 s ad
  simp only[kM,Bool.and_eq_true,decide_eq_true_eq]at this
  omega
 refine⟨h1,fun s ad=>⟨aa s ad, ?_⟩⟩
 have:∀(ys:List (Int×Int)),(∀s∈ys,0≤s.2)→s∈ys→0≤b0 ys∧s.2≤b0 ys:=fun ys=>by
  induction ys with
  |nil=>intro _ h;cases h
  |cons y ys ih=>
   intro aK hm
   have wY:=aK y (by simp)
   have e:b0 (y::ys)=y.2+b0 ys:=by simp[b0]
   have ai8:∀cC:List (Int×Int),(∀s∈cC,0≤s.2)→0≤b0 cC:=fun cC=>by
    induction cC with
    |nil=>intro _;simp[b0]
    |cons z cC ai9=>
     intro bH
     have h1:=bH z (by simp)
     have h2:=ai9 fun s ad=>bH s (by simp[ad])
     have e:b0 (z::cC)=z.2+b0 cC:=by simp[b0]
     omega
   have aO:=ai8 ys fun s ad=>aK s (by simp[ad])
   rcases List.mem_cons.1 hm with rfl |hm
   ·omega
   ·have:=ih (fun s ad=>aK s (by simp[ad])) hm
    omega
 have:=(this x.2.2.2 aa ad).2
 omega
theorem YT{xs:List bK}(h:∀x∈xs,lW x)(k:Int):0≤ew k xs∧ew k xs≤xs.length*32000000000000000:=by
 induction xs with
 |nil=>simp[ew]
 |cons x xs ih=>
  have i:=ih fun y aK=>h y (by simp[aK])
  obtain⟨a,b⟩:=(h x (by simp)).shares
  have c:=E_ k x.2.2.2 b
  rw[nC]
  simp only[List.length_cons]
  have:((x.2.2.2.length:Nat):Int)*1000000000000000≤32*1000000000000000:=by omega
  omega
theorem YU{h9:H}{sl:List Slot}{m:Nat}{xs:List bK}{S:au}{o:Option Nat}(hm:h9.next=m)(s1:sl[m]? =some (.dk .i64 .i64 []))(eh:Acc sl aX xs S o)(a8:∀id,o=some id→id≠m)(hx:∀x∈xs,lW x)(aq:xs.length≤100):
  ∃aC fx,iter bd (ec.cl h9 S) (0,ag sl)=some (.aP (),ag aC)∧aC[m]? =some (.dk .i64 .i64 fx)∧(∀k,(getM k fx).getD 0=ew k xs)∧sl.length≤aC.length∧∀j,j≠m→j<sl.length→aC[j]? =sl[j]?:=by
 have fQ:=(List.getElem?_eq_some_iff.1 s1).1
 have pf:S.len=xs.length:=eh.len
 obtain⟨x,aw,aC,fx,rfl,aH,aW,bq,bU⟩:=ft (f:=ec.cl h9 S)
  (Inv:=fun st=>∃(i:Nat) (aC:List Slot) (fx:List (Int×Int)),st=((i:Int),ag aC)∧i≤xs.length∧aC[m]? =some (.dk .i64 .i64 fx)∧(∀k,(getM k fx).getD 0=ew k (xs.take i))∧sl.length≤aC.length∧∀j,j≠m→j<sl.length→aC[j]? =sl[j]?)
  (Post:=fun x=>∃aC fx,x=(.aP (),ag aC)∧aC[m]? =some (.dk .i64 .i64 fx)∧(∀k,(getM k fx).getD 0=ew k xs)∧sl.length≤aC.length∧∀j,j≠m→j<sl.length→aC[j]? =sl[j]?) (fun st=>xs.length-st.1.toNat) (fun st a6=>by
   obtain⟨i,T,fx,rfl,hi,t1,t2,t3,t4⟩:=a6
   have pe:=(List.getElem?_eq_some_iff.1 t1).1
   have aja:Acc T aX xs S o:=eh.frame fun id aT=>by subst aT;exact t4 _ (a8 _ rfl) eh.lt
   by_cases bn:i<xs.length
   ·left
    have eW:xs[i]? =some xs[i]:=List.getElem?_eq_getElem bn
    have ji:=hx _ (List.getElem_mem bn)
    obtain⟨ak8,ajb⟩:=ji.shares
    have gi:(T++[aA (dY true xs[i])])[m]? =some (.dk .i64 .i64 fx):=by rw[List.getElem?_append_left pe];exact t1
    obtain⟨U,ajc,a1,a2,a3,a4,a5⟩:=YS (xs:=xs[i].2.2.2) hm gi t2 (fun k=>by
     have aE:=YT (xs:=xs.take i) (fun x kH=>hx x (List.mem_of_mem_take kH)) k
     rw[List.length_take,Nat.min_eq_left (by omega)]at aE
     omega) ajb (by omega)
    have r:=ic (sl:=T++[aA (dY true xs[i])]) (id:=T.length) (x:=dY true xs[i]) (by simp)
    have o1:=Rq xs[i].2.2.2 (by omega)
    have fi:BT xs[i].2.2.2=(b0 xs[i].2.2.2,0):=by unfold BT;rw[if_pos ji.2.2.1]
    rw[fi]at o1
    refine⟨(((i+1:Nat):Int),ag U), ?_,⟨i+1,U,ajc,rfl,by omega,a2,fun k=>?_,by simp at a4;omega,fun j aL dJ=>by rw[a5 j aL (by simp;omega),List.getElem?_append_left (by omega),t4 j aL dJ]⟩,by simp only[Int.toNat_natCast];omega⟩
    ·unfold ec.cl
     simp only[pf,b9,bR]
     rw[decide_eq_true (show(i:Int)<(xs.length:Int) by omega),cond_true,aS (by omega),Int.toNat_natCast,Acc.afB aja eW,Option.bind_some]
     simp only
     rw[show Slot.own [V.int .i64 0,V.int .i64 0,V.int .i64 0,V.slice .nil 0 0 false] 4=aA bX from rfl]
     have w:=jU (sl:=T) (x:=dY true xs[i])
     rw[w,Option.bind_some,r.2.2.2,Option.bind_some]
     have dH:∀h,bB true h [.int .i64,.int .i64] (ae true aD xs[i].2.2.2)=some xs[i].2.2.2:=fun h=>jb rfl
     simp only
     rw[dH,Option.bind_some,o1,Option.bind_some]
     simp only[decide_true,Bool.not_true,Bool.not_false,cond_true]
     rw[r.2.1,Option.bind_some,Option.bind_some]
     simp only
     rw[decide_eq_true ji.2.2.2,Bool.not_true,cond_false,r.2.2.2,Option.bind_some,a1,Option.bind_some]
     simp only
     rw[dO (by omega)]
    ·rw[List.take_add_one,eW]
     show _=ew k (xs.take i++[xs[i]])
     rw[WL,a3]
   ·right
    have:i=xs.length:=by omega
    subst this
    rw[List.take_length]at t2
    refine⟨_, ?_,T,fx,rfl,t1,t2,t3,t4⟩
    unfold ec.cl
    simp only[pf]
    rw[decide_eq_false (by omega),cond_false]) bd ((0:Int),ag sl) ⟨0,sl,[],rfl,Nat.zero_le _,s1,(fun k=>by rw[List.take_zero];rfl),Nat.le_refl _,fun _ _ _=>rfl⟩ (dj (by show xs.length-0<_;omega))
 exact ⟨aC,fx,aw,aH,aW,bq,bU⟩
theorem YV{h9:H}{sl:List Slot}{m:Nat}{es:List (Int×Int)}{l:List dK}(hm:h9.next=m)(s1:sl[m]? =some (.dk .i64 .i64 es))(aQ:∀s∈l,s.2.1=1→(getM (b_ s).1 es).getD 0=s.2.2.2.2.1)(aq:l.length≤1000):
  ∃ext,iter bd (ec.fM (ae false ht l) h9) (0,ag sl)=some (.aP (),ag (sl++ext)):=by
 have fQ:=(List.getElem?_eq_some_iff.1 s1).1
 obtain⟨x,aw,ext,rfl⟩:=ft (f:=ec.fM (ae false ht l) h9)
  (Inv:=fun st=>∃(i:Nat) (ext:List Slot),st=((i:Int),ag (sl++ext))∧i≤l.length)
  (Post:=fun x=>∃ext,x=(.aP (),ag (sl++ext))) (fun st=>l.length-st.1.toNat) (fun st a6=>by
   obtain⟨i,ext,rfl,hi⟩:=a6
   by_cases bn:i<l.length
   ·left
    have eW:l[i]? =some l[i]:=List.getElem?_eq_getElem bn
    have gi:((sl++ext)++[ct (dM l[i])])[m]? =some (.dk .i64 .i64 es):=by rw[List.append_assoc,List.getElem?_append_left fQ];exact s1
    have z:((sl++ext)++[ct (dM l[i])])[(sl++ext).length]? =some (ct (dM l[i])):=by simp
    have bw:ah (.leaf (.int .i64)) (ag ((sl++ext)++[ct (dM l[i])])) (.aa (sl++ext).length 11 1)=some l[i].2.1:=by rw[e5 (g:=11) z rfl];rfl
    have bQ:ah (.leaf (.int .i64)) (ag ((sl++ext)++[ct (dM l[i])])) (.aa (sl++ext).length 11 4)=some l[i].2.2.2.2.1:=by rw[e5 (g:=11) z rfl];rfl
    have b4:ah (.leaf (.int .i64)) (ag ((sl++ext)++[ct (dM l[i])])) (.aa (sl++ext).length 11 6)=some (b_ l[i]).1:=by rw[e5 (g:=11) z rfl];rfl
    refine⟨(((i+1:Nat):Int),ag (sl++(ext++[ct (dM l[i])]))), ?_,⟨i+1,_,rfl,by omega⟩,by simp only[Int.toNat_natCast];omega⟩
    unfold ec.fM
    simp only[bZ,b9,bR,hm]
    rw[decide_eq_true (show(i:Int)<(l.length:Int) by omega),cond_true,aS (by omega),Int.toNat_natCast,JW eW,Option.bind_some]
    simp only[show Slot.own [V.int .i64 0,V.int .i64 0,V.int .i64 0,V.int .i64 0,V.int .i64 0,V.int .i64 0,V.int .i64 0,V.int .i64 0,V.int .i64 0,V.str ⟨#[]⟩,V.slice .nil 0 0 false] 11=ct ER from rfl]
    rw[JV (sl:=sl++ext) (s:=dM l[i]),Option.bind_some,bw,Option.bind_some]
    by_cases aN:l[i].2.1=1
    ·rw[decide_eq_true aN,cond_true,b4,Option.bind_some,FX gi,Option.bind_some,bQ,Option.bind_some,Option.bind_some]
     simp only
     rw[aQ _ (List.getElem_mem bn) aN,decide_eq_true rfl,Bool.not_true,cond_false,dO (by omega)]
     simp only[List.append_assoc]
    ·rw[decide_eq_false aN,cond_false,Option.bind_some]
     simp only[cond_false]
     rw[dO (by omega)]
     simp only[List.append_assoc]
   ·right
    have:i=l.length:=by omega
    subst this
    refine⟨_, ?_,ext,rfl⟩
    unfold ec.fM
    simp only[bZ]
    rw[decide_eq_false (by omega),cond_false]) bd ((0:Int),ag sl) ⟨0,[],by rw[List.append_nil];rfl,Nat.zero_le _⟩ (dj (by show l.length-0<_;omega))
 exact ⟨ext,aw⟩
theorem ZQ{h:H}{xs:List Int}(aa:∀v∈xs,0≤v)(ad:xs.sum≤2^60)(aq:xs.length≤64):iter bd (ec.nU xs) ((0,0),h)=some (.aP xs.sum,h):=by
 refine kr (f:=ec.nU xs) (s0:=((0,0),h)) (fun i=>(((xs.take i).sum,(i:Int)),h)) rfl xs.length bd (fun i hi=>?_) ?_ (dj (by omega))
 ·have eW:xs[i]? =some xs[i]:=List.getElem?_eq_getElem hi
  have h1:=E8 aa i
  have h2:=E8 aa (i+1)
  have h3:=Io hi
  unfold ec.nU
  simp only
  rw[decide_eq_true (show(i:Int)<(xs.length:Int) by omega),cond_true,aS (by omega),Int.toNat_natCast,uj,eW,Option.bind_some,dO (by omega),IntWalk.i64_in _ (by omega),h3]
 ·unfold ec.nU
  simp only
  rw[decide_eq_false (by omega),cond_false,List.take_length]
theorem call15{T:Table}(bt:T.dg.fn 15=vg.p.e){b:Bool}{n a:Int}{sl:List Slot}{q:Nat}(aV:sl[q]? =some (a_ (n,a)))(g:dV)(ext:List Slot){R:Type}(k:V→H→Option R):
  eE T.dg (.func 15 [.aa q 2 0]) [.agg (Cc (bl b g))] (ag (sl++ext)) k=k (.bool (decide (g.1=n))) (ag (sl++(ext++[bA (bl b g)]))):=by
 have hz:=(List.getElem?_eq_some_iff.1 aV).1
 have h1:vg (bl b g) (.aa q 2 0) (ag (sl++ext))=some (decide (g.1=n),ag (sl++(ext++[bA (bl b g)]))):=by
  unfold vg
  simp only[b9,bR,List.append_assoc]
  have z:(sl++(ext++[bA (bl b g)]))[(sl++ext).length]? =some (bA (bl b g)):=by rw[←List.append_assoc];simp
  rw[(jX z).1,Option.bind_some,aS (show V.bm (.aa q 2 0)=true from rfl),show V.add (.aa q 2 0) 0=.aa q 2 0 from rfl]
  rw[(lR (sl:=sl++(ext++[bA (bl b g)])) (id:=q) (x:=(n,a)) (by rw[List.getElem?_append_left hz];exact aV)).1,Option.bind_some]
 simp only[eE,bt,vg.p,eu,e8,List.cons_append,List.nil_append]
 have aa:aj.pack [.agg [.int .i64,.int .i64,.int .i64,.str,.slice],.leaf .ptr] [.agg (Cc (bl b g)),.aa q 2 0]=some (bl b g,(.aa q 2 0:V)):=rfl
 rw[aa,Option.bind_some]
 simp only
 rw[h1]
 rfl
theorem Sb{b:Bool}{h:H}{fs:List dV}{i:Nat}{f:dV}(hx:fs[i]? =some f):ah (.leaf (.int .i64)) h (V.add (V.add (ae b bT fs).a (i*5)) 2)=some f.2.2.1:=by
 have e:V.add (V.add (ae b bT fs).a (i*5)) 2=V.add (ae b bT fs).a (i*5+2):=by
  simp only[ae,V.add,Nat.add_assoc]
 rw[e,yX (ls:=bT) (w:=5) rfl (by omega),hx]
 rfl
theorem ZR{b b2:Bool}{h:H}{sl:List Slot}{p:Nat}{fs:List dV}{L R:au}{d day y:Int}{xs:List (Int×Int)}(aa:h.next=p)(s0:sl[p]? =some (bI (ae b bT fs) L R d))(hx:∀s∈xs,∃f∈fs,f.1=s.1)(ak:∀f∈fs,0≤f.2.2.1∧f.2.2.1≤100000)(bF:0≤day∧day≤100000)(aK:-1≤y∧y≤300)(Md:∀s∈xs,(eK fs s.1).2.2.1≤day∧365*y≤day-(eK fs s.1).2.2.1)(aq:xs.length≤2^20)(j_:fs.length≤2^20):
  ∃ext,iter bd (ec.pV h day y (ae b2 aD xs)) (0,ag sl)=some (.aP (),ag (sl++ext)):=by
 have jG:=(List.getElem?_eq_some_iff.1 s0).1
 obtain⟨x,aw,ext,rfl⟩:=ft (f:=ec.pV h day y (ae b2 aD xs))
  (Inv:=fun st=>∃(i:Nat) (ext:List Slot),st=((i:Int),ag (sl++ext))∧i≤xs.length)
  (Post:=fun x=>∃ext,x=(.aP (),ag (sl++ext))) (fun st=>xs.length-st.1.toNat) (fun st a6=>by
   obtain⟨i,ext,rfl,hi⟩:=a6
   by_cases bn:i<xs.length
   ·left
    have eW:xs[i]? =some xs[i]:=List.getElem?_eq_getElem bn
    obtain⟨q,zW,a0,a1⟩:=R8 (T:=ec.tb.t) (v:=.func 15 [.aa (sl++ext).length 2 0]) (b:=b) (fs:=fs) (n:=xs[i].1) (sl:=(sl++ext)++[a_ xs[i]]) (fun g ext {_} k=>call15 (a:=xs[i].2) rfl (by simp) g ext k) (hx _ (List.getElem_mem bn)) j_
    have aV:=(List.getElem?_eq_some_iff.1 a1).1
    have nc:=ak _ (Fq (hx _ (List.getElem_mem bn))).1
    obtain⟨bu,bs⟩:=Md _ (List.getElem_mem bn)
    have jx:((sl++ext)++[a_ xs[i]])[p]? =some (bI (ae b bT fs) L R d):=by rw[List.append_assoc,List.getElem?_append_left jG];exact s0
    have gi:(((sl++ext)++[a_ xs[i]])++zW)[p]? =some (bI (ae b bT fs) L R d):=by rw[List.append_assoc,List.append_assoc,List.getElem?_append_left jG];exact s0
    refine⟨(((i+1:Nat):Int),ag (sl++(ext++([a_ xs[i]]++zW)))), ?_,⟨i+1,_,rfl,by omega⟩,by simp only[Int.toNat_natCast];omega⟩
    unfold ec.pV
    simp only[bZ,b9,bR,aa]
    rw[decide_eq_true (show(i:Int)<(xs.length:Int) by omega),cond_true,aS (by omega),Int.toNat_natCast,yM eW,Option.bind_some]
    rw[nM (x:=xs[i]),Option.bind_some,rq jx,Option.bind_some,a0,Option.bind_some]
    simp only
    rw[decide_eq_false (show ¬(q:Int)<0 by omega),Bool.not_false,cond_true,rq gi,Option.bind_some,aS (by rw[bZ];omega),Int.toNat_natCast,aS (nL (by omega) (by simp)),Sb a1,Option.bind_some,decide_eq_false (show ¬day<(eK fs xs[i].1).2.2.1 by omega),Bool.not_false,cond_true,Option.bind_some,aS (by rw[bZ];omega),aS (nL (by omega) (by simp)),Sb a1,Option.bind_some,Option.bind_some]
    simp only
    rw[dO (by omega),IntWalk.i64_in (day-(eK fs xs[i].1).2.2.1) (by omega),IntWalk.i64_in (365*y) (by omega),decide_eq_false (by omega),cond_false]
    simp only[List.append_assoc]
   ·right
    have:i=xs.length:=by omega
    subst this
    refine⟨_, ?_,ext,rfl⟩
    unfold ec.pV
    simp only[bZ]
    rw[decide_eq_false (by omega),cond_false]) bd ((0:Int),ag sl) ⟨0,[],by rw[List.append_nil];rfl,Nat.zero_le _⟩ (dj (by show xs.length-0<_;omega))
 exact ⟨ext,aw⟩
theorem ZS{xs:List bK}(h:rk xs){x:bK}(hx:x∈xs):cL xs x.1=(x,true):=by
 have ak:(cL xs x.1).2=true:=by
  by_cases ak:(cL xs x.1).2=true
  ·exact ak
  ·exact absurd rfl (Pz ak x hx)
 obtain⟨fo,jy⟩:=sd ak
 have adC:∀a∈xs,∀b∈xs,a.1=b.1→a=b:=fun a bD b aE e=>by
  obtain⟨i,hi,rfl⟩:=List.getElem_of_mem bD
  obtain⟨j,aL,rfl⟩:=List.getElem_of_mem aE
  have ad:=List.pairwise_iff_getElem.1 h.sort
  rcases Nat.lt_trichotomy i j with iS|iS|iS
  ·have:=ad i j hi aL iS;omega
  ·subst iS;rfl
  ·have:=ad j i aL hi iS;omega
 have:=adC _ fo _ hx jy
 exact Prod.ext this ak
theorem YW{h:H}{sl:List Slot}{p:Nat}{c:e3}{l:List dK}{day:Int}{di:Int}(aa:h.next=p)(s0:sl[p]? =some (bI (ae true bT c.1) (ae true aX c.2.1) (ae true aX c.2.2.1) c.2.2.2))(Ci:lS l=(c,di,0))(bk:∀s∈l,lx (b_ s))(aq:l.length≤64)(ao:Sound c):
  ∃ext,iter bd (ec.zI h (ae false ht l) day (ae true aX c.2.1)) (0,ag sl)=some (.aP (),ag (sl++ext)):=by
 have jG:=(List.getElem?_eq_some_iff.1 s0).1
 have c2:=ao.pj
 have AS:∀h,bB true h [.int .i64,.int .i64,.int .i64,.int .i64,.int .i64,.int .i64,.int .i64,.int .i64,.int .i64,.str,.row [.str]] (ae false ht l)=some l:=fun h=>hL rfl
 have cy:∀h,bB true h [.int .i64,.int .i64,.int .i64,.str,.row [.str]] (ae true bT c.1)=some c.1:=fun h=>hL rfl
 have dd:∀h,bB true h [.int .i64,.int .i64,.int .i64,.row [.int .i64,.int .i64]] (ae true aX c.2.1)=some c.2.1:=fun h=>pF
 have dF:∀h,bB true h [.int .i64,.int .i64,.int .i64,.row [.int .i64,.int .i64]] (ae true aX c.2.2.1)=some c.2.2.1:=fun h=>pF
 have gy:∀(h:H) (ys:List (Int×Int)),bB true h [.int .i64,.int .i64] (ae true aD ys)=some ys:=fun h ys=>jb rfl
 have gS:∀f∈c.1,0≤f.2.2.1∧f.2.2.1≤100000:=fun f ak=>by
  have:=vz (ao.ph f ak).1
  omega
 obtain⟨x,aw,ext,rfl⟩:=ft (f:=ec.zI h (ae false ht l) day (ae true aX c.2.1))
  (Inv:=fun st=>∃(i:Nat) (ext:List Slot),st=((i:Int),ag (sl++ext))∧i≤c.2.1.length)
  (Post:=fun x=>∃ext,x=(.aP (),ag (sl++ext))) (fun st=>c.2.1.length-st.1.toNat) (fun st a6=>by
   obtain⟨i,ext,rfl,hi⟩:=a6
   by_cases bn:i<c.2.1.length
   ·left
    have eW:c.2.1[i]? =some c.2.1[i]:=List.getElem?_eq_getElem bn
    have u6:=List.getElem_mem bn
    generalize AK:c.2.1[i]=X at eW u6
    obtain⟨_,ji⟩:=ao.j5.all _ u6
    have iI:=ZS ao.j5 u6
    have adD:vv l X.1=some (X.2.2.2,0):=by
     rw[aam l X.1 bk (by omega)]
     unfold K1
     rw[Ci,if_pos rfl,iI,if_pos rfl]
    obtain⟨names,uO,nr,mc,xJ,H2⟩:=XH (n:=X.1) ao (by rw[iI])
    rw[iI]at mc
    simp only at mc
    rw[ji.2.2.2]at mc
    have af5:=mq.1 ji.1
    simp only at af5
    obtain⟨y,e,bb,cc⟩:=Qk (n:=X.1) (day:=day) ao
    rw[iI]at cc
    simp only at cc
    have ajd:tW (c.1,c.2.1,c.2.2.1,c.2.2.2) X.1=some (names,uO,0):=nr
    have aje:mr (c.1,c.2.1,c.2.2.1,c.2.2.2) X.1 day=some (y,e):=bb
    have fR:=ji.shares.1
    have dP:ve X.2.2.2 X.2.2.2=some true:=by rw[Yk _ _ (by omega),decide_eq_true rfl]
    have jx:((sl++ext)++[aA (dY true X)])[p]? =some (bI (ae true bT c.1) (ae true aX c.2.1) (ae true aX c.2.2.1) c.2.2.2):=by rw[List.append_assoc,List.getElem?_append_left jG];exact s0
    have r:=ic (sl:=(sl++ext)++[aA (dY true X)]) (id:=(sl++ext).length) (x:=dY true X) (by simp)
    have w:=jU (sl:=sl++ext) (x:=dY true X)
    have wI:iter bd (ec.nU uO) ((0,0),ag ((sl++ext)++[aA (dY true X)]))=some (.aP uO.sum,ag ((sl++ext)++[aA (dY true X)])):=ZQ xJ (by omega) (by omega)
    have key:ec.zI h (ae false ht l) day (ae true aX c.2.1) ((i:Int),ag (sl++ext))=(bif (!(decide (e=0)))then(some (.more (((i+1:Nat):Int),ag ((sl++ext)++[aA (dY true X)]))))else ((iter bd (ec.pV h day y (ae true aD X.2.2.2)) (0,ag ((sl++ext)++[aA (dY true X)]))).bind fun(KZ,DB)=>match KZ with
      |.next _=>none
      |.ret K0=>(some (.done (.ret K0,DB)))
      |.aP _=>(some (.more (((i+1:Nat):Int),DB)))
      |.bW _=>none)):=by
     unfold ec.zI
     simp only[bZ,b9,bR,aa]
     rw[decide_eq_true (show(i:Int)<(c.2.1.length:Int) by omega),cond_true,aS (by omega),Int.toNat_natCast,vQ eW,Option.bind_some]
     simp only
     rw[show Slot.own [V.int .i64 0,V.int .i64 0,V.int .i64 0,V.slice .nil 0 0 false] 4=aA bX from rfl]
     rw[w,Option.bind_some,r.1,Option.bind_some,AS,Option.bind_some]
     simp only
     rw[adD,Option.bind_some,iH jx,Option.bind_some,Option.bind_some]
     simp only
     rw[cy,Option.bind_some,dd,Option.bind_some,dF,Option.bind_some,ajd,Option.bind_some]
     simp only
     rw[wI,Option.bind_some]
     simp only[decide_true,Bool.not_true,Bool.not_false,cond_true]
     rw[r.2.2.2,Option.bind_some,gy,Option.bind_some]
     rw[Option.bind_some,dP,Option.bind_some]
     simp only[Bool.not_true,Bool.not_false,cond_true]
     rw[r.2.1,Option.bind_some,Option.bind_some]
     simp only
     rw[mc,decide_eq_true rfl,Bool.not_true,cond_false,iH jx,Option.bind_some,r.1,Option.bind_some]
     simp only
     rw[cy,Option.bind_some,dd,Option.bind_some,dF,Option.bind_some,aje,Option.bind_some]
     simp only
     rw[dO (by omega),r.2.2.2,Option.bind_some]
     rfl
    by_cases aO:e=0
    ·obtain⟨⟨d1,d2,d3,d4⟩,Md⟩:=cc aO
     obtain⟨zW,bU⟩:=ZR (b:=true) (b2:=true) (y:=y) (day:=day) aa jx (ao.has _ u6) gS ⟨d1,d2⟩ ⟨d3,d4⟩ Md (by omega) (by have:=ao.f64;omega)
     rw[decide_eq_true aO,Bool.not_true,cond_false,bU,Option.bind_some]at key
     exact ⟨_,key,⟨i+1,ext++([aA (dY true X)]++zW),by simp only[List.append_assoc],by omega⟩,by simp only[Int.toNat_natCast];omega⟩
    ·rw[decide_eq_false aO,Bool.not_false,cond_true]at key
     exact ⟨_,key,⟨i+1,ext++[aA (dY true X)],by simp only[List.append_assoc],by omega⟩,by simp only[Int.toNat_natCast];omega⟩
   ·right
    have:i=c.2.1.length:=by omega
    refine⟨_, ?_,ext,rfl⟩
    unfold ec.zI
    simp only[bZ]
    rw[decide_eq_false (by omega),cond_false]) bd ((0:Int),ag sl) ⟨0,[],by rw[List.append_nil];rfl,Nat.zero_le _⟩ (dj (by show c.2.1.length-0<_;omega))
 exact ⟨ext,aw⟩
theorem Ti{l:List dK}{i o:Nat}:V.add (V.add (V.add (ae false ht l).a (i*11)) 6) o=V.add (ae false ht l).a (i*11+(6+o)):=by
 simp only[ae,V.add,Nat.add_assoc]
theorem J0{h:H}{l:List dK}{i:Nat}{s:dK}(hx:l[i]? =some s):ah (.leaf .str) h (V.add (V.add (V.add (ae false ht l).a (i*11)) 6) 3)=some (b_ s).2.2.2.1:=by
 rw[Ti,yX (ls:=ht) (w:=11) rfl (by omega),hx]
 rfl
theorem Kl{h:H}{l:List dK}{i:Nat}{s:dK}(hx:l[i]? =some s):ah (.leaf .slice) h (V.add (V.add (V.add (ae false ht l).a (i*11)) 6) 4)=some (ae false [.str] (b_ s).2.2.2.2):=by
 rw[Ti,yX (ls:=ht) (w:=11) rfl (by omega),hx]
 rfl
theorem xv{l:List dK}{n m:Nat}(hx:l.length≠0):(V.add (V.add (ae false ht l).a n) m).bm=true:=by
 have:V.add (V.add (ae false ht l).a n) m=V.add (ae false ht l).a (n+m):=by simp only[ae,V.add,Nat.add_assoc]
 rw[this]
 exact nL hx (by simp)
theorem YX{h:H}{l:List dK}{i:Nat}{s:dK}(hx:l[i]? =some s)(aq:(b_ s).2.2.2.2.length≤20):
  ∃x,iter bd (i_.aZ (ae false ht l) (i:Int)) (0,h)=some x∧((x=(.aP (),h)∧∀a∈(b_ s).2.2.2.2,a.size≤100)∨x=(.ret false,h)):=by
 have nn:i<l.length:=(List.getElem?_eq_some_iff.1 hx).1
 obtain⟨x,aw,aH⟩:=ft (f:=i_.aZ (ae false ht l) (i:Int))
  (Inv:=fun st=>∃(j:Nat),st=((j:Int),h)∧j≤(b_ s).2.2.2.2.length∧∀a∈(b_ s).2.2.2.2.take j,a.size≤100)
  (Post:=fun x=>(x=(.aP (),h)∧∀a∈(b_ s).2.2.2.2,a.size≤100)∨x=(.ret false,h)) (fun st=>(b_ s).2.2.2.2.length-st.1.toNat) (fun st a6=>by
   obtain⟨j,rfl,aL,cf⟩:=a6
   have pre:i_.aZ (ae false ht l) (i:Int) ((j:Int),h)=(bif decide ((j:Int)<((b_ s).2.2.2.2.length:Int))then(aJ (0≤(j:Int)∧(j:Int)<((b_ s).2.2.2.2.length:Int)) ((ah (.leaf .str) h (V.add (ae false [.str] (b_ s).2.2.2.2).a (Int.toNat (j:Int)*1))).bind fun jo=>(bif (decide ((100:Int)<((ByteArray.size jo:Nat):Int)))then(some (.done (.ret false,h)))else (some (.more ((IntKind.wrap .i64 ((j:Int)+1)),h))))))else (some (.done (.aP (),h)))):=by
    unfold i_.aZ
    simp only[bZ]
    rw[aS (by omega),Int.toNat_natCast,aS (nL (by omega) (by simp)),aS (xv (by omega)),Kl hx,Option.bind_some]
    simp only[bZ]
    rw[aS (show(0:Int)≤(i:Int)∧(i:Int)<(l.length:Int) by omega),aS (nL (by omega) (by simp)),aS (xv (by omega)),Option.bind_some]
    simp only[bZ]
   by_cases bn:j<(b_ s).2.2.2.2.length
   ·have Ag:(b_ s).2.2.2.2[j]? =some (b_ s).2.2.2.2[j]:=List.getElem?_eq_getElem bn
    rw[decide_eq_true (by omega),cond_true,aS (by omega),Int.toNat_natCast,RA Ag,Option.bind_some]at pre
    by_cases ad:(100:Int)<(((b_ s).2.2.2.2[j].size:Nat):Int)
    ·rw[decide_eq_true ad,cond_true]at pre
     exact .inr ⟨_,pre,.inr rfl⟩
    ·rw[decide_eq_false ad,cond_false,dO (by omega)]at pre
     refine .inl ⟨_,pre,⟨j+1,rfl,by omega,fun a bD=>?_⟩,by simp only[Int.toNat_natCast];omega⟩
     rw[List.take_add_one,Ag]at bD
     simp only[Option.toList_some,List.mem_append,List.mem_singleton]at bD
     rcases bD with bD|rfl
     ·exact cf a bD
     ·omega
   ·have:j=(b_ s).2.2.2.2.length:=by omega
    subst this
    rw[List.take_length]at cf
    rw[decide_eq_false (by omega),cond_false]at pre
    exact .inr ⟨_,pre,.inl ⟨rfl,cf⟩⟩) bd ((0:Int),h) ⟨0,rfl,Nat.zero_le _,fun a bD=>by cases bD⟩ (dj (by show(b_ s).2.2.2.2.length-0<_;omega))
 exact ⟨x,aw,aH⟩
theorem YY{h:H}{l:List dK}(aq:l.length≤69):
  ∃x,iter bd (i_.cl (ae false ht l)) (0,h)=some x∧((x=(.aP (),h)∧∀s∈l,lx (b_ s))∨x=(.ret false,h)):=by
 obtain⟨x,aw,aH⟩:=ft (f:=i_.cl (ae false ht l))
  (Inv:=fun st=>∃(i:Nat),st=((i:Int),h)∧i≤l.length∧∀s∈l.take i,lx (b_ s))
  (Post:=fun x=>(x=(.aP (),h)∧∀s∈l,lx (b_ s))∨x=(.ret false,h)) (fun st=>l.length-st.1.toNat) (fun st a6=>by
   obtain⟨i,rfl,hi,db⟩:=a6
   by_cases bn:i<l.length
   ·have hx:l[i]? =some l[i]:=List.getElem?_eq_getElem bn
    by_cases h1:(100:Int)<(((b_ l[i]).2.2.2.1.size:Nat):Int)
    ·refine .inr ⟨_, ?_,.inr rfl⟩
     unfold i_.cl
     simp only[bZ]
     rw[decide_eq_true (show(i:Int)<(l.length:Int) by omega),cond_true,aS (by omega),Int.toNat_natCast,aS (nL (by omega) (by simp)),aS (xv (by omega)),J0 hx,Option.bind_some,decide_eq_true h1,Bool.not_true,cond_false,Option.bind_some]
     rfl
    ·by_cases h2:(20:Int)<((b_ l[i]).2.2.2.2.length:Int)
     ·refine .inr ⟨_, ?_,.inr rfl⟩
      unfold i_.cl
      simp only[bZ]
      rw[decide_eq_true (show(i:Int)<(l.length:Int) by omega),cond_true,aS (by omega),Int.toNat_natCast,aS (nL (by omega) (by simp)),aS (xv (by omega)),J0 hx,Option.bind_some,decide_eq_false h1,Bool.not_false,cond_true,aS (by omega),aS (nL (by omega) (by simp)),aS (xv (by omega)),Kl hx,Option.bind_some,Option.bind_some]
      simp only[bZ]
      rw[decide_eq_true h2,cond_true]
     ·obtain⟨x,a1,a2⟩:=YX (h:=h) hx (by omega)
      have pre:i_.cl (ae false ht l) ((i:Int),h)=((some x:Option (bG Unit Bool×H)).bind fun(Df,cO)=>match Df with
        |.next _=>none
        |.ret Dg=>(some (.done (.ret Dg,cO)))
        |.aP _=>(some (.more (((i+1:Nat):Int),cO)))
        |.bW _=>none):=by
       unfold i_.cl
       simp only[bZ]
       rw[decide_eq_true (show(i:Int)<(l.length:Int) by omega),cond_true,aS (by omega),Int.toNat_natCast,aS (nL (by omega) (by simp)),aS (xv (by omega)),J0 hx,Option.bind_some,decide_eq_false h1,Bool.not_false,cond_true,aS (by omega),aS (nL (by omega) (by simp)),aS (xv (by omega)),Kl hx,Option.bind_some,Option.bind_some]
       simp only[bZ]
       rw[decide_eq_false h2,cond_false,a1,dO (by omega)]
       rfl
      rcases a2 with⟨rfl,a3⟩|rfl
      ·refine .inl ⟨_,pre,⟨i+1,rfl,by omega,fun s ad=>?_⟩,by simp only[Int.toNat_natCast];omega⟩
       rw[List.take_add_one,hx]at ad
       simp only[Option.toList_some,List.mem_append,List.mem_singleton]at ad
       rcases ad with ad |rfl
       ·exact db s ad
       ·exact ⟨by omega,fun a bD=>by have:=a3 a bD;omega,by omega⟩
      ·exact .inr ⟨_,pre,.inr rfl⟩
   ·have:i=l.length:=by omega
    subst this
    rw[List.take_length]at db
    refine .inr ⟨_, ?_,.inl ⟨rfl,db⟩⟩
    unfold i_.cl
    simp only[bZ]
    rw[decide_eq_false (by omega),cond_false]) bd ((0:Int),h) ⟨0,rfl,Nat.zero_le _,fun a bD=>by cases bD⟩ (dj (by show l.length-0<_;omega))
 exact ⟨x,aw,aH⟩
theorem ZT(l:List dK):∃b,tU l=some b∧(b=true→l.length≤69∧∀s∈l,lx (b_ s)):=by
 by_cases ajf:69<l.length∨(20<l.length∧l.length≤64)
 ·refine⟨false, ?_,fun h=>by cases h⟩
  unfold tU i_
  simp only[bZ]
  by_cases dy:(20:Int)<(l.length:Int)
  ·rw[decide_eq_true dy,cond_true]
   by_cases fD:(l.length:Int)≤64
   ·rw[decide_eq_true fD];rfl
   ·rw[decide_eq_false fD,decide_eq_true (show(69:Int)<(l.length:Int) by omega)];rfl
  ·omega
 ·obtain⟨x,a1,a2⟩:=YY (h:=H.empty) (l:=l) (by omega)
  have pre:tU l=((some x:Option (bG Unit Bool×H)).bind fun(Dh,d_)=>match Dh with
    |.next _=>none
    |.ret Di=>(some Di)
    |.aP _=>(some true)
    |.bW _=>none):=by
   unfold tU i_
   simp only[bZ]
   have e:((bif (decide ((20:Int)<(l.length:Int)))then(bif !(decide ((l.length:Int)≤64))then(some ((decide ((69:Int)<(l.length:Int))),H.empty))else (some (true,H.empty)))else (some ((decide ((69:Int)<(l.length:Int))),H.empty))):Option (Bool×H))=some (false,H.empty):=by
    rw[decide_eq_false (show ¬(69:Int)<(l.length:Int) by omega)]
    by_cases dy:(20:Int)<(l.length:Int)
    ·rw[decide_eq_true dy,decide_eq_false (show ¬(l.length:Int)≤64 by omega)];rfl
    ·rw[decide_eq_false dy];rfl
   rw[e,Option.bind_some]
   simp only[cond_false]
   rw[a1,Option.bind_some]
   obtain⟨fl,hh⟩:=x
   cases fl<;>rfl
  rw[pre]
  rcases a2 with⟨rfl,a3⟩|rfl
  ·exact ⟨true,rfl,fun _=>⟨by omega,a3⟩⟩
  ·exact ⟨false,rfl,fun h=>by cases h⟩
theorem IM{f:Int}:∀{l:List dK},f∉n_ l→filled f l=0
 |[],_=>rfl
 |s::l,h=>by
  unfold n_ at h
  unfold filled
  by_cases aN:s.2.1=1
  ·rw[List.filter_cons,if_pos (decide_eq_true aN),List.map_cons,List.mem_cons,not_or]at h
   rw[List.filter_cons,if_neg (by simp only[decide_eq_true_eq];exact fun e=>h.1 e.2.symm)]
   exact IM (l:=l) h.2
  ·rw[List.filter_cons,if_neg (by simpa using aN)]at h
   rw[List.filter_cons,if_neg (by simp only[decide_eq_true_eq];exact fun e=>aN e.1)]
   exact IM (l:=l) h
theorem I2:∀{l:List dK},(n_ l).Nodup→∀s∈l,s.2.1=1→filled (b_ s).1 l=s.2.2.2.2.1
 |[],_,s,ad,_=>by cases ad
 |q::l,aM,s,ad,aN=>by
  have af6:n_ (q::l)=if q.2.1=1 then(b_ q).1::n_ l else n_ l:=by
   unfold n_
   by_cases aV:q.2.1=1
   ·rw[List.filter_cons,if_pos (decide_eq_true aV),if_pos aV];rfl
   ·rw[List.filter_cons,if_neg (by simpa using aV),if_neg aV]
  have C0:∀f,filled f (q::l)=(if q.2.1=1∧(b_ q).1=f then q.2.2.2.2.1 else 0)+filled f l:=fun f=>by
   unfold filled
   by_cases aV:q.2.1=1∧(b_ q).1=f
   ·rw[List.filter_cons,if_pos (decide_eq_true aV),if_pos aV];simp
   ·rw[List.filter_cons,if_neg (by simpa using aV),if_neg aV];simp
  rw[af6]at aM
  rcases List.mem_cons.1 ad with rfl |ad
  ·rw[if_pos aN,List.nodup_cons]at aM
   rw[C0,if_pos ⟨aN,rfl⟩,IM aM.1];omega
  ·have hm:(b_ s).1∈n_ l:=List.mem_map.2 ⟨s,List.mem_filter.2 ⟨ad,decide_eq_true aN⟩,rfl⟩
   by_cases aV:q.2.1=1
   ·rw[if_pos aV,List.nodup_cons]at aM
    rw[C0,if_neg (fun e=>aM.1 (by rw[e.2];exact hm)),I2 aM.2 s ad aN];omega
   ·rw[if_neg aV]at aM
    rw[C0,if_neg (fun e=>aV e.1),I2 aM s ad aN];omega
theorem ajW(l:List dK)(day:Int):EW l day=some true:=by
 have AS:∀h,bB true h [.int .i64,.int .i64,.int .i64,.int .i64,.int .i64,.int .i64,.int .i64,.int .i64,.int .i64,.str,.row [.str]] (ae false ht l)=some l:=fun h=>hL rfl
 obtain⟨b,f1,f2⟩:=ZT l
 unfold EW ec
 rw[ZO,Option.bind_some]
 simp only[Bool.not_true,cond_false]
 rw[AS,Option.bind_some,f1,Option.bind_some]
 cases b with
 |false=>rfl
 |true=>
  obtain⟨ajf,bk⟩:=f2 rfl
  simp only[Bool.not_true,cond_false]
  rw[Option.bind_some,Rw l bk (by omega),Option.bind_some]
  rcases gS:lS l with⟨⟨fs,ls,rs,d⟩,i,e⟩
  simp only[y3,b9,bR,List.nil_append,List.length_nil]
  have w:=Ca (sl:=[]) (F:=ae true bT fs) (L:=ae true aX ls) (R:=ae true aX rs) (d:=d)
  simp only[bZ,hg,hf,List.nil_append,List.length_nil]at w
  rw[w,Option.bind_some]
  have s0:([bI (ae true bT fs) (ae true aX ls) (ae true aX rs) d]:List Slot)[0]? =some (bI (ae true bT fs) (ae true aX ls) (ae true aX rs) d):=rfl
  by_cases he:e=0
  ·subst he
   obtain⟨hinv,fD⟩:=Qj bk (by rw[gS])
   rw[gS]at hinv
   simp only at hinv
   have ao:=hinv.sound fD
   have c2:=ao.pj
   have ga:=hinv.L4
   simp only at c2 ga
   rw[decide_eq_true (rfl:(0:Int)=0),Bool.not_true,cond_false]
   try simp -implicitDefEqProofs only[vM,List.cons_append,List.nil_append,bR]
   have s1:([bI (ae true bT fs) (ae true aX ls) (ae true aX rs) d,.dk .i64 .i64 []]:List Slot)[0]? =some (bI (ae true bT fs) (ae true aX ls) (ae true aX rs) d):=rfl
   rw[rr s1,Option.bind_some,Sz s1,Option.bind_some]
   simp only[bZ,hg,hf]
   obtain⟨S,ext,o,bL,HH,cY⟩:=XI (sl:=[bI (ae true bT fs) (ae true aX ls) (ae true aX rs) d,.dk .i64 .i64 []]) ls rs (by omega)
   rw[bL,Option.bind_some]
   have ey:∀x∈ls++rs,lW x:=fun x hx=>by
    rcases List.mem_append.1 hx with hx |hx
    ·exact (hinv.j5.all x hx).2
    ·exact hinv.rem x hx
   obtain⟨U,es,a1,a2,a3,a4,a5⟩:=YU (h9:=ag [bI (ae true bT fs) (ae true aX ls) (ae true aX rs) d]) (m:=1) (sl:=[bI (ae true bT fs) (ae true aX ls) (ae true aX rs) d,.dk .i64 .i64 []]++ext) (by rw[bR];rfl) rfl HH (fun id aT=>by have:=cY id aT;simp at this;omega) ey (by rw[List.length_append];omega)
   rw[a1,Option.bind_some]
   simp only
   have af7:∀s∈l,s.2.1=1→(getM (b_ s).1 es).getD 0=s.2.2.2.2.1:=fun s ad aN=>by
    rw[a3,Ir]
    have h1:=hinv.Et (b_ s).1
    simp only at h1
    rw[h1]
    exact I2 (hinv.perm.nodup_iff.1 (JA hinv.p1)) s ad aN
   obtain⟨af8,b8⟩:=YV (h9:=ag [bI (ae true bT fs) (ae true aX ls) (ae true aX rs) d]) (m:=1) (by rw[bR];rfl) a2 af7 (by omega)
   rw[b8,Option.bind_some]
   simp only
   have jx:(U++af8)[0]? =some (bI (ae true bT fs) (ae true aX ls) (ae true aX rs) d):=by
    have xH:0<U.length:=by simp at a4;omega
    rw[List.getElem?_append_left xH,a5 0 (by omega) (by simp)]
    rfl
   rw[rr jx,Option.bind_some]
   obtain⟨akh,bu⟩:=YW (h:=ag []) (c:=(fs,ls,rs,d)) (l:=l) (day:=day) bR jx gS bk fD ao
   rw[bu,Option.bind_some]
   rfl
  ·have aE:=YG (l:=l) (by rw[gS];exact he)
   rw[gS]at aE
   cases aE
   rw[decide_eq_false he,Bool.not_false,cond_true,rr s0,Option.bind_some]
   rfl
end Go.Proofs.YtlphgijokknjhaaGreat
