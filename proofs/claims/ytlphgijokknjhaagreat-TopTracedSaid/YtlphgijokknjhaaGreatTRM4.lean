/- The evaluator, the functions of this seat and what they compute: some texts in one, in short names. Conditions: those of each law. -/
import Derived.Test.YtlphgijokknjhaaGreatProg
import Derived.Test.YtlphgijokknjhaaGreatTRM3
set_option linter.all false
set_option maxRecDepth 100000
set_option maxHeartbeats 4000000
namespace Go.Proofs.YtlphgijokknjhaaGreat
open Go Go.Proofs.YtlphgijokknjhaaGreat.Ev
abbrev FY(xs:List dr):Prop:=xs.Pairwise fun a b=>a.1<b.1
theorem R4{lo hi:Nat}(h:lo+hi<4611686018427387904):IntKind.wrap .i64 (Int.fdiv (IntKind.wrap .u64 (IntKind.wrap .i64 ((lo:Int)+(hi:Int)))) (2^(min (Int.toNat 1) (IntKind.bits .u64))))=(((lo+hi)/2:Nat):Int):=by
 rw[←Int.natCast_add,IntWalk.i64_in ((lo+hi:Nat):Int) (by omega),IntWalk.u64_in ((lo+hi:Nat):Int) (by omega),show((2:Int)^(min (Int.toNat 1) (IntKind.bits .u64)))=2 from rfl,Int.fdiv_eq_ediv_of_nonneg _ (by omega)]
 rw[show(((lo+hi:Nat):Int)/2)=(((lo+hi)/2:Nat):Int) by omega,IntWalk.i64_in _ (by omega)]
def gQ(l:List dr)(i:Nat):dr:=l[i]?.getD (0,0,0,uB)
theorem QS{l:List dr}{i:Nat}(h:i<l.length):l[i]? =some (gQ l i):=by unfold gQ;rw[List.getElem?_eq_getElem h];rfl
theorem JQ{l:List dr}{i:Nat}(h:i<l.length):gQ l i∈l:=List.mem_of_getElem? (QS h)
theorem vR{xs:List dr}{i:Nat}(h:i<xs.length):gQ xs i=xs[i]:=by unfold gQ;rw[List.getElem?_eq_getElem h];rfl
theorem Fp{xs:List dr}(h:FY xs){i j:Nat}(iS:i<j)(aL:j<xs.length):(gQ xs i).1<(gQ xs j).1:=by
 rw[vR (by omega),vR aL]
 exact List.pairwise_iff_getElem.1 h i j (by omega) aL iS
def oS{β:Type}(xs:List (Int×Int×Int×β))(n:Int):Bool:=xs.any fun y=>decide (y.1=n)
theorem Yp{T:Table}(bt:T.dg.fn 173=tN.p.e){sl:List Slot}{xs:List dr}{s:au}{o:Option Nat}{n:Int}(h:c_ sl xs s o)(ad:FY xs)(db:∀x∈xs,ck x.1=true)(rR:∀x∈xs,∃y,hD x.2.2.2 y)(aM:ck n=true)(aq:xs.length≤2^20):
  ∃i:Nat,oB T s n (.func 173 []) (ag sl)=some (((i:Int),oS xs n),ag sl)∧i≤xs.length∧(∀k,k<i→(gQ xs k).1<n)∧∀k,i≤k→k<xs.length→n≤(gQ xs k).1:=by
 have hlen:=h.len
 have NW:∀i,i<xs.length→ah (.agg [.int .i64,.int .i64,.int .i64,.slice]) (ag sl) (V.add s.a (i*4))=some (gQ xs i):=fun i hi=>h.get (QS hi)
 have tK:∀i,i<xs.length→∀{R:Type} (k:V→H→Option R) (h:H),eE T.dg (.func 173 []) [.agg [.int .i64 (gQ xs i).1,.int .i64 (gQ xs i).2.1,.int .i64 (gQ xs i).2.2.1,.slice (gQ xs i).2.2.2.a (gQ xs i).2.2.2.len (gQ xs i).2.2.2.cap (gQ xs i).2.2.2.tail],.int .i64 n] h k=k (.int .i64 ((gQ xs i).1-n)) h:=fun i hi R k h=>let ⟨y,aK⟩:=rR _ (JQ hi);call173 bt _ aK n (db _ (JQ hi)) aM k h
 obtain⟨q,aV,i,rfl,hi,h1,h2⟩:=ft (f:=oB.aZ T s n (.func 173 []))
  (Inv:=fun st=>∃i j:Nat,st=(((i:Int),(j:Int)),ag sl)∧i≤j∧j≤xs.length∧(∀k,k<i→(gQ xs k).1<n)∧∀k,j≤k→k<xs.length→n≤(gQ xs k).1)
  (Post:=fun q=>∃i:Nat,q=(.aP (i:Int),ag sl)∧i≤xs.length∧(∀k,k<i→(gQ xs k).1<n)∧∀k,i≤k→k<xs.length→n≤(gQ xs k).1)
  (fun st=>st.1.2.toNat-st.1.1.toNat) (fun st hi=>by
   obtain⟨i,j,rfl,iS,aL,h1,h2⟩:=hi
   by_cases bn:i<j
   ·left
    have hm:(i+j)/2<xs.length:=by omega
    by_cases ao:(gQ xs ((i+j)/2)).1-n<0
    ·refine⟨((((i+j)/2+1:Nat):Int),(j:Int),ag sl)|>fun(a,b,c)=>((a,b),c), ?_,⟨(i+j)/2+1,j,rfl,by omega,aL,fun k aN=>?_,h2⟩,by simp only[Int.toNat_natCast];omega⟩
     ·unfold oB.aZ
      try simp -implicitDefEqProofs only[hlen]
      rw[decide_eq_true (by omega),cond_true,R4 (by omega),aS (by omega),Int.toNat_natCast,NW _ hm]
      try simp -implicitDefEqProofs only[Option.bind_some,bZ,hg,hf]
      rw[tK _ hm]
      try simp -implicitDefEqProofs only[an.pack,ai.pack,ab.pack,reduceIte,Option.bind_some]
      rw[decide_eq_true ao]
      try simp -implicitDefEqProofs only[cond_true,Option.bind_some]
      rw[IntWalk.i64_in _ (by omega)]
      rfl
     ·by_cases qo:k=(i+j)/2
      ·rw[qo];omega
      ·have:=Fp ad (show k<(i+j)/2 by omega) hm
       omega
    ·refine⟨((i:Int),(((i+j)/2:Nat):Int),ag sl)|>fun(a,b,c)=>((a,b),c), ?_,⟨i,(i+j)/2,rfl,by omega,by omega,h1,fun k aN Uk=>?_⟩,by simp only[Int.toNat_natCast];omega⟩
     ·unfold oB.aZ
      try simp -implicitDefEqProofs only[hlen]
      rw[decide_eq_true (by omega),cond_true,R4 (by omega),aS (by omega),Int.toNat_natCast,NW _ hm]
      try simp -implicitDefEqProofs only[Option.bind_some,bZ,hg,hf]
      rw[tK _ hm]
      try simp -implicitDefEqProofs only[an.pack,ai.pack,ab.pack,reduceIte,Option.bind_some]
      rw[decide_eq_false ao]
      try simp -implicitDefEqProofs only[cond_false,Option.bind_some]
     ·by_cases qo:k=(i+j)/2
      ·rw[qo];omega
      ·have:=Fp ad (show(i+j)/2<k by omega) Uk
       omega
   ·right
    have:i=j:=by omega
    subst this
    refine⟨(.aP (i:Int),ag sl), ?_,i,rfl,aL,h1,h2⟩
    unfold oB.aZ
    try simp -implicitDefEqProofs only[]
    rw[decide_eq_false (by omega),cond_false]) bd ((0,(xs.length:Int)),ag sl) ⟨0,xs.length,rfl,Nat.zero_le _,Nat.le_refl _,fun k aN=>by omega,fun k aN Uk=>by omega⟩ (dj (by simp only[Int.toNat_natCast];omega))
 refine⟨i, ?_,hi,h1,h2⟩
 unfold oB
 try simp -implicitDefEqProofs only[hlen]
 rw[aV]
 try simp -implicitDefEqProofs only[Option.bind_some]
 by_cases cI:i<xs.length
 ·rw[decide_eq_true (show(i:Int)<(xs.length:Int) by omega),cond_true,aS (by omega),Int.toNat_natCast,NW i cI]
  try simp -implicitDefEqProofs only[Option.bind_some,bZ,hg,hf]
  rw[tK i cI]
  try simp -implicitDefEqProofs only[an.pack,ai.pack,ab.pack,reduceIte,Option.bind_some]
  have:decide ((gQ xs i).1-n=0)=oS xs n:=by
   rw[Bool.eq_iff_iff,decide_eq_true_iff,oS,List.any_eq_true]
   constructor
   ·intro e
    exact ⟨_,JQ cI,decide_eq_true (by omega)⟩
   ·rintro⟨y,aK,e⟩
    have e:=of_decide_eq_true e
    obtain⟨k,aN,rfl⟩:=List.getElem_of_mem aK
    rw[←vR aN]at e
    by_cases Ej:k<i
    ·have:=h1 k Ej;omega
    ·by_cases Nk:k=i
     ·subst Nk;omega
     ·have:=Fp ad (show i<k by omega) aN
      have:=h2 i (Nat.le_refl _) cI
      omega
  rw[this]
 ·rw[decide_eq_false (show ¬(i:Int)<(xs.length:Int) by omega)]
  try simp -implicitDefEqProofs only[cond_false,Option.bind_some]
  have:oS xs n=false:=by
   rw[Bool.eq_false_iff,oS,Ne,List.any_eq_true]
   rintro⟨y,aK,e⟩
   have e:=of_decide_eq_true e
   obtain⟨k,aN,rfl⟩:=List.getElem_of_mem aK
   rw[←vR aN]at e
   have:=h1 k (by omega)
   omega
  rw[this]
abbrev AR:List V:=[.int .i64 0,.int .i64 0,.int .i64 0,.slice .nil 0 0 false]
theorem Xz(xs:List dr)(i:Nat):(bx cB xs).take (i*4)=bx cB (xs.take i):=by
 rcases Nat.lt_or_ge i xs.length with h|h
 ·have e:=congrArg (bx cB) (List.take_append_drop i xs)
  simp only[bx,List.flatMap_append]at e
  unfold bx
  rw[←e,List.take_left']
  show(bx cB (xs.take i)).length=_
  rw[k3,List.length_take,Nat.min_eq_left (by omega)]
 ·rw[List.take_of_length_le (by rw[k3];omega),List.take_of_length_le h]
theorem Qf{A M B vs:List V}{o:Nat}(h1:o=A.length)(h2:vs.length=M.length):Ev.splice (A++(M++B)) o vs=A++(vs++B):=by
 subst h1
 unfold Ev.splice
 rw[List.take_left',h2,←List.drop_drop,List.drop_left',List.drop_left',List.append_assoc]<;>rfl
theorem Yq{sl:List Slot}{xs:List dr}{s:au}{o:Option Nat}{i:Nat}(h:c_ sl xs s o)(hi:i<xs.length)(aq:xs.length≤2^20):
  ∃bc aC,xL s (i:Int) ((i:Int)+1) (ag sl)=some (bc,ag aC)∧c_ aC (xs.eraseIdx i) bc o∧aC.length=sl.length∧∀j,o≠some j→aC[j]? =sl[j]?:=by
 cases o with
 |none=>obtain⟨rfl,_⟩:=h;simp at hi
 |some id=>
  obtain⟨c,eU,h1,rfl,h3,aI⟩:=h
  have aT:=(List.getElem?_eq_some_iff.1 h3).1
  have ao:=k3 xs
  have o5:AR.length=4:=rfl
  have ah2:xs.eraseIdx i=xs.take i++xs.drop (i+1):=List.eraseIdx_eq_take_drop_succ xs i
  have Sw:(xs.eraseIdx i).length=xs.length-1:=by rw[List.length_eraseIdx];rw[if_pos hi]
  have eh:(bx cB (xs.take i)).length=i*4:=by rw[k3,List.length_take,Nat.min_eq_left (by omega)]
  have iy:(bx cB (xs.drop (i+1))).length=(xs.length-(i+1))*4:=by rw[k3,List.length_drop]
  have hx:xs=xs.take i++(xs[i]::xs.drop (i+1)):=by rw[←List.drop_eq_getElem_cons hi,List.take_append_drop]
  have rf:bx cB xs=bx cB (xs.take i)++(LT.lo true cB xs[i]++bx cB (xs.drop (i+1))):=(congrArg (bx cB) hx).trans (by simp only[bx,List.flatMap_append,List.flatMap_cons])
  have rY:(LT.lo true cB xs[i]).length=4:=rfl
  have ah3:bx cB (xs.eraseIdx i)=bx cB (xs.take i)++bx cB (xs.drop (i+1)):=by rw[ah2];simp[bx]
  have ld:∀(cK:List Slot) (Z:List V),cK[id]? =some (.own (bx cB (xs.take i)++(bx cB (xs.drop (i+1))++(Z++eU))) 4)→Z.length=4→cK.length=sl.length→(∀j,some id≠some j→cK[j]? =sl[j]?)→
    ∃bc aC,(B5 (ag cK) (V.add (.aa id (c*4) 0) ((xs.length-1)*4)) AR 1).bind (fun bE=>some ((⟨.aa id (c*4) 0,xs.length-1,c,true⟩:au),bE))=some (bc,ag aC)∧c_ aC (xs.eraseIdx i) bc (some id)∧aC.length=sl.length∧∀j,some id≠some j→aC[j]? =sl[j]?:=fun cK Z ad HZ jk ak=>by
   have afm:=(List.getElem?_eq_some_iff.1 ad).1
   refine⟨_,cK.set id (.own (bx cB (xs.eraseIdx i)++(AR++eU)) 4), ?_,⟨c,AR++eU,h1,by rw[Sw],List.getElem?_set_self afm, ?_⟩,by simp[jk],fun j aL=>?_⟩
   ·simp only[B5,V.add,Nat.zero_add]
    rw[if_neg (by omega),eS (g:=c*4) ad (by simp only[List.length_append,eh,iy,HZ];omega) (by show(xs.length-1)*4+4≤_;omega),Option.bind_some]
    have:Ev.splice (bx cB (xs.take i)++(bx cB (xs.drop (i+1))++(Z++eU))) ((xs.length-1)*4) (eI AR 1)=bx cB (xs.eraseIdx i)++(AR++eU):=by
     rw[←List.append_assoc,Qf (by rw[List.length_append,eh,iy];omega) (by rw[HZ];rfl),ah3]
     rfl
    rw[this]
   ·rw[Sw,List.length_append,o5];omega
   ·rw[List.getElem?_set_ne (fun e=>aL (by rw[e])),ak j aL]
  unfold xL
  try simp -implicitDefEqProofs only[]
  rw[aS ⟨by omega,by omega,by omega,by omega⟩,decide_eq_false (show ¬(i:Int)=(i:Int)+1 by omega),cond_false,aS ⟨by omega,by omega,by omega⟩,aS ⟨by omega,by omega,by omega⟩]
  try simp -implicitDefEqProofs only[gk,Int.toNat_natCast,show((i:Int)+1).toNat=i+1 by omega,V.add,Nat.zero_add,Int.toNat_zero,Nat.sub_zero]
  by_cases ajY:i+1=xs.length
  ·have:cellsOf (ag sl) (.slice (.aa id (c*4) ((i+1)*4)) (xs.length-(i+1)) (c-(i+1)) true) 4=some (0,[]):=by
    simp only[cellsOf]
    rw[if_pos (by omega)]
   rw[this,Option.bind_some]
   simp only[c7,iF]
   rw[if_pos trivial,Option.bind_some]
   simp only
   rw[aS ⟨by omega,by omega,by omega⟩,show xs.length-i=1 by omega]
   obtain⟨bc,aC,aw,aH⟩:=ld sl (LT.lo true cB xs[i]) (by
    rw[h3,rf]
    have ah4:bx cB (xs.drop (i+1))=[]:=List.eq_nil_of_length_eq_zero (by rw[iy];omega)
    rw[ah4]
    simp) rY rfl (fun _ _=>rfl)
   refine⟨bc,aC, ?_,aH⟩
   have cg:i=xs.length-1:=by omega
   rw[←aw]
   simp only[V.add,Nat.zero_add,←cg]
  ·have hU:cellsOf (ag sl) (.slice (.aa id (c*4) ((i+1)*4)) (xs.length-(i+1)) (c-(i+1)) true) 4=some (xs.length-(i+1),bx cB (xs.drop (i+1))):=by
    simp only[cellsOf,H.fv,H.from,fO,h3,Option.getD_some]
    rw[if_neg (by omega),if_pos (by rw[List.length_append,ao];exact aI),Option.bind_some,if_pos ⟨by rw[List.length_drop,List.length_append,ao];omega,by omega⟩]
    rw[List.drop_append_of_le_length (by omega),IZ,List.take_append_of_le_length (by rw[iy];exact Nat.le_refl _),List.take_of_length_le (by rw[iy];exact Nat.le_refl _)]
    rfl
   rw[hU,Option.bind_some]
   simp only[c7,iF,fO,h3,Option.getD_some]
   rw[if_neg (by omega),aS ⟨by unfold ei;omega,by omega⟩,if_neg (by omega),if_pos (by omega),Nat.zero_add,eS (g:=c*4) h3 (by rw[List.length_append,ao];exact aI) (by rw[iy];omega),Option.bind_some,Option.bind_some]
   simp only
   rw[show i+(xs.length-(i+1))=xs.length-1 by omega,aS ⟨by omega,by omega,by omega⟩,show xs.length-(xs.length-1)=1 by omega]
   have Nl:∃Z:List V,Z.length=4∧Ev.splice (bx cB xs++eU) (i*4) (bx cB (xs.drop (i+1)))=bx cB (xs.take i)++(bx cB (xs.drop (i+1))++(Z++eU)):=by
    refine⟨(LT.lo true cB xs[i]++bx cB (xs.drop (i+1))).drop ((xs.length-(i+1))*4),by rw[List.length_drop,List.length_append,rY,iy];omega, ?_⟩
    have e:bx cB xs++eU=bx cB (xs.take i)++((LT.lo true cB xs[i]++bx cB (xs.drop (i+1))).take ((xs.length-(i+1))*4)++((LT.lo true cB xs[i]++bx cB (xs.drop (i+1))).drop ((xs.length-(i+1))*4)++eU)):=by
     rw[rf,List.append_assoc,←List.append_assoc (List.take _ _),List.take_append_drop]
    rw[e,Qf eh.symm (by rw[iy,List.length_take,List.length_append,rY,iy];omega)]
   obtain⟨Z,HZ,Nl⟩:=Nl
   obtain⟨bc,aC,aw,aH,aW,bq⟩:=ld (sl.set id (.own (Ev.splice (bx cB xs++eU) (i*4) (bx cB (xs.drop (i+1)))) 4)) Z (by rw[List.getElem?_set_self aT,Nl]) HZ (by simp) (fun j aL=>by rw[List.getElem?_set_ne (fun e=>aL (by rw[e]))])
   exact ⟨bc,aC,aw,aH,aW,bq⟩
theorem Yr{sl:List Slot}{xs:List dr}{s:au}{o:Option Nat}{i:Nat}(x:dr)(h:c_ sl xs s o)(hi:i≤xs.length)(aq:xs.length≤2^19):
  ∃bc aC,Ins.jc s (i:Int) ⟨.lp true [.int .i64 x.1,.int .i64 x.2.1,.int .i64 x.2.2.1,.slice x.2.2.2.a x.2.2.2.len x.2.2.2.cap x.2.2.2.tail] 0,1,1,false⟩ (ag sl)=some (bc,ag aC)∧((∃id,c_ aC (xs.take i++x::xs.drop i) bc (some id)∧(o=some id∨o=none∧id=sl.length))∨bc=ae true cB (xs.take i++x::xs.drop i))∧bc.len=xs.length+1∧sl.length≤aC.length∧∀j,o≠some j→j<sl.length→aC[j]? =sl[j]?:=by
 have hlen:=h.len
 by_cases he:i=xs.length
 ·subst he
  obtain⟨bc,aC,id,aw,aH,aW,bq,bU⟩:=h.append x (by omega)
  refine⟨bc,aC, ?_,.inl ⟨id,by rw[List.take_length,List.drop_length];exact aH,aW⟩,by rw[aH.len];simp,bq,bU⟩
  simp only[Ins.jc]
  rw[aS ⟨trivial,trivial,trivial,trivial,rfl,by omega⟩,if_pos (by rw[hlen]),aw]
 ·cases o with
  |none=>obtain⟨rfl,_⟩:=h;simp at hi he;omega
  |some id=>
   obtain⟨c,eU,h1,rfl,h3,aI⟩:=h
   have aT:=(List.getElem?_eq_some_iff.1 h3).1
   have ao:=k3 xs
   refine⟨ae true cB (xs.take i++x::xs.drop i),(sl.set id .dead)++[.dead], ?_,.inr rfl,by simp[ae];omega,by simp,fun j aL bn=>?_⟩
   ·simp only[Ins.jc,fO,h3,Option.getD_some]
    rw[aS ⟨trivial,trivial,trivial,trivial,rfl,by show xs.length≤_;omega⟩,if_neg (by show ¬(i:Int)=(xs.length:Int);omega),aS ⟨trivial,trivial,by rw[List.length_append,ao];omega,by rw[List.length_append,ao];omega,trivial,by omega,by show(i:Int)<(xs.length:Int);omega,by show xs.length≤c;omega⟩,Int.toNat_natCast]
    have aG:(bx cB xs++eU).take (i*4)=bx cB (xs.take i):=by rw[List.take_append_of_le_length (by omega),Xz]
    have e2:((bx cB xs++eU).take (xs.length*4)).drop (i*4)=bx cB (xs.drop i):=by rw[List.take_append_of_le_length (by omega),List.take_of_length_le (by omega),IZ]
    have bP:Ins.zl (ag sl) id=ag (sl.set id .dead++[.dead]):=by
     refine H.ext' (by simp[Ins.zl,ag]) fun j=>?_
     simp only[Ins.zl,bR,fO]
     by_cases aL:j=id
     ·subst aL
      simp[List.getElem?_append_left,aT]
     ·rw[c8 aL,cond_false]
      by_cases Ek:j=sl.length
      ·subst Ek
       simp
      ·rw[c8 Ek,cond_false]
       rcases Nat.lt_or_ge j sl.length with bn |hy
       ·rw[List.getElem?_append_left (by simpa using bn),List.getElem?_set_ne (Ne.symm aL)]
       ·rw[List.getElem?_eq_none (by omega),List.getElem?_eq_none (by simp;omega)]
    rw[aG,e2,bP]
    have eC:(ae true cB (xs.take i++x::xs.drop i))=⟨.lp true (bx cB (xs.take i)++[.int .i64 x.1,.int .i64 x.2.1,.int .i64 x.2.2.1,.slice x.2.2.2.a x.2.2.2.len x.2.2.2.cap x.2.2.2.tail]++bx cB (xs.drop i)) 0,xs.length+1,xs.length+1,true⟩:=by
     have hle:(xs.take i++x::xs.drop i).length=xs.length+1:=by simp;omega
     unfold ae
     rw[hle]
     simp[bx,FC]
    rw[eC]
   ·rw[List.getElem?_append_left (by simpa using bn),List.getElem?_set_ne (fun e=>aL (by rw[e]))]
def e7{β:Type}(x:Int×Int×Int×β):List (Int×Int×Int×β)→List (Int×Int×Int×β)
 |[]=>if 0<x.2.2.1 then[x]else []
 |y::ys=>if y.1<x.1 then y::e7 x ys else if y.1=x.1 then(if x.2.2.1=0 then ys else x::ys)else if 0<x.2.2.1 then x::y::ys else y::ys
theorem Ru{x:dr}:∀{xs:List dr} {i:Nat},i≤xs.length→(∀k,k<i→(gQ xs k).1<x.1)→e7 x xs=xs.take i++e7 x (xs.drop i)
 |xs,0,_,_=>by simp
 |[],i+1,h,_=>by simp at h
 |y::ys,i+1,h,aN=>by
  have aO:y.1<x.1:=aN 0 (by omega)
  rw[List.take_succ_cons,List.drop_succ_cons,List.cons_append]
  show(if y.1<x.1 then y::e7 x ys else _)=_
  rw[if_pos aO,Ru (xs:=ys) (i:=i) (by simpa using h) fun k qo=>aN (k+1) (by omega)]
theorem dQ.put{g:dr}{x:bK}(h1:g.1=x.1)(h2:g.2.1=x.2.1)(h3:g.2.2.1=x.2.2.1)(aI:hD g.2.2.2 x.2.2.2):∀{gs:List dr} {xs:List bK},dQ gs xs→dQ (e7 g gs) (e7 x xs)
 |[],xs,h=>by
  have:xs=[]:=h
  subst this
  simp only[e7,h3]
  split
  ·exact ⟨x,[],rfl,h1,h2,h3,aI,rfl⟩
  ·rfl
 |kP::gs,xs,hh=>by
  obtain⟨fm,ot,rfl,aw,aH,aW,bq,af⟩:=hh
  simp only[e7,h1,h3,aw]
  split
  ·exact ⟨fm,_,rfl,aw,aH,aW,bq,dQ.put h1 h2 h3 aI af⟩
  ·split
   ·split
    ·exact af
    ·exact ⟨x,ot,rfl,h1,h2,h3,aI,af⟩
   ·split
    ·exact ⟨x,fm::ot,rfl,h1,h2,h3,aI,fm,ot,rfl,aw,aH,aW,bq,af⟩
    ·exact ⟨fm,ot,rfl,aw,aH,aW,bq,af⟩
def kN(sl:List Slot)(v:Nat)(gs:List dr)(s:au):Prop:=(∃o,c_ sl gs s o∧o≠some v)∨s=ae true cB gs
theorem kN.read{lp:Bool}{sl:List Slot}{v:Nat}{gs:List dr}{xs:List bK}{s:au}(h:kN sl v gs s)(af:dQ gs xs):bB lp (ag sl) aX s=some xs:=by
 rcases h with⟨o,h,_⟩|rfl
 ·exact h.read af
 ·exact JP af
theorem kN.len{sl:List Slot}{v:Nat}{gs:List dr}{s:au}(h:kN sl v gs s):s.len=gs.length:=by
 rcases h with⟨o,h,_⟩|rfl
 ·exact h.len
 ·rfl
theorem kN.set{sl:List Slot}{v:Nat}{gs:List dr}{s:au}{z:Slot}(h:kN sl v gs s):kN (sl.set v z) v gs s:=by
 rcases h with⟨o,h,a8⟩|rfl
 ·exact .inl ⟨o,h.frame fun id aT=>List.getElem?_set_ne (fun e=>a8 (by rw[aT,e])),a8⟩
 ·exact .inr rfl
theorem sE{sl:List Slot}{v:Nat}{F L R:au}{d e:Int}{xs:List dr}{s:au}{id:Nat}(aU:sl[v]? =some (cu F L R d e))(h:c_ sl xs s (some id)):id≠v:=fun he=>by
 obtain⟨c,eU,h1,h2,h3,aI⟩:=h
 rw[he,aU]at h3
 simp only[Option.some.injEq,Slot.own.injEq]at h3
 exact absurd h3.2 (by decide)
theorem Kg{sl:List Slot}{v:Nat}{F L R:au}{d e:Int}{xs:List dr}{o:Option Nat}(x:dr)(aU:sl[v]? =some (cu F L R d e))(h:c_ sl xs L o)(ad:FY xs)(db:∀y∈xs,ck y.1=true)(rR:∀y∈xs,∃z,hD y.2.2.2 z)(hx:ck x.1=true)(aq:xs.length≤2^19):
  ∃aC cr,mn (.aa v 5 0) x (ag sl)=some ((),ag aC)∧aC[v]? =some (cu F cr R d e)∧kN aC v (e7 x xs) cr∧
   (x.2.2.1=0∨oS xs x.1=true→c_ aC (e7 x xs) cr o)∧sl.length≤aC.length∧∀j,j≠v→o≠some j→j<sl.length→aC[j]? =sl[j]?:=by
 have hT:=(List.getElem?_eq_some_iff.1 aU).1
 have ao:(sl++[aA x])[sl.length]? =some (aA x):=by simp
 have iV:(sl++[aA x])[v]? =some (cu F L R d e):=by rw[List.getElem?_append_left hT];exact aU
 have h1:c_ (sl++[aA x]) xs L o:=h.frame fun id aT=>by subst aT;rw[List.getElem?_append_left h.lt]
 have hE:∀id,o=some id→id≠v:=fun id aT=>by subst aT;exact sE aU h
 have Ul:∀id,o=some id→id≠sl.length:=fun id aT=>by subst aT;have:=h.lt;omega
 obtain⟨i,bu,bs,b6,cd⟩:=Yp (T:=mn.tb.t) rfl h1 ad db rR hx (by omega)
 have aa:=Ru (x:=x) bs b6
 have ou:oS xs x.1=true→∃hi:i<xs.length,xs[i].1=x.1:=fun aN=>by
  obtain⟨y,aK,e⟩:=List.any_eq_true.1 aN
  have e:=of_decide_eq_true e
  obtain⟨k,aN,rfl⟩:=List.getElem_of_mem aK
  rw[←vR aN]at e
  by_cases Ej:k<i
  ·have:=b6 k Ej;omega
  ·have nn:i<xs.length:=by omega
   refine⟨nn, ?_⟩
   rw[←vR nn]
   by_cases Nk:k=i
   ·subst Nk;exact e
   ·have:=Fp ad (show i<k by omega) aN
    have:=cd i (Nat.le_refl _) nn
    omega
 have S1:oS xs x.1=false→e7 x xs=if 0<x.2.2.1 then xs.take i++x::xs.drop i else xs:=fun aN=>by
  rw[aa]
  cases bF:xs.drop i with
  |nil=>
   show xs.take i++(if 0<x.2.2.1 then[x]else [])=_
   have g0:xs.take i=xs:=List.take_of_length_le (by have:=List.drop_eq_nil_iff.1 bF;omega)
   split
   ·rfl
   ·rw[List.append_nil,g0]
  |cons y ys=>
   have nn:i<xs.length:=by
    rcases Nat.lt_or_ge i xs.length with h|h
    ·exact h
    ·rw[List.drop_eq_nil_of_le h]at bF;cases bF
   have aK:y=xs[i]:=by rw[List.drop_eq_getElem_cons nn]at bF;cases bF;rfl
   have aQ:=cd i (Nat.le_refl _) nn
   rw[vR nn,←aK]at aQ
   have bS:y.1≠x.1:=fun e=>by
    have:oS xs x.1=true:=List.any_eq_true.2 ⟨y,by rw[aK];exact List.getElem_mem nn,decide_eq_true e⟩
    rw[aN]at this;cases this
   show xs.take i++(if y.1<x.1 then _ else if y.1=x.1 then _ else if 0<x.2.2.1 then x::y::ys else y::ys)=_
   rw[if_neg (by omega),if_neg bS]
   split
   ·rfl
   ·rw[←bF,List.take_append_drop]
 have cS:V.cS (.aa v 5 0)=true:=rfl
 have bm:V.bm (.aa v 5 0)=true:=rfl
 obtain⟨x0,bY,b5,cx⟩:=x
 simp only at hx bu aa ou S1
 unfold mn
 try simp -implicitDefEqProofs only[bZ,hg,hf,b9,gk,bR,kv,Nat.zero_add]
 rw[show Slot.own [V.int .i64 x0,V.int .i64 bY,V.int .i64 b5,V.slice cx.a cx.len cx.cap cx.tail] 4=aA (x0,bY,b5,cx)from rfl]
 rw[aS cS,aS bm,aS bm,wj iV,Option.bind_some,(ic ao).1,Option.bind_some,bu,Option.bind_some]
 try simp -implicitDefEqProofs only[(ic ao).2.2.1,Option.bind_some]
 by_cases aN:oS xs x0=true
 ·obtain⟨nn,eW⟩:=ou aN
  have bF:xs.drop i=xs[i]::xs.drop (i+1):=List.drop_eq_getElem_cons nn
  rw[aN]
  by_cases hm:b5=0
  ·rw[decide_eq_true hm,cond_true,Option.bind_some]
   try simp -implicitDefEqProofs only[cond_true]
   rw[aS cS,aS bm,aS bm,wj iV,Option.bind_some,IntWalk.i64_in _ (by omega)]
   obtain⟨bc,aC,d1,d2,d3,d4⟩:=Yq h1 nn (by omega)
   rw[d1,Option.bind_some]
   have js:aC[v]? =some (cu F L R d e):=by rw[d4 v (fun e=>hE v e rfl)];exact iV
   simp only
   rw[aS cS,aS bm,aS bm,Sv js]
   try simp -implicitDefEqProofs only[Option.bind_some]
   have j1:e7 (x0,bY,b5,cx) xs=xs.eraseIdx i:=by
    rw[aa,bF,List.eraseIdx_eq_take_drop_succ]
    show xs.take i++(if xs[i].1<x0 then _ else if xs[i].1=x0 then(if b5=0 then xs.drop (i+1)else _)else _)=_
    rw[if_neg (by omega),if_pos eW,if_pos hm]
   have dG:c_ (aC.set v (cu F bc R d e)) (xs.eraseIdx i) bc o:=d2.frame fun id aT=>by rw[List.getElem?_set_ne (Ne.symm (hE id aT))]
   refine⟨_,bc,rfl,n2 js _, ?_,fun _=>?_,by simp[d3],fun j aL gb dJ=>?_⟩
   ·rw[j1];exact .inl ⟨o,dG,fun e=>hE v e rfl⟩
   ·rw[j1];exact dG
   ·rw[List.getElem?_set_ne (Ne.symm aL),d4 j gb,List.getElem?_append_left dJ]
  ·rw[decide_eq_false hm,cond_false,Option.bind_some]
   try simp -implicitDefEqProofs only[cond_true,cond_false]
   rw[aS cS,aS bm,aS bm,wj iV,Option.bind_some,hl ao,Option.bind_some]
   try simp -implicitDefEqProofs only[h1.len]
   rw[aS ⟨by omega,by omega⟩,Int.toNat_natCast]
   obtain⟨aC,d1,d2,d3,d4⟩:=h1.set (x0,bY,b5,cx) nn
   rw[d1]
   try simp -implicitDefEqProofs only[Option.bind_some]
   have j1:e7 (x0,bY,b5,cx) xs=xs.set i (x0,bY,b5,cx):=by
    rw[aa,bF,List.set_eq_take_append_cons_drop,if_pos nn]
    show xs.take i++(if xs[i].1<x0 then _ else if xs[i].1=x0 then(if b5=0 then _ else (x0,bY,b5,cx)::xs.drop (i+1))else _)=_
    rw[if_neg (by omega),if_pos eW,if_neg hm]
   have js:aC[v]? =some (cu F L R d e):=by rw[d4 v (fun e=>hE v e rfl)];exact iV
   refine⟨_,L,rfl,js, ?_,fun _=>?_,by simp[d3],fun j aL gb dJ=>?_⟩
   ·rw[j1];exact .inl ⟨o,d2,fun e=>hE v e rfl⟩
   ·rw[j1];exact d2
   ·rw[d4 j gb,List.getElem?_append_left dJ]
 ·have w0:oS xs x0=false:=by simpa using aN
  have j1:=S1 w0
  rw[w0]
  have zR:(bif decide (b5=0)then(some (false,ag (sl++[aA (x0,bY,b5,cx)])):Option (Bool×H))else some (false,ag (sl++[aA (x0,bY,b5,cx)])))=some (false,ag (sl++[aA (x0,bY,b5,cx)])):=by cases decide (b5=0)<;>rfl
  rw[zR,Option.bind_some]
  try simp -implicitDefEqProofs only[cond_false,(ic ao).2.2.1,Option.bind_some]
  by_cases hm:0<b5
  ·rw[decide_eq_true hm,cond_true,aS cS,aS bm,aS bm,wj iV,Option.bind_some,hl ao,Option.bind_some]
   obtain⟨bc,aC,d1,d2,d3,d4,d5⟩:=Yr (i:=i) (x0,bY,b5,cx) h1 bs aq
   have ah5:jc L (i:Int) ⟨.lp true [.int .i64 x0,.int .i64 bY,.int .i64 b5,.slice cx.a cx.len cx.cap cx.tail] 0,1,1,false⟩ (ag (sl++[aA (x0,bY,b5,cx)]))=some (bc,ag aC):=d1
   rw[ah5,Option.bind_some]
   have js:aC[v]? =some (cu F L R d e):=by rw[d5 v (fun e=>hE v e rfl) (by simp;omega)];exact iV
   simp only
   rw[aS cS,aS bm,aS bm,Sv js]
   try simp -implicitDefEqProofs only[Option.bind_some]
   rw[if_pos hm]at j1
   refine⟨_,bc,rfl,n2 js _, ?_,fun Az=>?_, ?_,fun j aL gb dJ=>?_⟩
   ·rw[j1]
    rcases d2 with⟨id,aw,aH⟩|rfl
    ·have bS:id≠v:=by
      rcases aH with aH|⟨_,aH⟩
      ·exact hE id aH
      ·rw[aH];simp;omega
     refine .inl ⟨some id,aw.frame fun da aT=>?_,fun e=>bS (by cases e;rfl)⟩
     cases aT
     rw[List.getElem?_set_ne (Ne.symm bS)]
    ·exact .inr rfl
   ·rcases Az with Az|Az
    ·have Az:b5=0:=Az
     omega
    ·cases Az
   ·simp at d4⊢;omega
   ·rw[List.getElem?_set_ne (Ne.symm aL),d5 j gb (by simp;omega),List.getElem?_append_left dJ]
  ·rw[decide_eq_false hm,cond_false]
   try simp -implicitDefEqProofs only[Option.bind_some]
   rw[if_neg hm]at j1
   refine⟨_,L,rfl,iV, ?_,fun _=>?_,by simp,fun j aL gb dJ=>?_⟩
   ·rw[j1];exact .inl ⟨o,h1,fun e=>hE v e rfl⟩
   ·rw[j1];exact h1
   ·rw[List.getElem?_append_left dJ]
theorem Ys{f:Bool}{h:H}{xs:List (Int×Int)}:cellsOf h (.slice (ae f aD xs).a xs.length xs.length true) 2=some (xs.length,xs.flatMap fun x=>LT.lo f aD x):=by
 have j_:(xs.flatMap fun x=>LT.lo f aD x).length=xs.length*2:=hK (ls:=aD) xs
 by_cases aO:xs.length=0
 ·have:xs=[]:=List.eq_nil_of_length_eq_zero aO
  subst this
  rfl
 ·simp only[cellsOf,if_neg aO,H.fv,ae,H.from,List.drop_zero,Option.bind_some]
  rw[if_pos ⟨by rw[j_];exact Nat.le_refl _,by omega⟩,List.take_of_length_le (by rw[j_];exact Nat.le_refl _)]
  rfl
theorem aai{f:Bool}(xs:List (Int×Int)):(xs.flatMap fun x=>LT.lo f aD x)=bx aD xs:=by
 congr 1
theorem Yt (xs:List (Int×Int))(aq:xs.length≤2^30):xN xs=some xs:=by
 unfold xN AX
 try simp -implicitDefEqProofs only[bZ,hg,hf]
 rw[Ys,Option.bind_some,aai]
 simp only[Option.bind_some]
 by_cases aO:xs.length=0
 ·have:xs=[]:=List.eq_nil_of_length_eq_zero aO
  subst this
  rfl
 ·simp only[c7,iF,newAt]
  rw[if_neg aO,aS ⟨by unfold ei;omega,by omega⟩,if_pos ⟨trivial,trivial,trivial⟩,hj,b9,bR,Option.bind_some,Option.bind_some]
  have:=Bz (lp:=false) (ls:=aD) (xs:=xs) (sl:=[]++[Slot.own (bx aD xs) 2]) (id:=0) (e:=2) (n:=xs.length*2) (c:=xs.length) (t:=true) rfl rfl rfl
  exact this
theorem aaZ(x:bK)(aq:x.2.2.2.length≤2^30):yB x=some x:=by
 obtain⟨d,a,m,xs⟩:=x
 simp only at aq
 unfold yB BZ
 try simp -implicitDefEqProofs only[aF,reduceIte,av,az,aB,ax,an.un,aj.un,ai.un,LT.un,ab.un,ab.plain,LT.plain,hj,b9,bR,List.nil_append,List.length_nil,List.length_cons,Nat.zero_add,List.cons_append]
 have g0:[aA (d,a,m,ae false aD xs),aA bX][0]? =some (aA (d,a,m,ae false aD xs)):=rfl
 have dp:=ic g0
 simp only[aA,bZ,hg,hf]at dp
 rw[dp.2.2.2]
 try simp -implicitDefEqProofs only[aF,reduceIte,av,az,aB,ax,an.un,aj.un,ai.un,LT.un,ab.un,ab.plain,LT.plain]
 rw[Yt xs aq]
 try simp -implicitDefEqProofs only[aF,reduceIte,av,az,aB,ax,an.un,aj.un,ai.un,LT.un,ab.un,ab.plain,LT.plain]
 have vc:=(Gp g0).1 (ae true aD xs)
 have ox:([aA (d,a,m,ae true aD xs),aA bX])[0]? =some (aA (d,a,m,ae true aD xs)):=rfl
 have bu:([aA (d,a,m,ae true aD xs),aA bX])[1]? =some (aA bX):=rfl
 have AS:=hl ox
 have w1:=rj (y:=(d,a,m,ae true aD xs)) bu
 have bs:([aA (d,a,m,ae true aD xs),aA (d,a,m,ae true aD xs)])[1]? =some (aA (d,a,m,ae true aD xs)):=rfl
 have cy:=hl bs
 simp only[aA,bZ,hg,hf,List.set_cons_zero,List.set_cons_succ]at vc AS w1 cy
 rw[vc]
 try simp -implicitDefEqProofs only[aF,reduceIte,av,az,aB,ax,an.un,aj.un,ai.un,LT.un,ab.un,ab.plain,LT.plain]
 rw[AS]
 try simp -implicitDefEqProofs only[aF,reduceIte,av,az,aB,ax,an.un,aj.un,ai.un,LT.un,ab.un,ab.plain,LT.plain]
 rw[w1]
 try simp -implicitDefEqProofs only[aF,reduceIte,av,az,aB,ax,an.un,aj.un,ai.un,LT.un,ab.un,ab.plain,LT.plain]
 rw[cy]
 try simp -implicitDefEqProofs only[aF,reduceIte,av,az,aB,ax,an.un,aj.un,ai.un,LT.un,ab.un,ab.plain,LT.plain,jQ]
def cL(l:List bK)(n:Int):bK×Bool:=match l.find? fun y=>decide (y.1=n)with
 |some x=>(x,true)
 |none=>((0,0,0,[]),false)
theorem B2(l:List bK)(n:Int)(aq:l.length≤2^30)(ad:∀x∈l,x.2.2.2.length≤2^30):lH l n=some (cL l n):=by
 unfold lH nG
 try simp -implicitDefEqProofs only[hj,b9,bR,List.nil_append,List.length_nil,bZ]
 have key:∃x,iter bd (nG.aZ (ag []) (ae false aX l) n) (0,ag [aA bX])=some x∧
   ((∃sl,l.find? (fun y=>decide (y.1=n))=none∧x=(.aP (),ag sl)∧sl[0]? =some (aA bX))∨∃y sl,l.find? (fun y=>decide (y.1=n))=some y∧x=(.ret (dY true y,true),ag sl)):=by
  obtain⟨x,h1,h2⟩:=ft (f:=nG.aZ (ag []) (ae false aX l) n)
   (Inv:=fun st=>∃(i:Nat) (sl:List Slot),st=((i:Int),ag sl)∧i≤l.length∧sl[0]? =some (aA bX)∧l.find? (fun y=>decide (y.1=n))=(l.drop i).find? (fun y=>decide (y.1=n)))
   (Post:=fun x=>(∃sl,l.find? (fun y=>decide (y.1=n))=none∧x=(.aP (),ag sl)∧sl[0]? =some (aA bX))∨∃y sl,l.find? (fun y=>decide (y.1=n))=some y∧x=(.ret (dY true y,true),ag sl))
   (fun st=>l.length-st.1.toNat) (fun st a6=>by
    obtain⟨i,sl,rfl,hi,aO,ak⟩:=a6
    by_cases bn:i<l.length
    ·have hx:l[i]? =some l[i]:=List.getElem?_eq_getElem bn
     have bF:l.drop i=l[i]::l.drop (i+1):=List.drop_eq_getElem_cons bn
     rw[bF,List.find?_cons]at ak
     have Um:=(List.getElem?_eq_some_iff.1 aO).1
     have ao:(sl++[aA (dY false l[i])])[sl.length]? =some (aA (dY false l[i])):=by simp
     have ajX:∀(K:(Int×H→Option (ca (Int×H) (bG Unit ((Int×Int×Int×au)×Bool)×H)))),True:=fun _=>trivial
     by_cases he:l[i].1=n
     ·right
      rw[decide_eq_true he]at ak
      refine⟨(.ret (dY true l[i],true),ag ((sl++[aA (dY false l[i])]).set 0 (aA (dY true l[i])))), ?_,.inr ⟨l[i],_,ak,rfl⟩⟩
      unfold nG.aZ
      try simp -implicitDefEqProofs only[bZ,b9,bR,List.length_nil]
      rw[decide_eq_true (by omega),cond_true,aS (by omega),Int.toNat_natCast,vQ hx,Option.bind_some]
      simp only[show Slot.own [V.int .i64 0,V.int .i64 0,V.int .i64 0,V.slice .nil 0 0 false] 4=aA (0,0,0,⟨.nil,0,0,false⟩)from rfl]
      rw[jU (x:=dY false l[i]),Option.bind_some,(ic ao).1,Option.bind_some,decide_eq_true he,cond_true,hl ao,Option.bind_some]
      have dH:bB true (ag (sl++[aA (dY false l[i])])) [.int .i64,.int .i64] (ae false aD l[i].2.2.2)=some l[i].2.2.2:=hL rfl
      simp only[dY]at dH⊢
      rw[dH,Option.bind_some,aaZ (l[i].1,l[i].2.1,l[i].2.2.1,l[i].2.2.2) (ad _ (List.getElem_mem bn)),Option.bind_some]
      have qj:(sl++[aA (l[i].1,l[i].2.1,l[i].2.2.1,ae false aD l[i].2.2.2)])[0]? =some (aA bX):=by rw[List.getElem?_append_left Um];exact aO
      have w:=rj (y:=(l[i].1,l[i].2.1,l[i].2.2.1,ae true aD l[i].2.2.2)) qj
      simp only[bZ,hg,hf]at w
      simp only
      rw[w,Option.bind_some,hl (List.getElem?_set_self (by simp)),Option.bind_some]
     ·left
      rw[decide_eq_false he]at ak
      refine⟨(((i+1:Nat):Int),ag (sl++[aA (dY false l[i])])), ?_,⟨i+1,_,rfl,by omega,by rw[List.getElem?_append_left Um];exact aO,ak⟩,by simp only[Int.toNat_natCast];omega⟩
      unfold nG.aZ
      try simp -implicitDefEqProofs only[bZ,b9,bR,List.length_nil]
      rw[decide_eq_true (by omega),cond_true,aS (by omega),Int.toNat_natCast,vQ hx,Option.bind_some]
      simp only[show Slot.own [V.int .i64 0,V.int .i64 0,V.int .i64 0,V.slice .nil 0 0 false] 4=aA (0,0,0,⟨.nil,0,0,false⟩)from rfl]
      rw[jU (x:=dY false l[i]),Option.bind_some,(ic ao).1,Option.bind_some,decide_eq_false he,cond_false,dO (by omega)]
    ·right
     have:i=l.length:=by omega
     subst this
     rw[List.drop_length]at ak
     refine⟨(.aP (),ag sl), ?_,.inl ⟨sl,ak,rfl,aO⟩⟩
     unfold nG.aZ
     try simp -implicitDefEqProofs only[bZ]
     rw[decide_eq_false (by omega),cond_false]) bd ((0:Int),ag [aA bX]) ⟨0,_,rfl,Nat.zero_le _,rfl,by rw[List.drop_zero]⟩ (dj (by show l.length-0<_;omega))
  exact ⟨x,h1,h2⟩
 obtain⟨x,h1,h2⟩:=key
 have eV:iter bd (nG.aZ (ag []) (ae false [.int .i64,.int .i64,.int .i64,.row [.int .i64,.int .i64]] l) n) (0,ag [Slot.own [V.int .i64 0,V.int .i64 0,V.int .i64 0,V.slice .nil 0 0 false] 4])=some x:=h1
 rw[eV,Option.bind_some]
 rcases h2 with⟨sl,ak,rfl,aO⟩|⟨y,sl,ak,rfl⟩
 ·have w:=rj (y:=bX) aO
  have g:(sl.set 0 (aA bX))[0]? =some (aA bX):=List.getElem?_set_self (List.getElem?_eq_some_iff.1 aO).1
  have q:=hl g
  simp only
  rw[w,Option.bind_some,q]
  unfold cL
  rw[ak]
  rfl
 ·simp only
  unfold cL
  rw[ak]
  obtain⟨d,a,m,xs⟩:=y
  try simp -implicitDefEqProofs only[aF,reduceIte,av,az,aB,ax,an.un,aj.un,ai.un,LT.un,ab.un,ab.plain,LT.plain,dY,jQ]
def gf(xs:List bK)(to a m:Int)(y:List (Int×Int)):List bK×Int:=
 if(cL xs to).2=true then
  (if(n1 [(1,a,m,y),(2,(cL xs to).1.2)] to).2=0 then(e7 (n1 [(1,a,m,y),(2,(cL xs to).1.2)] to).1 xs,0)else (xs,(n1 [(1,a,m,y),(2,(cL xs to).1.2)] to).2))
 else (e7 (to,a,m,y) xs,0)
theorem Zx{l:List bK}{n:Int}(h:(n1 l n).2=0):(n1 l n).1.1=n:=by
 unfold n1 at h⊢
 split at h
 ·rename_i h1
  rw[if_pos h1]
  split at h
  ·rename_i h2
   rw[if_pos h2]
   split at h
   ·simp at h
   ·rename_i h3
    rw[if_neg h3]
    split at h
    ·rename_i aI
     rw[if_pos aI]
    ·simp at h
  ·simp at h
 ·simp at h
theorem II{gs:List dr}{xs:List bK}(af:dQ gs xs)(ad:xs.Pairwise fun a b=>a.1<b.1):FY gs:=by
 have h1:(xs.map (·.1)).Pairwise (· <·):=List.pairwise_map.2 ad
 rw[←af.keys]at h1
 exact List.pairwise_map.1 h1
theorem JR{gs:List dr}{xs:List bK}(af:dQ gs xs)(a8:∀x∈xs,ck x.1=true):∀g∈gs,ck g.1=true:=fun g aQ=>by
 obtain⟨x,hx,h1,_⟩:=af.mem g aQ
 rw[h1];exact a8 x hx
theorem JS{gs:List dr}{xs:List bK}(af:dQ gs xs):∀g∈gs,∃y,hD g.2.2.2 y:=fun g aQ=>by
 obtain⟨x,hx,_,_,_,h⟩:=af.mem g aQ
 exact ⟨_,h⟩
theorem JT{sl:List Slot}{v:Nat}{F L R S:au}{d x0 a m to:Int}{gs:List dr}{xs:List bK}{y:List (Int×Int)}{o:Option Nat}(aU:sl[v]? =some (cu F L R d 0))(h:c_ sl gs L o)(af:dQ gs xs)(ad:xs.Pairwise fun a b=>a.1<b.1)(db:∀y∈xs,ck y.1=true)(fR:∀x∈xs,x.2.2.2.length≤2^30)(bh:hD S y)(nk:ck to=true)(aq:xs.length≤2^19):
  ∃aC cr e4,qR (.aa v 5 0) to (x0,a,m,S) (ag sl)=some ((),ag aC)∧aC[v]? =some (cu F cr R d (gf xs to a m y).2)∧kN aC v e4 cr∧dQ e4 (gf xs to a m y).1∧sl.length≤aC.length∧∀j,j≠v→o≠some j→j<sl.length→aC[j]? =sl[j]?:=by
 have hT:=(List.getElem?_eq_some_iff.1 aU).1
 have o7:gs.length=xs.length:=af.len
 have hE:o≠some v:=fun e=>by subst e;exact sE aU h rfl
 have fr:∀{ext:List Slot},c_ (sl++ext) gs L o:=fun{ext}=>h.frame fun id aT=>by subst aT;rw[List.getElem?_append_left h.lt]
 have cS:V.cS (.aa v 5 0)=true:=rfl
 have bm:V.bm (.aa v 5 0)=true:=rfl
 have hq:=B2 xs to (by omega) fR
 unfold qR
 try simp -implicitDefEqProofs only[b9,bR,kv,Nat.zero_add,List.length_append,List.length_singleton]
 simp only[show Slot.own [V.int .i64 x0,V.int .i64 a,V.int .i64 m,V.slice S.a S.len S.cap S.tail] 4=aA (x0,a,m,S)from rfl]
 have iV:(sl++[aA (x0,a,m,S)])[v]? =some (cu F L R d 0):=by rw[List.getElem?_append_left hT];exact aU
 rw[aS cS,aS bm,aS bm,wj iV,Option.bind_some]
 have dH:bB true (ag (sl++[aA (x0,a,m,S)])) [.int .i64,.int .i64,.int .i64,.row [.int .i64,.int .i64]] L=some xs:=fr.read af
 rw[dH,Option.bind_some,hq,Option.bind_some]
 rcases gS:cL xs to with⟨⟨f0,f1,f2,f3⟩,rZ⟩
 simp only[show Slot.own [V.int .i64 0,V.int .i64 0,V.int .i64 0,V.slice .nil 0 0 false] 4=aA bX from rfl]
 have acJ:sl.length+1=(sl++[aA (x0,a,m,S)]).length:=by simp
 have w1:=jU (sl:=sl++[aA (x0,a,m,S)]) (x:=(f0,f1,f2,ae true aD f3))
 simp only[bZ,hg,hf]at w1
 rw[acJ]
 rw[w1,Option.bind_some]
 cases rZ with
 |false=>
  try simp -implicitDefEqProofs only[cond_false,Option.bind_some]
  have aa:((sl++[aA (x0,a,m,S)])++[aA (f0,f1,f2,ae true aD f3)])[sl.length]? =some (aA (x0,a,m,S)):=by simp
  have wp:H.aY (ag ((sl++[aA (x0,a,m,S)])++[aA (f0,f1,f2,ae true aD f3)])) (.aa sl.length 4 0) [.int .i64 to]=some (ag (((sl++[aA (x0,a,m,S)])++[aA (f0,f1,f2,ae true aD f3)]).set sl.length (aA (to,a,m,S)))):=by
   rw[eS (g:=4) aa rfl (by simp)];rfl
  rw[wp,Option.bind_some]
  have ie:((sl++[aA (x0,a,m,S)])++[aA (f0,f1,f2,ae true aD f3)]).set sl.length (aA (to,a,m,S))=sl++[aA (to,a,m,S),aA (f0,f1,f2,ae true aD f3)]:=by simp
  rw[ie,hl (x:=(to,a,m,S)) (by simp),Option.bind_some]
  have js:(sl++[aA (to,a,m,S),aA (f0,f1,f2,ae true aD f3)])[v]? =some (cu F L R d 0):=by rw[List.getElem?_append_left hT];exact aU
  obtain⟨aC,cr,aw,aH,aW,bq,bU,ek⟩:=Kg (to,a,m,S) js fr (II af ad) (JR af db) (JS af) nk (by omega)
  simp only
  rw[aw,Option.bind_some]
  have ao:gf xs to a m y=(e7 (to,a,m,y) xs,0):=by unfold gf;rw[gS];rfl
  rw[ao]
  refine⟨aC,cr,_,rfl,aH,aW,af.put (g:=(to,a,m,S)) (x:=(to,a,m,y)) rfl rfl rfl bh,by simp at bU;omega,fun j aL gb dJ=>by rw[ek j aL gb (by simp;omega),List.getElem?_append_left dJ]⟩
 |true=>
  try simp -implicitDefEqProofs only[cond_true]
  have aa:((sl++[aA (x0,a,m,S)])++[aA (f0,f1,f2,ae true aD f3)])[sl.length]? =some (aA (x0,a,m,S)):=by simp
  have wp:H.aY (ag ((sl++[aA (x0,a,m,S)])++[aA (f0,f1,f2,ae true aD f3)])) (.aa sl.length 4 0) [.int .i64 1]=some (ag (sl++[aA (1,a,m,S),aA (f0,f1,f2,ae true aD f3)])):=by
   rw[eS (g:=4) aa rfl (by simp)]
   have:((sl++[aA (x0,a,m,S)])++[aA (f0,f1,f2,ae true aD f3)]).set sl.length (aA (1,a,m,S))=sl++[aA (1,a,m,S),aA (f0,f1,f2,ae true aD f3)]:=by simp
   exact congrArg (fun z=>some (ag z)) this
  rw[wp,Option.bind_some]
  have aV:(sl++[aA (1,a,m,S),aA (f0,f1,f2,ae true aD f3)])[(sl++[aA (x0,a,m,S)]).length]? =some (aA (f0,f1,f2,ae true aD f3)):=by simp
  have H0:H.aY (ag (sl++[aA (1,a,m,S),aA (f0,f1,f2,ae true aD f3)])) (.aa (sl++[aA (x0,a,m,S)]).length 4 0) [.int .i64 2]=some (ag (sl++[aA (1,a,m,S),aA (2,f1,f2,ae true aD f3)])):=by
   rw[eS (g:=4) aV rfl (by simp)]
   have:(sl++[aA (1,a,m,S),aA (f0,f1,f2,ae true aD f3)]).set (sl++[aA (x0,a,m,S)]).length (aA (2,f1,f2,ae true aD f3))=sl++[aA (1,a,m,S),aA (2,f1,f2,ae true aD f3)]:=by simp
   exact congrArg (fun z=>some (ag z)) this
  rw[H0,Option.bind_some,hl (x:=(1,a,m,S)) (by simp),Option.bind_some]
  simp only
  rw[hl (x:=(2,f1,f2,ae true aD f3)) (by simp),Option.bind_some]
  have h2:=JP (lp:=true) (t:=false) (h:=ag (sl++[aA (1,a,m,S),aA (2,f1,f2,ae true aD f3)])) (gs:=[(1,a,m,S),(2,f1,f2,ae true aD f3)]) (xs:=[(1,a,m,y),(2,f1,f2,f3)]) ⟨_,_,rfl,rfl,rfl,rfl,bh,_,_,rfl,rfl,rfl,rfl,hD.row,rfl⟩
  have Ah:bB true (ag (sl++[aA (1,a,m,S),aA (2,f1,f2,ae true aD f3)])) [.int .i64,.int .i64,.int .i64,.row [.int .i64,.int .i64]] ⟨.lp true [.int .i64 1,.int .i64 a,.int .i64 m,.slice S.a S.len S.cap S.tail,.int .i64 2,.int .i64 f1,.int .i64 f2,.slice (ae true aD f3).a (ae true aD f3).len (ae true aD f3).cap (ae true aD f3).tail] 0,2,2,false⟩=some [(1,a,m,y),(2,f1,f2,f3)]:=h2
  rw[Ah,Option.bind_some,aaX _ to (by simp),Option.bind_some]
  rcases bH:n1 [(1,a,m,y),(2,f1,f2,f3)] to with⟨⟨z0,fJ,gz,z3⟩,pt⟩
  simp only
  have Gq:gf xs to a m y=if pt=0 then(e7 (z0,fJ,gz,z3) xs,0)else (xs,pt):=by unfold gf;rw[gS];simp only[if_true];rw[bH]
  have Si:(sl++[aA (1,a,m,S),aA (2,f1,f2,ae true aD f3)]).length=sl.length+2:=by simp
  simp only[b9,bR,show Slot.own [V.int .i64 0,V.int .i64 0,V.int .i64 0,V.slice .nil 0 0 false] 4=aA bX from rfl]
  have iA:=jU (sl:=sl++[aA (1,a,m,S),aA (2,f1,f2,ae true aD f3)]) (x:=(z0,fJ,gz,ae true aD z3))
  simp only[bZ,hg,hf]at iA
  rw[iA,Option.bind_some]
  have pg:((sl++[aA (1,a,m,S),aA (2,f1,f2,ae true aD f3)])++[aA (z0,fJ,gz,ae true aD z3)])[v]? =some (cu F L R d 0):=by rw[List.append_assoc,List.getElem?_append_left hT];exact aU
  rw[yL pg,Option.bind_some]
  have w5:m8 0 pt=pt:=if_pos rfl
  rw[w5]
  have afn:∀s,c_ (((sl++[aA (1,a,m,S),aA (2,f1,f2,ae true aD f3)])++[aA (z0,fJ,gz,ae true aD z3)]).set v s) gs L o:=fun s=>h.frame fun id aT=>by
   subst aT
   rw[List.getElem?_set_ne (fun e=>hE (by rw[e])),List.append_assoc,List.getElem?_append_left h.lt]
  by_cases qz:pt=0
  ·rw[decide_eq_true qz]
   try simp -implicitDefEqProofs only[Bool.not_true,cond_false]
   rw[if_pos qz]at Gq
   subst qz
   have dP:=oL pg
   rw[dP,hl (x:=(z0,fJ,gz,ae true aD z3)) (by rw[List.getElem?_append_right (Nat.le_refl _)];simp),Option.bind_some]
   have ah6:((sl++[aA (1,a,m,S),aA (2,f1,f2,ae true aD f3)])++[aA (z0,fJ,gz,ae true aD z3)])[sl.length]? =some (aA (1,a,m,S)):=by simp
   have ah7:=rj (y:=(z0,fJ,gz,ae true aD z3)) ah6
   simp only
   rw[ah7,Option.bind_some,Option.bind_some]
   simp only
   have ie:((sl++[aA (1,a,m,S),aA (2,f1,f2,ae true aD f3)])++[aA (z0,fJ,gz,ae true aD z3)]).set sl.length (aA (z0,fJ,gz,ae true aD z3))=sl++[aA (z0,fJ,gz,ae true aD z3),aA (2,f1,f2,ae true aD f3),aA (z0,fJ,gz,ae true aD z3)]:=by simp
   rw[ie]
   have aT:z0=to:=by have:=Zx (l:=[(1,a,m,y),(2,f1,f2,f3)]) (n:=to) (by rw[bH]);rw[bH]at this;exact this
   subst aT
   have Nm:(sl++[aA (z0,fJ,gz,ae true aD z3),aA (2,f1,f2,ae true aD f3),aA (z0,fJ,gz,ae true aD z3)])[sl.length]? =some (aA (z0,fJ,gz,ae true aD z3)):=by simp
   have ah8:H.aY (ag (sl++[aA (z0,fJ,gz,ae true aD z3),aA (2,f1,f2,ae true aD f3),aA (z0,fJ,gz,ae true aD z3)])) (.aa sl.length 4 0) [.int .i64 z0]=some (ag (sl++[aA (z0,fJ,gz,ae true aD z3),aA (2,f1,f2,ae true aD f3),aA (z0,fJ,gz,ae true aD z3)])):=by
    rw[eS (g:=4) Nm rfl (by simp)]
    exact congrArg (fun z=>some (ag z)) (oL Nm)
   rw[ah8,Option.bind_some,hl Nm,Option.bind_some]
   have ow:(sl++[aA (z0,fJ,gz,ae true aD z3),aA (2,f1,f2,ae true aD f3),aA (z0,fJ,gz,ae true aD z3)])[v]? =some (cu F L R d 0):=by rw[List.getElem?_append_left hT];exact aU
   obtain⟨aC,cr,aw,aH,aW,bq,bU,ek⟩:=Kg (z0,fJ,gz,ae true aD z3) ow fr (II af ad) (JR af db) (JS af) nk (by omega)
   simp only
   rw[aw,Option.bind_some,Gq]
   refine⟨aC,cr,_,rfl,aH,aW,af.put (g:=(z0,fJ,gz,ae true aD z3)) (x:=(z0,fJ,gz,z3)) rfl rfl rfl hD.row,by simp at bU;omega,fun j aL gb dJ=>by rw[ek j aL gb (by simp;omega),List.getElem?_append_left dJ]⟩
  ·rw[decide_eq_false qz]
   try simp -implicitDefEqProofs only[Bool.not_false,cond_true,Option.bind_some]
   rw[if_neg qz]at Gq
   rw[Gq]
   refine⟨_,L,gs,rfl,n2 pg _,.inl ⟨o,afn _,hE⟩,af,by simp,fun j aL gb dJ=>?_⟩
   rw[List.getElem?_set_ne (Ne.symm aL),List.append_assoc,List.getElem?_append_left dJ]
def ed (xs:List bK)(n w k:Int):List bK×bK×Int:=
 if(cL xs n).2=true then
  (if(ky (cL xs n).1 w k).2.2=0 then(e7 (ky (cL xs n).1 w k).2.1 xs,(ky (cL xs n).1 w k).1,0)else (xs,(ky (cL xs n).1 w k).1,(ky (cL xs n).1 w k).2.2))
 else (xs,(0,0,0,[]),7)
theorem sd{xs:List bK}{n:Int}(h:(cL xs n).2=true):(cL xs n).1∈xs∧(cL xs n).1.1=n:=by
 unfold cL at h⊢
 cases ak:xs.find? fun y=>decide (y.1=n)with
 |none=>rw[ak]at h;cases h
 |some x=>exact ⟨List.mem_of_find?_eq_some ak,of_decide_eq_true (List.find?_some (p:=fun y:bK=>decide (y.1=n)) ak)⟩
theorem QT{x:bK}{w k:Int}(h:(ky x w k).2.2=0):(ky x w k).2.1.1=x.1:=by
 unfold ky at h⊢
 split at h
 ·rename_i h1
  rw[if_pos h1]
  split at h
  ·rename_i h2
   rw[if_pos h2]
   split at h
   ·simp at h
   ·rename_i h3
    rw[if_neg h3]
  ·simp at h
 ·simp at h
theorem FQ{sl:List Slot}{v:Nat}{F L R:au}{d n w k:Int}{gs:List dr}{xs:List bK}{o:Option Nat}(aU:sl[v]? =some (cu F L R d 0))(h:c_ sl gs L o)(af:dQ gs xs)(ad:xs.Pairwise fun a b=>a.1<b.1)(db:∀y∈xs,ck y.1=true)(fR:∀x∈xs,x.2.2.2.length≤2^30)(aq:xs.length≤2^19):
  ∃aC cr e4 S,tQ (.aa v 5 0) n w k (ag sl)=some (((ed xs n w k).2.1.1,(ed xs n w k).2.1.2.1,(ed xs n w k).2.1.2.2.1,S),ag aC)∧hD S (ed xs n w k).2.1.2.2.2∧aC[v]? =some (cu F cr R d (ed xs n w k).2.2)∧c_ aC e4 cr o∧dQ e4 (ed xs n w k).1∧sl.length≤aC.length∧∀j,j≠v→o≠some j→j<sl.length→aC[j]? =sl[j]?:=by
 have hT:=(List.getElem?_eq_some_iff.1 aU).1
 have o7:gs.length=xs.length:=af.len
 have hE:o≠some v:=fun e=>by subst e;exact sE aU h rfl
 have fr:∀{ext:List Slot},c_ (sl++ext) gs L o:=fun{ext}=>h.frame fun id aT=>by subst aT;rw[List.getElem?_append_left h.lt]
 have xp:∀ext:List Slot,(sl++ext)[v]? =some (cu F L R d 0):=fun ext=>by rw[List.getElem?_append_left hT];exact aU
 have cS:V.cS (.aa v 5 0)=true:=rfl
 have bm:V.bm (.aa v 5 0)=true:=rfl
 have hq:=B2 xs n (by omega) fR
 unfold tQ
 try simp -implicitDefEqProofs only[b9,bR,kv,Nat.zero_add]
 simp only[show Slot.own [V.int .i64 0,V.int .i64 0,V.int .i64 0,V.slice .nil 0 0 false] 4=aA bX from rfl]
 rw[aS cS,aS bm,aS bm,wj (xp _),Option.bind_some]
 have dH:bB true (ag (sl++[aA bX])) [.int .i64,.int .i64,.int .i64,.row [.int .i64,.int .i64]] L=some xs:=fr.read af
 rw[dH,Option.bind_some,hq,Option.bind_some]
 have e6:(cL xs n).2=true→(cL xs n).1∈xs∧(cL xs n).1.1=n:=sd
 rcases gS:cL xs n with⟨⟨f0,f1,f2,f3⟩,rZ⟩
 rw[gS]at e6
 have w1:=jU (sl:=sl++[aA bX]) (x:=(f0,f1,f2,ae true aD f3))
 simp only[bZ,hg,hf]at w1
 simp only
 rw[w1,Option.bind_some]
 have Mh:(sl++[aA bX])++[aA (f0,f1,f2,ae true aD f3)]=sl++[aA bX,aA (f0,f1,f2,ae true aD f3)]:=by simp
 rw[Mh]
 cases rZ with
 |false=>
  try simp -implicitDefEqProofs only[Bool.not_false,cond_true]
  have bF:ed xs n w k=(xs,(0,0,0,[]),7):=by unfold ed;rw[gS];rfl
  rw[bF,yL (xp _),Option.bind_some]
  have jG:sl.length≠v:=by omega
  have aa:((sl++[aA bX,aA (f0,f1,f2,ae true aD f3)]).set v (cu F L R d (m8 0 7)))[sl.length]? =some (aA bX):=by rw[List.getElem?_set_ne (Ne.symm jG)];simp
  have wp:=rj (y:=bX) aa
  simp only
  rw[wp,oL aa,Option.bind_some,hl aa,Option.bind_some]
  refine⟨_,L,gs,_,rfl,hD.nil,n2 (xp _) _,h.frame fun id aT=>?_,af,by simp,fun j aL gb dJ=>?_⟩
  ·subst aT
   rw[List.getElem?_set_ne (fun e=>hE (by rw[e])),List.getElem?_append_left h.lt]
  ·rw[List.getElem?_set_ne (Ne.symm aL),List.getElem?_append_left dJ]
 |true=>
  obtain⟨fo,jy⟩:=e6 rfl
  try simp -implicitDefEqProofs only[Bool.not_true,cond_false]
  have aV:(sl++[aA bX,aA (f0,f1,f2,ae true aD f3)])[(sl++[aA bX]).length]? =some (aA (f0,f1,f2,ae true aD f3)):=by simp
  rw[hl aV,Option.bind_some]
  simp only
  have ah9:bB true (ag (sl++[aA bX,aA (f0,f1,f2,ae true aD f3)])) [.int .i64,.int .i64] (ae true aD f3)=some f3:=hL rfl
  rw[ah9,Option.bind_some,Zv (f0,f1,f2,f3) w k (by have:=fR _ fo;simp only at this⊢;omega),Option.bind_some]
  rcases bH:ky (f0,f1,f2,f3) w k with⟨⟨d0,d1,d2,d3⟩,⟨dp,bw,bJ,ch⟩,pt⟩
  have Hx:ed xs n w k=if pt=0 then(e7 (dp,bw,bJ,ch) xs,(d0,d1,d2,d3),0)else (xs,(d0,d1,d2,d3),pt):=by unfold ed;rw[gS];simp only[if_true];rw[bH]
  simp only
  have iA:H.aY (ag ((sl++[aA bX,aA (f0,f1,f2,ae true aD f3)])++[aA bX,aA bX])) (.aa (sl++[aA bX,aA (f0,f1,f2,ae true aD f3)]).length 4 0) [.int .i64 d0,.int .i64 d1,.int .i64 d2,.slice (ae true aD d3).a d3.length d3.length true]=some (ag (sl++[aA bX,aA (f0,f1,f2,ae true aD f3),aA (d0,d1,d2,ae true aD d3),aA bX])):=by
   rw[eS (g:=4) (cs:=[V.int .i64 0,V.int .i64 0,V.int .i64 0,V.slice .nil 0 0 false]) (e:=4) (by simp) rfl (by simp)]
   have:((sl++[aA bX,aA (f0,f1,f2,ae true aD f3)])++[aA bX,aA bX]).set (sl++[aA bX,aA (f0,f1,f2,ae true aD f3)]).length (aA (d0,d1,d2,ae true aD d3))=sl++[aA bX,aA (f0,f1,f2,ae true aD f3),aA (d0,d1,d2,ae true aD d3),aA bX]:=by simp
   exact congrArg (fun z=>some (ag z)) this
  have mQ:H.aY (ag (sl++[aA bX,aA (f0,f1,f2,ae true aD f3),aA (d0,d1,d2,ae true aD d3),aA bX])) (.aa ((sl++[aA bX,aA (f0,f1,f2,ae true aD f3)])++[aA bX]).length 4 0) [.int .i64 dp,.int .i64 bw,.int .i64 bJ,.slice (ae true aD ch).a ch.length ch.length true]=some (ag (sl++[aA bX,aA (f0,f1,f2,ae true aD f3),aA (d0,d1,d2,ae true aD d3),aA (dp,bw,bJ,ae true aD ch)])):=by
   rw[eS (g:=4) (cs:=[V.int .i64 0,V.int .i64 0,V.int .i64 0,V.slice .nil 0 0 false]) (e:=4) (by simp) rfl (by simp)]
   have:(sl++[aA bX,aA (f0,f1,f2,ae true aD f3),aA (d0,d1,d2,ae true aD d3),aA bX]).set ((sl++[aA bX,aA (f0,f1,f2,ae true aD f3)])++[aA bX]).length (aA (dp,bw,bJ,ae true aD ch))=sl++[aA bX,aA (f0,f1,f2,ae true aD f3),aA (d0,d1,d2,ae true aD d3),aA (dp,bw,bJ,ae true aD ch)]:=by simp
   exact congrArg (fun z=>some (ag z)) this
  have bP:(sl++[aA bX,aA (f0,f1,f2,ae true aD f3)])++[aA bX]++[aA bX]=(sl++[aA bX,aA (f0,f1,f2,ae true aD f3)])++[aA bX,aA bX]:=by simp
  simp only[b9,bR]
  rw[bP,iA,Option.bind_some,mQ,Option.bind_some,yL (xp _),Option.bind_some]
  have w5:m8 0 pt=pt:=if_pos rfl
  rw[w5]
  have z8:∀cK:List Slot,cK.length≥sl.length+4→(∀j,sl.length≤j→j<sl.length+4→cK[j]? =[aA bX,aA (f0,f1,f2,ae true aD f3),aA (d0,d1,d2,ae true aD d3),aA (dp,bw,bJ,ae true aD ch)][j-sl.length]?)→
    (ah (.agg [.int .i64,.int .i64,.int .i64,.slice]) (ag cK) (.aa (sl++[aA bX,aA (f0,f1,f2,ae true aD f3)]).length 4 0)=some (d0,d1,d2,ae true aD d3))∧cK[sl.length]? =some (aA bX):=fun cK hlen aL=>by
   have h1:=aL (sl.length+2) (by omega) (by omega)
   have aO:=aL sl.length (by omega) (by omega)
   rw[Nat.add_sub_cancel_left]at h1
   rw[Nat.sub_self]at aO
   refine⟨?_,aO⟩
   rw[show(sl++[aA bX,aA (f0,f1,f2,ae true aD f3)]).length=sl.length+2 by simp]
   exact hl h1
  have ld:∀cK:List Slot,cK.length≥sl.length+4→(∀j,sl.length≤j→j<sl.length+4→cK[j]? =[aA bX,aA (f0,f1,f2,ae true aD f3),aA (d0,d1,d2,ae true aD d3),aA (dp,bw,bJ,ae true aD ch)][j-sl.length]?)→
    ((ah (.agg [.int .i64,.int .i64,.int .i64,.slice]) (ag cK) (.aa (sl++[aA bX,aA (f0,f1,f2,ae true aD f3)]).length 4 0)).bind fun x=>(H.aY (ag cK) (.aa sl.length 4 0) [.int .i64 x.1,.int .i64 x.2.1,.int .i64 x.2.2.1,.slice x.2.2.2.a x.2.2.2.len x.2.2.2.cap x.2.2.2.tail]).bind fun gU=>(ah (.agg [.int .i64,.int .i64,.int .i64,.slice]) gU (.aa sl.length 4 0)).bind fun y=>some ((y.1,y.2.1,y.2.2.1,y.2.2.2),gU))=some ((d0,d1,d2,ae true aD d3),ag (cK.set sl.length (aA (d0,d1,d2,ae true aD d3)))):=fun cK hlen aL=>by
   obtain⟨aw,aH⟩:=z8 cK hlen aL
   rw[aw,Option.bind_some]
   have H0:=rj (y:=(d0,d1,d2,ae true aD d3)) aH
   simp only at H0⊢
   rw[H0,Option.bind_some,hl (List.getElem?_set_self (by omega)),Option.bind_some]
  by_cases qz:pt=0
  ·rw[decide_eq_true qz]
   try simp -implicitDefEqProofs only[Bool.not_true,Bool.not_false,cond_true]
   rw[if_pos qz]at Hx
   subst qz
   rw[oL (xp _)]
   have lZ:(sl++[aA bX,aA (f0,f1,f2,ae true aD f3),aA (d0,d1,d2,ae true aD d3),aA (dp,bw,bJ,ae true aD ch)])[((sl++[aA bX,aA (f0,f1,f2,ae true aD f3)])++[aA bX]).length]? =some (aA (dp,bw,bJ,ae true aD ch)):=by simp
   rw[hl lZ,Option.bind_some]
   have aT:dp=f0:=by have:=QT (x:=(f0,f1,f2,f3)) (w:=w) (k:=k) (by rw[bH]);rw[bH]at this;exact this
   have akd:f0=n:=jy
   obtain⟨aC,cr,aw,aH,aW,bq,bU,ek⟩:=Kg (dp,bw,bJ,ae true aD ch) (xp _) fr (II af ad) (JR af db) (JS af) (by rw[aT];exact db _ fo) (by omega)
   simp only
   rw[aw,Option.bind_some,Option.bind_some]
   simp only
   have ou:oS gs dp=true:=by
    have h1:(gs.map (·.1)).any (fun z=>decide (z=dp))=true:=by
     rw[af.keys,List.any_map,List.any_eq_true]
     exact ⟨_,fo,by simp[aT]⟩
    rw[List.any_map]at h1
    exact h1
   have dG:=bq (.inr ou)
   have Nn:∀j,sl.length≤j→j<sl.length+4→aC[j]? =[aA bX,aA (f0,f1,f2,ae true aD f3),aA (d0,d1,d2,ae true aD d3),aA (dp,bw,bJ,ae true aD ch)][j-sl.length]?:=fun j h1 h2=>by
    rw[ek j (by omega) (fun e=>by subst e;have:=h.lt;omega) (by simp;omega),List.getElem?_append_right h1]
   have he:=ld aC (by simp at bU;omega) Nn
   rw[Hx]
   refine⟨_,cr,_,ae true aD d3,he,hD.row,by rw[List.getElem?_set_ne (by omega)];exact aH,dG.frame fun id aT=>?_,af.put (g:=(dp,bw,bJ,ae true aD ch)) (x:=(dp,bw,bJ,ch)) rfl rfl rfl hD.row,by simp at bU⊢;omega,fun j aL gb dJ=>?_⟩
   ·subst aT
    rw[List.getElem?_set_ne (by have:=h.lt;omega)]
   ·rw[List.getElem?_set_ne (by omega),ek j aL gb (by simp;omega),List.getElem?_append_left dJ]
  ·rw[decide_eq_false qz]
   try simp -implicitDefEqProofs only[Bool.not_true,Bool.not_false,cond_false,Option.bind_some]
   rw[if_neg qz]at Hx
   have Nn:∀j,sl.length≤j→j<sl.length+4→((sl++[aA bX,aA (f0,f1,f2,ae true aD f3),aA (d0,d1,d2,ae true aD d3),aA (dp,bw,bJ,ae true aD ch)]).set v (cu F L R d pt))[j]? =[aA bX,aA (f0,f1,f2,ae true aD f3),aA (d0,d1,d2,ae true aD d3),aA (dp,bw,bJ,ae true aD ch)][j-sl.length]?:=fun j h1 h2=>by
    rw[List.getElem?_set_ne (by omega),List.getElem?_append_right h1]
   have he:=ld _ (by simp) Nn
   rw[Hx]
   refine⟨_,L,gs,ae true aD d3,he,hD.row,by rw[List.getElem?_set_ne (by omega)];exact n2 (xp _) _,h.frame fun id aT=>?_,af,by simp,fun j aL gb dJ=>?_⟩
   ·subst aT
    rw[List.getElem?_set_ne (by have:=h.lt;omega),List.getElem?_set_ne (fun e=>hE (by rw[e])),List.getElem?_append_left h.lt]
   ·rw[List.getElem?_set_ne (by omega),List.getElem?_set_ne (Ne.symm aL),List.getElem?_append_left dJ]
abbrev cR:List ab:=[.int .i64,.int .i64,.int .i64,.str,.slice]
abbrev bT:List ab:=[.int .i64,.int .i64,.int .i64,.str,.row [.str]]
abbrev gP:=Int×Int×Int×ByteArray×au
abbrev dt:gP:=(0,0,0,⟨#[]⟩,⟨.nil,0,0,false⟩)
abbrev bA(g:gP):Slot:=.own [.int .i64 g.1,.int .i64 g.2.1,.int .i64 g.2.2.1,.str g.2.2.2.1,.slice g.2.2.2.2.a g.2.2.2.2.len g.2.2.2.2.cap g.2.2.2.2.tail] 5
abbrev dI(es:List (Int×gP)):Slot:=.cZ (ho gg nZ es)
theorem Rv:∀es:List (Int×gP),zY gg nZ (ho gg nZ es)=some es
 |[]=>rfl
 |e::es=>by
  show(ai.pack gg (gg.un e.1)).bind _=_
  have h1:ai.pack gg (gg.un e.1)=some e.1:=rfl
  have h2:ai.pack nZ (nZ.un e.2)=some e.2:=rfl
  rw[h1,Option.bind_some,h2,Option.bind_some]
  have:=Rv es
  rw[show es.map (fun p=>(ai.un gg p.1,ai.un nZ p.2))=ho gg nZ es from rfl,this]
  rfl
theorem BU{sl:List Slot}{m:Nat}{es:List (Int×gP)}(h:sl[m]? =some (dI es)):(ag sl).cZ m gg nZ=some es:=by
 simp only[H.cZ,fO,h,Option.getD_some]
 exact Rv es
theorem I0{x:Int}:∀{es:List (Int×gP)},(∀p∈es,p.1≠x)→gA gg x es=none
 |[],_=>rfl
 |e::es,h=>by
  have h1:ai.er gg x e.1=false:=decide_eq_false (fun he=>h e (by simp) he.symm)
  simp only[gA,h1,cond_false,I0 (es:=es) fun p aa=>h p (by simp[aa]),Option.map_none]
theorem Py{x:Int}:∀{es:List (Int×gP)} {i:Nat} {p:Int×gP},es[i]? =some p→p.1=x→(∀j q,j<i→es[j]? =some q→q.1≠x)→gA gg x es=some i
 |[],i,p,h,_,_=>by cases h
 |e::es,0,p,h,hx,_=>by
  cases h
  have h1:ai.er gg x e.1=true:=decide_eq_true hx.symm
  simp only[gA,h1,cond_true]
 |e::es,i+1,p,h,hx,aM=>by
  have h1:ai.er gg x e.1=false:=decide_eq_false (fun he=>aM 0 e (by omega) rfl he.symm)
  have:=Py (es:=es) (i:=i) (p:=p) (by simpa using h) hx fun j q aL aV=>aM (j+1) q (by omega) (by simpa using aV)
  simp only[gA,h1,cond_false,this,Option.map_some]
theorem Jz{sl:List Slot}{m:Nat}{es:List (Int×gP)}{x:Int}{g:gP}(h:sl[m]? =some (dI es))(aM:∀p∈es,p.1≠x):p3 (ag sl) m gg nZ x g=some (ag (sl.set m (dI (es++[(x,g)])))):=by
 unfold p3
 rw[BU h,Option.map_some]
 have:uJ gg x g es=es++[(x,g)]:=by unfold uJ;rw[I0 aM]
 rw[this,k5 (List.getElem?_eq_some_iff.1 h).1]
theorem Yu{sl:List Slot}{m:Nat}{es:List (Int×gP)}{x:Int}{z:gP}(h:sl[m]? =some (dI es))(aM:∀p∈es,p.1≠x):my (ag sl) m gg nZ z x=some (z,false):=by
 unfold my
 rw[BU h,Option.map_some]
 unfold p2
 rw[I0 aM]
theorem FD{sl:List Slot}{m:Nat}{es:List (Int×gP)}{x:Int}{z g:gP}(h:sl[m]? =some (dI es))(aa:(es.map (·.1)).Nodup)(aQ:(x,g)∈es):my (ag sl) m gg nZ z x=some (g,true):=by
 unfold my
 rw[BU h,Option.map_some]
 obtain⟨i,hi,he⟩:=List.getElem_of_mem aQ
 have h1:es[i]? =some (x,g):=by rw[List.getElem?_eq_getElem hi,he]
 unfold p2
 rw[Py (es:=es) h1 rfl fun j q aL aV e=>by
  have nd:=List.pairwise_iff_getElem.1 aa j i (by simp;omega) (by simpa using hi) aL
  apply nd
  obtain⟨dJ,DJ⟩:=List.getElem?_eq_some_iff.1 aV
  simp only[List.getElem_map,he]
  rw[DJ,e]]
 simp only
 rw[h1]
 rfl
theorem sn{sl:List Slot}{g:gP}:H.aY (ag (sl++[bA dt])) (.aa sl.length 5 0) [.int .i64 g.1,.int .i64 g.2.1,.int .i64 g.2.2.1,.str g.2.2.2.1,.slice g.2.2.2.2.a g.2.2.2.2.len g.2.2.2.2.cap g.2.2.2.2.tail]=some (ag (sl++[bA g])):=by
 rw[eS (g:=5) (cs:=[V.int .i64 0,V.int .i64 0,V.int .i64 0,V.str ⟨#[]⟩,V.slice .nil 0 0 false]) (e:=5) (by simp) rfl (by simp)]
 have:(sl++[bA dt]).set sl.length (bA g)=sl++[bA g]:=by simp
 exact congrArg (fun z=>some (ag z)) this
theorem jX{sl:List Slot}{i:Nat}{g:gP}(h:sl[i]? =some (bA g)):ah (.leaf (.int .i64)) (ag sl) (.aa i 5 0)=some g.1∧ah (.agg cR) (ag sl) (.aa i 5 0)=some g∧ah (.leaf .slice) (ag sl) (.aa i 5 4)=some g.2.2.2.2:=by
 refine⟨by rw[e5 (g:=5) h rfl];rfl, ?_,by rw[e5 (g:=5) h rfl];rfl⟩
 rw[oQ (by simp),fO,h]
 rfl
theorem FM{sl:List Slot}{b1:List gP}{F:au}{o:Option Nat}{i:Nat}{g:gP}(h:Acc sl cR b1 F o)(hx:b1[i]? =some g):ah (.agg cR) (ag sl) (V.add F.a (i*5))=some g:=by
 cases o with
 |none=>obtain⟨rfl,_⟩:=h;cases hx
 |some id=>
  obtain⟨h1,rfl,h3⟩:=h
  simp only[fh,kv]
  rw[Jt (ls:=cR) (xs:=b1) (w:=5) (ms:=cR) h3 rfl rfl rfl (by omega),hx]
  rfl
theorem XA{sl:List Slot}{h1:H}{m:Nat}{b1:List gP}{F:au}{o:Option Nat}(hm:h1.next=m)(ad:sl[m]? =some (dI []))(hI:Acc sl cR b1 F o)(aa:(b1.map (·.1)).Nodup)(aq:b1.length≤2^20):
  ∃ext,iter bd (jP.aZ h1 F) (0,ag sl)=some (.aP (),ag (sl.set m (dI (b1.map fun g=>(g.1,g)))++ext)):=by
 have hlen:=hI.len
 have fQ:=(List.getElem?_eq_some_iff.1 ad).1
 have DN:∀id,o=some id→id≠m:=fun id aT e=>by
  subst aT
  have:=hI.2.2
  rw[e,ad]at this
  simp at this
 obtain⟨x,aw,ext,aH⟩:=ft (f:=jP.aZ h1 F)
  (Inv:=fun st=>∃(i:Nat) (ext:List Slot),st=((i:Int),ag (sl.set m (dI ((b1.take i).map fun g=>(g.1,g)))++ext))∧i≤b1.length)
  (Post:=fun x=>∃ext,x=(.aP (),ag (sl.set m (dI (b1.map fun g=>(g.1,g)))++ext))) (fun st=>b1.length-st.1.toNat) (fun st a6=>by
   obtain⟨i,ext,rfl,hi⟩:=a6
   have dG:∀s e2,Acc (sl.set m s++e2) cR b1 F o:=fun s e2=>hI.frame fun id aT=>by
    subst aT
    rw[List.getElem?_append_left (by simpa using hI.lt),List.getElem?_set_ne (Ne.symm (DN id rfl))]
   by_cases bn:i<b1.length
   ·have hx:b1[i]? =some b1[i]:=List.getElem?_eq_getElem bn
    left
    refine⟨(((i+1:Nat):Int),ag (sl.set m (dI ((b1.take (i+1)).map fun g=>(g.1,g)))++(ext++[bA b1[i]]))), ?_,⟨i+1,_,rfl,by omega⟩,by simp only[Int.toNat_natCast];omega⟩
    unfold jP.aZ
    try simp -implicitDefEqProofs only[hlen,b9,bR]
    rw[decide_eq_true (by omega),cond_true,aS (by omega),Int.toNat_natCast,FM (dG _ _) hx,Option.bind_some]
    simp only[show Slot.own [V.int .i64 0,V.int .i64 0,V.int .i64 0,V.str ⟨#[]⟩,V.slice .nil 0 0 false] 5=bA dt from rfl]
    rw[sn (g:=b1[i]),Option.bind_some]
    have aQ:((sl.set m (dI ((b1.take i).map fun g=>(g.1,g)))++ext)++[bA b1[i]])[(sl.set m (dI ((b1.take i).map fun g=>(g.1,g)))++ext).length]? =some (bA b1[i]):=by rw[List.getElem?_append_right (Nat.le_refl _),Nat.sub_self];rfl
    obtain⟨bw,bJ,ch⟩:=jX aQ
    rw[bw,Option.bind_some,bJ,Option.bind_some]
    have xq:((sl.set m (dI ((b1.take i).map fun g=>(g.1,g)))++ext)++[bA b1[i]])[m]? =some (dI ((b1.take i).map fun g=>(g.1,g))):=by
     rw[List.append_assoc,List.getElem?_append_left (by simpa using fQ),List.getElem?_set_self fQ]
    have ie:=Jz (x:=b1[i].1) (g:=b1[i]) xq fun p xi e=>by
     obtain⟨g,hA,rfl⟩:=List.mem_map.1 xi
     obtain⟨k,aN,rfl⟩:=List.getElem_of_mem hA
     simp only[List.length_take]at aN
     have:=List.pairwise_iff_getElem.1 aa k i (by simp;omega) (by simpa using bn) (by omega)
     apply this
     simp only[List.getElem_map]
     rw[List.getElem_take]at e
     exact e
    simp only[hm]
    rw[ie,Option.bind_some,dO (by omega)]
    have aG:(b1.take i).map (fun g=>(g.1,g))++[(b1[i].1,b1[i])]=(b1.take (i+1)).map fun g=>(g.1,g):=by
     rw[List.take_add_one,hx,List.map_append]
     rfl
    have e2:((sl.set m (dI ((b1.take i).map fun g=>(g.1,g)))++ext)++[bA b1[i]]).set m (dI ((b1.take i).map (fun g=>(g.1,g))++[(b1[i].1,b1[i])]))=sl.set m (dI ((b1.take (i+1)).map fun g=>(g.1,g)))++(ext++[bA b1[i]]):=by
     rw[aG,List.append_assoc,List.set_append_left _ _ (by simpa using fQ),List.set_set]
    rw[e2]
   ·right
    have:i=b1.length:=by omega
    subst this
    refine⟨_, ?_,ext,rfl⟩
    unfold jP.aZ
    try simp -implicitDefEqProofs only[hlen]
    rw[decide_eq_false (by omega),cond_false,List.take_length]) bd ((0:Int),ag sl) ⟨0,[],by rw[List.take_zero,List.map_nil,List.append_nil,oL ad];rfl,Nat.zero_le _⟩ (dj (by show b1.length-0<_;omega))
 exact ⟨ext,by rw[aw,aH]⟩
def j4{β:Type}(x:Int×β):List (Int×β)→List (Int×β)
 |[]=>[x]
 |y::ys=>if x.1<y.1 then x::y::ys else y::j4 x ys
theorem ud{β:Type}(x:Int×β):∀ys,(j4 x ys).Perm (x::ys)
 |[]=>List.Perm.refl _
 |y::ys=>by
  unfold j4
  split
  ·exact List.Perm.refl _
  ·exact ((ud x ys).cons y).trans (List.Perm.swap _ _ _)
theorem IJ{β:Type}{x:Int×β}:∀{ys:List (Int×β)},(ys.map (·.1)).Pairwise (· <·)→(∀y∈ys,y.1≠x.1)→((j4 x ys).map (·.1)).Pairwise (· <·)
 |[],_,_=>by simp[j4]
 |y::ys,h,aM=>by
  have ar:=h
  rw[List.map_cons,List.pairwise_cons]at ar
  unfold j4
  split
  ·rename_i bn
   rw[List.map_cons,List.map_cons,List.pairwise_cons]
   refine⟨fun z bH=>?_,by rw[←List.map_cons (f:=fun p:Int×β=>p.1)];exact h⟩
   rcases List.mem_cons.1 bH with rfl |bH
   ·exact bn
   ·have:=ar.1 z bH;omega
  ·rename_i hy
   have:=aM y (by simp)
   rw[List.map_cons,List.pairwise_cons]
   refine⟨fun z bH=>?_,IJ ar.2 fun z bH=>aM z (by simp[bH])⟩
   obtain⟨p,aa,rfl⟩:=List.mem_map.1 bH
   rcases List.mem_cons.1 ((ud x ys).mem_iff.1 aa)with rfl |aa
   ·show y.1<_;omega
   ·exact ar.1 _ (List.mem_map.2 ⟨p,aa,rfl⟩)
theorem Zy{l b3:List Int}(aa:l.Perm b3)(ad:b3.Pairwise (· <·)):pW l=b3:=by
 have h1:pW l=pW b3:=mergeSort_of_perm_i aa
 rw[h1]
 exact List.mergeSort_of_pairwise (ad.imp fun h=>by simp only[leI,decide_eq_true_eq];omega)
theorem XB{sl:List Slot}{h1:H}{m v:Nat}{es:List (Int×gP)}{gs:List gP}{L R:au}{d e:Int}(hm:h1.next=m)(ad:sl[m]? =some (dI es))(aa:(es.map (·.1)).Nodup)(aQ:∀g∈gs,(g.1,g)∈es)(aU:sl[v]? =some (cu ⟨.nil,0,0,false⟩ L R d e))(aq:gs.length≤2^20):
  ∃aC dq dL,iter bd (jP.cl (.aa v 5 0) h1 (ae true [.int .i64] (gs.map (·.1)))) (0,ag sl)=some (.aP (),ag aC)∧Acc aC cR gs dq dL∧aC[v]? =some (cu dq L R d e)∧(∀id,dL=some id→sl.length≤id)∧sl.length≤aC.length∧∀j,j≠v→j<sl.length→aC[j]? =sl[j]?:=by
 have hT:=(List.getElem?_eq_some_iff.1 aU).1
 have fQ:=(List.getElem?_eq_some_iff.1 ad).1
 have aia:m≠v:=fun h=>by rw[h,aU]at ad;simp at ad
 have cS:V.cS (.aa v 5 0)=true:=rfl
 have bm:V.bm (.aa v 5 0)=true:=rfl
 obtain⟨x,aw,aC,dq,dL,rfl,aH,aW,bq,bU,ek⟩:=ft (f:=jP.cl (.aa v 5 0) h1 (ae true [.int .i64] (gs.map (·.1))))
  (Inv:=fun st=>∃(i:Nat) (aC:List Slot) (dq:au) (dL:Option Nat),st=((i:Int),ag aC)∧i≤gs.length∧Acc aC cR (gs.take i) dq dL∧aC[v]? =some (cu dq L R d e)∧(∀id,dL=some id→sl.length≤id)∧sl.length≤aC.length∧∀j,j≠v→j<sl.length→aC[j]? =sl[j]?)
  (Post:=fun x=>∃aC dq dL,x=(.aP (),ag aC)∧Acc aC cR gs dq dL∧aC[v]? =some (cu dq L R d e)∧(∀id,dL=some id→sl.length≤id)∧sl.length≤aC.length∧∀j,j≠v→j<sl.length→aC[j]? =sl[j]?) (fun st=>gs.length-st.1.toNat) (fun st a6=>by
   obtain⟨i,aC,dq,dL,rfl,hi,dG,mF,tD,KR,eg⟩:=a6
   by_cases bn:i<gs.length
   ·left
    have hx:gs[i]? =some gs[i]:=List.getElem?_eq_getElem bn
    obtain⟨bc,cK,id,a1,a2,a3,a4,a5⟩:=dG.append (w:=5) (b:=64) (x:=gs[i]) (vs:=[.int .i64 gs[i].1,.int .i64 gs[i].2.1,.int .i64 gs[i].2.2.1,.str gs[i].2.2.2.1,.slice gs[i].2.2.2.2.a gs[i].2.2.2.2.len gs[i].2.2.2.2.cap gs[i].2.2.2.2.tail]) rfl (by omega) (by rw[List.length_take];omega) (by omega) rfl
    have afo:=(List.getElem?_eq_some_iff.1 mF).1
    have hE:dL≠some v:=fun h=>by have:=tD v h;omega
    have GX:id≠v:=by
     rcases a3 with a3|⟨_,a3⟩
     ·exact fun h=>hE (by rw[a3,h])
     ·omega
    have js:cK[v]? =some (cu dq L R d e):=by rw[a5 v hE afo];exact mF
    refine⟨(((i+1:Nat):Int),ag (cK.set v (cu bc L R d e))), ?_,⟨i+1,_,bc,some id,rfl,by omega, ?_,n2 js _,fun da h=>?_,by simp;omega,fun j aL dJ=>?_⟩,by simp only[Int.toNat_natCast];omega⟩
    ·unfold jP.cl
     try simp -implicitDefEqProofs only[bZ,List.length_map,gk,kv,Nat.zero_add]
     rw[decide_eq_true (by omega),cond_true,aS (by omega),Int.toNat_natCast,uj,List.getElem?_map,hx]
     simp only[Option.map_some,Option.bind_some]
     rw[aS cS,aS bm,aS bm,St mF,Option.bind_some]
     have w7:aC[m]? =some (dI es):=by rw[eg m aia fQ];exact ad
     have xr:=FD (z:=dt) w7 aa (aQ gs[i] (List.getElem_mem bn))
     simp only[hm]
     rw[xr,Option.bind_some]
     simp only
     rw[a1,Option.bind_some]
     simp only
     rw[aS cS,aS bm,aS bm,Su js,Option.bind_some,dO (by omega)]
    ·have:gs.take (i+1)=gs.take i++[gs[i]]:=by rw[List.take_add_one,hx];rfl
     rw[this]
     exact a2.frame fun da h=>by cases h;rw[List.getElem?_set_ne (Ne.symm GX)]
    ·cases h
     rcases a3 with a3|⟨_,a3⟩
     ·exact tD _ a3
     ·omega
    ·rw[List.getElem?_set_ne (Ne.symm aL),a5 j (fun h=>by have:=tD j h;omega) (by omega),eg j aL dJ]
   ·right
    have:i=gs.length:=by omega
    subst this
    rw[List.take_length]at dG
    refine⟨_, ?_,aC,dq,dL,rfl,dG,mF,tD,KR,eg⟩
    unfold jP.cl
    try simp -implicitDefEqProofs only[bZ,List.length_map]
    rw[decide_eq_false (by omega),cond_false]) bd ((0:Int),ag sl) ⟨0,sl,⟨.nil,0,0,false⟩,none,rfl,Nat.zero_le _,Acc.nil,aU,(fun _ h=>by cases h),Nat.le_refl _,fun _ _ _=>rfl⟩ (dj (by show gs.length-0<_;omega))
 exact ⟨aC,dq,dL,aw,aH,aW,bq,bU,ek⟩
abbrev n4:=Int×Int×Int×Int×Int×Int×Int×Int×Int×ByteArray×au
abbrev ct (s:n4):Slot:=.own [.int .i64 s.1,.int .i64 s.2.1,.int .i64 s.2.2.1,.int .i64 s.2.2.2.1,.int .i64 s.2.2.2.2.1,.int .i64 s.2.2.2.2.2.1,.int .i64 s.2.2.2.2.2.2.1,.int .i64 s.2.2.2.2.2.2.2.1,.int .i64 s.2.2.2.2.2.2.2.2.1,.str s.2.2.2.2.2.2.2.2.2.1,.slice s.2.2.2.2.2.2.2.2.2.2.a s.2.2.2.2.2.2.2.2.2.2.len s.2.2.2.2.2.2.2.2.2.2.cap s.2.2.2.2.2.2.2.2.2.2.tail] 11
def En(S:au)(y:List ByteArray):Prop:=∀h,bB true h [.str] S=some y
theorem En.row{f:Bool}{y:List ByteArray}:En (ae f [.str] y) y:=fun h=>hL rfl
theorem hD.one{f:Bool}{a b:Int}:hD ⟨.lp true [.int .i64 a,.int .i64 b] 0,1,1,f⟩ [(a,b)]:=fun lp h=>jb (xs:=([(a,b)]:List (LT aD))) rfl
theorem Sx{n:Int}(h:ck n=true):(Lit.int .i64 n).wf=true:=by
 have:=uf.1 h
 have h1:IntKind.i64.min=-9223372036854775808:=rfl
 have h2:IntKind.i64.max=9223372036854775807:=rfl
 simp only[Lit.wf,Bool.and_eq_true,decide_eq_true_eq,h1,h2]
 omega
section
variable{sl:List Slot}{i:Nat}{s:n4}
theorem sF(h:sl[i]? =some (ct s)):ah (.leaf (.int .i64)) (ag sl) (.aa i 11 0)=some s.1∧ah (.leaf (.int .i64)) (ag sl) (.aa i 11 2)=some s.2.2.1∧ah (.leaf (.int .i64)) (ag sl) (.aa i 11 3)=some s.2.2.2.1∧ah (.leaf (.int .i64)) (ag sl) (.aa i 11 4)=some s.2.2.2.2.1∧ah (.leaf (.int .i64)) (ag sl) (.aa i 11 5)=some s.2.2.2.2.2.1∧ah (.leaf (.int .i64)) (ag sl) (.aa i 11 6)=some s.2.2.2.2.2.2.1:=by
 refine⟨?_, ?_, ?_, ?_, ?_, ?_⟩<;>(rw[e5 (g:=11) h rfl];rfl)
theorem R5(h:sl[i]? =some (ct s)):ah (.agg cR) (ag sl) (.aa i 11 6)=some (s.2.2.2.2.2.2.1,s.2.2.2.2.2.2.2.1,s.2.2.2.2.2.2.2.2.1,s.2.2.2.2.2.2.2.2.2.1,s.2.2.2.2.2.2.2.2.2.2):=by
 rw[oQ (by simp),fO,h]
 rfl
theorem FZ(h:sl[i]? =some (ct s)):ah (.agg Dn) (ag sl) (.aa i 11 0)=some s:=by
 rw[oQ (by simp),fO,h]
 rfl
end
def pZ(known:Bool)(n:Nat)(e:Int):Int:=if known=true then 6 else if 64<n+1 then m8 e 8 else e
theorem BY{sl:List Slot}{v:Nat}{F L R:au}{d:Int}{b1:List gP}{gs:List dr}{xs:List bK}{o iC:Option Nat}{ys:List ByteArray}(s:n4)(aU:sl[v]? =some (cu F L R d 0))(hI:Acc sl cR b1 F iC)(Un:(b1.map (·.1)).Pairwise (· <·))(aib:∀g∈b1,ck g.1=true)(akN:b1.length≤2^19)
  (h:c_ sl gs L o)(af:dQ gs xs)(ad:xs.Pairwise fun a b=>a.1<b.1)(db:∀y∈xs,ck y.1=true)(fR:∀x∈xs,x.2.2.2.length≤2^30)(aq:xs.length≤2^19)(nk:ck s.2.2.2.1=true)(aT:ck s.2.2.2.2.2.2.1=true)(oq:En s.2.2.2.2.2.2.2.2.2.2 ys)(TB:ys.length≤2^20):
  ∃aC dq cr e4 qA,jP (.aa v 5 0) s (ag sl)=some ((),ag aC)∧
   aC[v]? =some (cu dq cr R d (pZ (b1.any fun g=>decide (g.1=s.2.2.2.2.2.2.1)) b1.length (gf xs s.2.2.2.1 s.2.2.2.2.1 s.2.2.2.2.2.1 [(s.2.2.2.2.2.2.1,s.2.2.2.2.1)]).2))∧
   kN aC v e4 cr∧
   (pZ (b1.any fun g=>decide (g.1=s.2.2.2.2.2.2.1)) b1.length (gf xs s.2.2.2.1 s.2.2.2.2.1 s.2.2.2.2.2.1 [(s.2.2.2.2.2.2.1,s.2.2.2.2.1)]).2=0→
    Acc aC cR (j4 (s.2.2.2.2.2.2.1,s.2.2.2.2.2.2.2.1,s.2.2.2.2.2.2.2.2.1,s.2.2.2.2.2.2.2.2.2.1,ae true [.str] ys) b1) dq qA∧qA≠some v∧dQ e4 (gf xs s.2.2.2.1 s.2.2.2.2.1 s.2.2.2.2.2.1 [(s.2.2.2.2.2.2.1,s.2.2.2.2.1)]).1)∧
   sl.length≤aC.length∧∀j,j≠v→o≠some j→j<sl.length→aC[j]? =sl[j]?:=by
 have hT:=(List.getElem?_eq_some_iff.1 aU).1
 have hE:o≠some v:=fun e=>by subst e;exact sE aU h rfl
 have cS:V.cS (.aa v 5 0)=true:=rfl
 have bm:V.bm (.aa v 5 0)=true:=rfl
 obtain⟨s0,s1,s2,to,h4,ms,dE,cls,day,gw,al⟩:=s
 simp only at nk aT oq⊢
 have jj:(b1.map (·.1)).Nodup:=Un.imp fun h=>by omega
 have iV:∀ext:List Slot,(sl++ext)[v]? =some (cu F L R d 0):=fun ext=>by rw[List.getElem?_append_left hT];exact aU
 have aic:Acc (sl++[ct (s0,s1,s2,to,h4,ms,dE,cls,day,gw,al),dI []]) cR b1 F iC:=hI.more
 obtain⟨ext,aw⟩:=XA (h1:=ag (sl++[ct (s0,s1,s2,to,h4,ms,dE,cls,day,gw,al)])) (m:=sl.length+1) (by simp[bR]) (by simp) aic jj (by omega)
 have ie:(sl++[ct (s0,s1,s2,to,h4,ms,dE,cls,day,gw,al),dI []]).set (sl.length+1) (dI (b1.map fun g=>(g.1,g)))++ext=sl++(ct (s0,s1,s2,to,h4,ms,dE,cls,day,gw,al)::dI (b1.map fun g=>(g.1,g))::ext):=by simp
 rw[ie]at aw
 unfold jP
 try simp -implicitDefEqProofs only[b9,vM,bR,kv,Nat.zero_add]
 simp only[show Slot.own [V.int .i64 s0,V.int .i64 s1,V.int .i64 s2,V.int .i64 to,V.int .i64 h4,V.int .i64 ms,V.int .i64 dE,V.int .i64 cls,V.int .i64 day,V.str gw,V.slice al.a al.len al.cap al.tail] 11=ct (s0,s1,s2,to,h4,ms,dE,cls,day,gw,al)from rfl]
 have LZ:(sl++[ct (s0,s1,s2,to,h4,ms,dE,cls,day,gw,al)])++[Slot.cZ []]=sl++[ct (s0,s1,s2,to,h4,ms,dE,cls,day,gw,al),dI []]:=by simp[ho]
 rw[LZ,aS cS,aS bm,aS bm,St (iV _),Option.bind_some,aw,Option.bind_some]
 generalize qm:b1.map (fun g=>(g.1,g))=es at aw
 have a6:∀{e2:List Slot},(sl++(ct (s0,s1,s2,to,h4,ms,dE,cls,day,gw,al)::dI es::e2))[sl.length]? =some (ct (s0,s1,s2,to,h4,ms,dE,cls,day,gw,al)):=fun{e2}=>by simp
 have No:∀{e2:List Slot},(sl++(ct (s0,s1,s2,to,h4,ms,dE,cls,day,gw,al)::dI es::e2))[sl.length+1]? =some (dI es):=fun{e2}=>by rw[List.getElem?_append_right (by omega)];simp
 have acK:(sl++[ct (s0,s1,s2,to,h4,ms,dE,cls,day,gw,al)]).length=sl.length+1:=by simp
 simp only[acK]
 rw[(sF a6).2.2.2.2.2,Option.bind_some]
 have afp:(es.map (·.1)).Nodup:=by rw[←qm,List.map_map];exact jj
 by_cases ou:(b1.any fun g=>decide (g.1=dE))=true
 ·obtain⟨g,aQ,e⟩:=List.any_eq_true.1 ou
  have e:=of_decide_eq_true e
  have jk:=FD (z:=dt) (No (e2:=ext)) afp (x:=dE) (g:=g) (by rw[←qm,List.mem_map];exact ⟨g,aQ,by rw[e]⟩)
  rw[jk,Option.bind_some]
  simp only[b9,bR,show Slot.own [V.int .i64 0,V.int .i64 0,V.int .i64 0,V.str ⟨#[]⟩,V.slice .nil 0 0 false] 5=bA dt from rfl]
  rw[sn (g:=g),Option.bind_some,cond_true]
  have js:((sl++(ct (s0,s1,s2,to,h4,ms,dE,cls,day,gw,al)::dI es::ext))++[bA g])[v]? =some (cu F L R d 0):=by rw[List.append_assoc];exact iV _
  rw[yL js,Option.bind_some]
  have fA:pZ (b1.any fun g=>decide (g.1=dE)) b1.length (gf xs to h4 ms [(dE,h4)]).2=6:=by rw[ou];rfl
  rw[fA]
  refine⟨_,F,L,gs,none,rfl,n2 js _,.inl ⟨o,h.frame fun id aT=>?_,hE⟩,(fun he=>by cases he),by simp,fun j aL gb dJ=>?_⟩
  ·subst aT
   rw[List.getElem?_set_ne (fun e=>hE (by rw[e])),List.append_assoc,List.getElem?_append_left h.lt]
  ·rw[List.getElem?_set_ne (Ne.symm aL),List.append_assoc,List.getElem?_append_left dJ]
 ·have Hy:∀p∈es,p.1≠dE:=fun p aa e=>ou (by
   rw[←qm]at aa
   obtain⟨g,aQ,rfl⟩:=List.mem_map.1 aa
   exact List.any_eq_true.2 ⟨g,aQ,decide_eq_true e⟩)
  rw[Yu (z:=dt) (No (e2:=ext)) Hy,Option.bind_some]
  simp only[b9,bR,show Slot.own [V.int .i64 0,V.int .i64 0,V.int .i64 0,V.str ⟨#[]⟩,V.slice .nil 0 0 false] 5=bA dt from rfl]
  rw[sn (g:=dt),Option.bind_some,cond_false]
  have acL:(sl++(ct (s0,s1,s2,to,h4,ms,dE,cls,day,gw,al)::dI es::ext))++[bA dt]=sl++(ct (s0,s1,s2,to,h4,ms,dE,cls,day,gw,al)::dI es::(ext++[bA dt])):=by simp
  rw[acL]
  obtain⟨bw,bJ,ch,bQ,di,b4⟩:=sF (a6 (e2:=ext++[bA dt]))
  rw[ch,Option.bind_some,bQ,Option.bind_some,di,Option.bind_some,b4,Option.bind_some,Option.bind_some]
  have h2:c_ (sl++(ct (s0,s1,s2,to,h4,ms,dE,cls,day,gw,al)::dI es::(ext++[bA dt]))) gs L o:=h.frame fun id aT=>by subst aT;rw[List.getElem?_append_left h.lt]
  obtain⟨cK,cr,e4,bL,a_,cY,bI,kT,EO⟩:=JT (S:=⟨.lp true [.int .i64 dE,.int .i64 h4] 0,1,1,false⟩) (x0:=0) (a:=h4) (m:=ms) (to:=to) (y:=[(dE,h4)]) (iV _) h2 af ad db fR hD.one nk aq
  simp only
  rw[bL,Option.bind_some]
  generalize agf:(gf xs to h4 ms [(dE,h4)])=ce at a_ bI⊢
  have qk:∀id,o=some id→id<sl.length:=fun id aT=>by subst aT;exact h.lt
  have L0:cK[sl.length]? =some (ct (s0,s1,s2,to,h4,ms,dE,cls,day,gw,al)):=by rw[EO _ (by omega) (fun e=>by have:=qk _ e;omega) (by simp)];exact a6
  have L1:cK[sl.length+1]? =some (dI es):=by rw[EO _ (by omega) (fun e=>by have:=qk _ e;omega) (by simp)];exact No
  rw[R5 L0,Option.bind_some]
  simp only[b9,bR]
  simp only[show Slot.own [V.int .i64 0,V.int .i64 0,V.int .i64 0,V.str ⟨#[]⟩,V.slice .nil 0 0 false] 5=bA dt from rfl]
  rw[sn (g:=(dE,cls,day,gw,al)),Option.bind_some]
  have bk:(cK++[bA (dE,cls,day,gw,al)])[cK.length]? =some (bA (dE,cls,day,gw,al)):=by simp
  rw[(jX bk).2.2,Option.bind_some]
  have dH:bB true (ag (cK++[bA (dE,cls,day,gw,al)])) [.str] al=some ys:=oq _
  simp only
  rw[dH,Option.bind_some]
  have ha:k4 16 ys=some ys:=by unfold k4;rw[aS ⟨by unfold ei;omega,by omega⟩]
  rw[ha,Option.bind_some]
  have wt:H.aY (ag (cK++[bA (dE,cls,day,gw,al)])) (.aa cK.length 5 4) [.slice (ae true [.str] ys).a ys.length ys.length true]=some (ag (cK++[bA (dE,cls,day,gw,ae true [.str] ys)])):=by
   rw[eS (g:=5) bk rfl (by simp)]
   have:(cK++[bA (dE,cls,day,gw,al)]).set cK.length (bA (dE,cls,day,gw,ae true [.str] ys))=cK++[bA (dE,cls,day,gw,ae true [.str] ys)]:=by simp
   exact congrArg (fun z=>some (ag z)) this
  rw[wt,Option.bind_some]
  have jH:(cK++[bA (dE,cls,day,gw,ae true [.str] ys)])[cK.length]? =some (bA (dE,cls,day,gw,ae true [.str] ys)):=by simp
  rw[(jX jH).1,Option.bind_some,(jX jH).2.1,Option.bind_some]
  have afq:=(List.getElem?_eq_some_iff.1 L1).1
  have afr:(cK++[bA (dE,cls,day,gw,ae true [.str] ys)])[sl.length+1]? =some (dI es):=by rw[List.getElem?_append_left afq];exact L1
  simp only
  rw[Jz afr Hy,Option.bind_some]
  generalize p6:(dE,cls,day,gw,ae true [.str] ys)=fq
  have L2:fq.1=dE:=by rw[←p6]
  generalize Dr:(cK++[bA fq]).set (sl.length+1) (dI (es++[(dE,fq)]))=u5
  have acM:u5.length=cK.length+1:=by rw[←Dr];simp
  have S2:u5[sl.length+1]? =some (dI (es++[(dE,fq)])):=by rw[←Dr,List.getElem?_set_self (by simp;omega)]
  have Ds:=(List.getElem?_eq_some_iff.1 a_).1
  have ow:u5[v]? =some (cu F cr R d ce.2):=by rw[←Dr,List.getElem?_set_ne (by omega),List.getElem?_append_left Ds];exact a_
  have S3:∀j,j≠v→o≠some j→j<sl.length→u5[j]? =sl[j]?:=fun j aL gb dJ=>by
   rw[←Dr,List.getElem?_set_ne (by omega),List.getElem?_append_left (by simp at kT;omega),EO j aL gb (by simp;omega),List.getElem?_append_left dJ]
  have Uo:kN u5 v e4 cr:=by
   rcases cY with⟨dL,hh,tD⟩|rfl
   ·refine .inl ⟨dL,hh.frame fun id aT=>?_,tD⟩
    subst aT
    have bS:id≠sl.length+1:=fun e=>by
     obtain⟨c,eU,cy,dd,dF,gy⟩:=hh
     rw[e,L1]at dF
     simp at dF
    rw[←Dr,List.getElem?_set_ne (Ne.symm bS),List.getElem?_append_left hh.lt]
   ·exact .inr rfl
  rw[BU S2,Option.bind_some]
  have Sy:(es++[(dE,fq)]).length=b1.length+1:=by rw[←qm];simp
  rw[Sy]
  have rF:(b1.any fun g=>decide (g.1=dE))=false:=Bool.eq_false_iff.2 ou
  by_cases fD:64<b1.length+1
  ·rw[decide_eq_true (show(64:Int)<((b1.length+1:Nat):Int) by omega),cond_true,yL ow,Option.bind_some]
   have Up:m8 ce.2 8≠0:=by unfold m8;split<;>omega
   rw[decide_eq_false Up]
   try simp -implicitDefEqProofs only[Bool.not_false,Option.bind_some,cond_true]
   have fA:pZ (b1.any fun g=>decide (g.1=dE)) b1.length ce.2=m8 ce.2 8:=by rw[rF];unfold pZ;rw[if_neg (by decide),if_pos fD]
   rw[fA]
   refine⟨_,F,cr,e4,none,rfl,n2 ow _,Uo.set,fun he=>absurd he Up,by simp at kT⊢;omega,fun j aL gb dJ=>?_⟩
   rw[List.getElem?_set_ne (Ne.symm aL),S3 j aL gb dJ]
  ·rw[decide_eq_false (show ¬(64:Int)<((b1.length+1:Nat):Int) by omega)]
   try simp -implicitDefEqProofs only[cond_false,Option.bind_some]
   rw[aS cS,aS bm,aS bm]
   have UZ:=Su ow ⟨.nil,0,0,false⟩
   simp only at UZ
   rw[UZ,Option.bind_some]
   unfold AU
   simp only[b9,bR,Option.bind_some]
   have Np:=n2 ow (cu ⟨.nil,0,0,false⟩ cr R d ce.2)
   generalize GY:u5.set v (cu ⟨.nil,0,0,false⟩ cr R d ce.2)=tE at Np
   have ajZ:tE.length=u5.length:=by rw[←GY];simp
   have S4:tE[sl.length+1]? =some (dI (es++[(dE,fq)])):=by rw[←GY,List.getElem?_set_ne (by omega)];exact S2
   have afs:=(List.getElem?_eq_some_iff.1 S4).1
   have aft:=(List.getElem?_eq_some_iff.1 Np).1
   have S5:(tE++[Slot.own [V.map (some (sl.length+1))] 1])[sl.length+1]? =some (dI (es++[(dE,fq)])):=by rw[List.getElem?_append_left afs];exact S4
   have aid:(tE++[Slot.own [V.map (some (sl.length+1))] 1])[v]? =some (cu ⟨.nil,0,0,false⟩ cr R d ce.2):=by rw[List.getElem?_append_left aft];exact Np
   have rm:(es++[(dE,fq)]).map (·.1)=b1.map (·.1)++[dE]:=by rw[←qm];simp
   have S6:((j4 fq b1).map (·.1)).Pairwise (· <·):=IJ Un fun y aK e=>ou (List.any_eq_true.2 ⟨y,aK,decide_eq_true (by rw[e,L2])⟩)
   have zh:((es++[(dE,fq)]).map (·.1)).Perm ((j4 fq b1).map (·.1)):=by
    rw[rm]
    refine List.Perm.trans ?_ ((ud fq b1).map _).symm
    rw[List.map_cons,L2]
    exact List.perm_append_singleton _ _
   have S7:((es++[(dE,fq)]).map (·.1)).Nodup:=(zh.nodup_iff).2 (S6.imp fun h=>by omega)
   have nO:oI (.func 154 [.aa tE.length 1 0]) (ag (tE++[Slot.own [V.map (some (sl.length+1))] 1]))=some (ae true [.int .i64] ((j4 fq b1).map (·.1)),ag (tE++[Slot.own [V.map (some (sl.length+1))] 1])):=by
    have aE:(tE++[Slot.own [V.map (some (sl.length+1))] 1])[tE.length]? =some (Slot.own [V.map (some (sl.length+1))] 1):=by simp
    simp only[oI,fO,aE,Option.getD_some]
    have Ec:∀x∈(es++[(dE,fq)]).map (·.1),(Lit.int .i64 x).wf=true:=fun x hx=>by
     rw[rm,List.mem_append,List.mem_singleton]at hx
     rcases hx with hx |rfl
     ·obtain⟨g,aQ,rfl⟩:=List.mem_map.1 hx
      exact Sx (aib g aQ)
     ·exact Sx aT
    rw[BU S5,Option.bind_some,aS ⟨by rw[Sy];omega,S7,Ec⟩,Zy zh S6]
   rw[nO,Option.bind_some]
   obtain⟨aC,dq,qA,cy,dd,dF,gy,ki,jM⟩:=XB (h1:=ag (sl++[ct (s0,s1,s2,to,h4,ms,dE,cls,day,gw,al)])) (m:=sl.length+1) (by simp[bR]) S5 S7 (gs:=j4 fq b1) (fun g aQ=>by
    rcases List.mem_cons.1 ((ud fq b1).mem_iff.1 aQ)with rfl |aQ
    ·rw[L2];simp
    ·rw[←qm];simp only[List.mem_append,List.mem_map];exact .inl ⟨g,aQ,rfl⟩) aid (by rw[(ud fq b1).length_eq];simp;omega)
   simp only
   rw[cy,Option.bind_some]
   have fA:pZ (b1.any fun g=>decide (g.1=dE)) b1.length ce.2=ce.2:=by rw[rF];unfold pZ;rw[if_neg (by decide),if_neg fD]
   rw[fA]
   refine⟨aC,dq,cr,e4,qA,rfl,dF, ?_,fun he=>⟨dd,fun e=>?_,bI⟩,by simp at kT ki;omega,fun j aL gb dJ=>?_⟩
   ·rcases Uo with⟨dL,hh,tD⟩|rfl
    ·refine .inl ⟨dL,hh.frame fun id aT=>?_,tD⟩
     subst aT
     have bn:=hh.lt
     have bS:id≠v:=fun e=>tD (by rw[e])
     rw[jM id bS (by simp;omega),List.getElem?_append_left (by omega),←GY,List.getElem?_set_ne (Ne.symm bS)]
    ·exact .inr rfl
   ·have:=gy v e
    simp at this
    omega
   ·rw[jM j aL (by simp at kT⊢;omega),List.getElem?_append_left (by simp at kT;omega),←GY,List.getElem?_set_ne (Ne.symm aL),S3 j aL gb dJ]
theorem ug{x:bK}:∀{xs:List bK} {y:bK},y∈e7 x xs→y=x∨y∈xs
 |[],y,h=>by
  unfold e7 at h
  split at h
  ·exact .inl (by simpa using h)
  ·cases h
 |z::xs,y,h=>by
  unfold e7 at h
  split at h
  ·rcases List.mem_cons.1 h with rfl |h
   ·exact .inr (by simp)
   ·rcases ug h with h|h
    ·exact .inl h
    ·exact .inr (by simp[h])
  ·split at h
   ·split at h
    ·exact .inr (by simp[h])
    ·rcases List.mem_cons.1 h with rfl |h
     ·exact .inl rfl
     ·exact .inr (by simp[h])
   ·split at h
    ·rcases List.mem_cons.1 h with rfl |h
     ·exact .inl rfl
     ·exact .inr h
    ·exact .inr h
abbrev p0(xs:List bK):Prop:=xs.Pairwise fun a b=>a.1<b.1
theorem IK{x:bK}:∀{xs:List bK},p0 xs→p0 (e7 x xs)
 |[],h=>by
  unfold e7
  split
  ·simp
  ·exact h
 |z::xs,h=>by
  have ar:=List.pairwise_cons.1 h
  unfold e7
  split
  ·rename_i bn
   refine List.pairwise_cons.2 ⟨fun y aK=>?_,IK ar.2⟩
   rcases ug aK with rfl |aK
   ·exact bn
   ·exact ar.1 y aK
  ·rename_i hy
   split
   ·rename_i he
    split
    ·exact ar.2
    ·exact List.pairwise_cons.2 ⟨fun y aK=>by have:=ar.1 y aK;omega,ar.2⟩
   ·rename_i bS
    split
    ·refine List.pairwise_cons.2 ⟨fun y aK=>?_,h⟩
     rcases List.mem_cons.1 aK with rfl |aK
     ·omega
     ·have:=ar.1 y aK;omega
    ·exact h
theorem OZ{x:bK}:∀{xs:List bK},(e7 x xs).length≤xs.length+1
 |[]=>by unfold e7;split<;>simp
 |z::xs=>by
  unfold e7
  have:=OZ (x:=x) (xs:=xs)
  repeat' split
  all_goals simp
  all_goals omega
theorem Yv{x:bK}{w n:Int}:(ky x w n).1.2.2.2.length≤x.2.2.2.length∧(ky x w n).2.1.2.2.2.length≤x.2.2.2.length:=by
 unfold ky
 repeat' split
 all_goals first |exact ⟨Nat.zero_le _,Nat.zero_le _⟩|exact VI
theorem WC{xs:List bK}{n w k:Int}(ad:p0 xs)(db:∀y∈xs,ck y.1=true)(fR:∀x∈xs,x.2.2.2.length≤2^30):p0 (ed xs n w k).1∧(∀y∈(ed xs n w k).1,ck y.1=true)∧(∀x∈(ed xs n w k).1,x.2.2.2.length≤2^30)∧(ed xs n w k).1.length≤xs.length+1:=by
 unfold ed
 split
 ·rename_i ak
  obtain⟨fo,jy⟩:=sd ak
  split
  ·rename_i aO
   refine⟨IK ad,fun y aK=>?_,fun y aK=>?_,OZ⟩
   ·rcases ug aK with rfl |aK
    ·rw[QT aO];exact db _ fo
    ·exact db y aK
   ·rcases ug aK with rfl |aK
    ·exact Nat.le_trans Yv.2 (fR _ fo)
    ·exact fR y aK
  ·exact ⟨ad,db,fR,Nat.le_succ _⟩
 ·exact ⟨ad,db,fR,Nat.le_succ _⟩
theorem dQ.append{g:dr}{x:bK}(h1:g.1=x.1)(h2:g.2.1=x.2.1)(h3:g.2.2.1=x.2.2.1)(aI:hD g.2.2.2 x.2.2.2):∀{gs:List dr} {xs:List bK},dQ gs xs→dQ (gs++[g]) (xs++[x])
 |[],xs,h=>by
  have:xs=[]:=h
  subst this
  exact ⟨x,[],rfl,h1,h2,h3,aI,rfl⟩
 |kP::gs,xs,hh=>by
  obtain⟨fm,ot,rfl,aw,aH,aW,bq,af⟩:=hh
  exact ⟨fm,ot++[x],rfl,aw,aH,aW,bq,af.append h1 h2 h3 aI⟩
section
variable{sl:List Slot}{v:Nat}{F L R:au}{d:Int}{gs:List dr}{xs:List bK}{o:Option Nat}
theorem Kh{s:n4}:(ag sl).new [.int .i64 s.1,.int .i64 s.2.1,.int .i64 s.2.2.1,.int .i64 s.2.2.2.1,.int .i64 s.2.2.2.2.1,.int .i64 s.2.2.2.2.2.1,.int .i64 s.2.2.2.2.2.2.1,.int .i64 s.2.2.2.2.2.2.2.1,.int .i64 s.2.2.2.2.2.2.2.2.1,.str s.2.2.2.2.2.2.2.2.2.1,.slice s.2.2.2.2.2.2.2.2.2.2.a s.2.2.2.2.2.2.2.2.2.2.len s.2.2.2.2.2.2.2.2.2.2.cap s.2.2.2.2.2.2.2.2.2.2.tail] 11=ag (sl++[ct s]):=b9
theorem Zz(s:n4)(aU:sl[v]? =some (cu F L R d 0))(h:c_ sl gs L o)(af:dQ gs xs)(ad:p0 xs)(db:∀y∈xs,ck y.1=true)(fR:∀x∈xs,x.2.2.2.length≤2^30)(aq:xs.length≤2^19)(nk:ck s.2.2.2.1=true):
  ∃aC cr e4,vm (.aa v 5 0) s (ag sl)=some ((),ag aC)∧aC[v]? =some (cu F cr R d (gf xs s.2.2.2.1 0 s.2.2.2.2.2.1 []).2)∧kN aC v e4 cr∧dQ e4 (gf xs s.2.2.2.1 0 s.2.2.2.2.2.1 []).1∧sl.length≤aC.length∧∀j,j≠v→o≠some j→j<sl.length→aC[j]? =sl[j]?:=by
 have hT:=(List.getElem?_eq_some_iff.1 aU).1
 have a6:(sl++[ct s])[sl.length]? =some (ct s):=by simp
 obtain⟨bw,bJ,ch,bQ,di,b4⟩:=sF a6
 have h1:c_ (sl++[ct s]) gs L o:=h.frame fun id aT=>by subst aT;rw[List.getElem?_append_left h.lt]
 have iV:(sl++[ct s])[v]? =some (cu F L R d 0):=by rw[List.getElem?_append_left hT];exact aU
 obtain⟨aC,cr,e4,aw,aH,aW,bq,bU,ek⟩:=JT (S:=⟨.nil,0,0,false⟩) (x0:=0) (a:=0) (m:=s.2.2.2.2.2.1) (y:=[]) iV h1 af ad db fR hD.nil nk aq
 refine⟨aC,cr,e4, ?_,aH,aW,bq,by simp at bU;omega,fun j aL gb dJ=>by rw[ek j aL gb (by simp;omega),List.getElem?_append_left dJ]⟩
 unfold vm
 simp only
 rw[Kh,bR,ch,Option.bind_some,di,Option.bind_some,aw,Option.bind_some]
def rp(xs:List bK)(n w k:Int):List bK×Int:=
 if(ed xs n w k).2.2=0 then gf (ed xs n w k).1 k (ed xs n w k).2.1.2.1 (ed xs n w k).2.1.2.2.1 (ed xs n w k).2.1.2.2.2 else ((ed xs n w k).1,(ed xs n w k).2.2)
theorem aaj(s:n4)(aU:sl[v]? =some (cu F L R d 0))(h:c_ sl gs L o)(af:dQ gs xs)(ad:p0 xs)(db:∀y∈xs,ck y.1=true)(fR:∀x∈xs,x.2.2.2.length≤2^30)(aq:xs.length+1≤2^19)(nk:ck s.2.2.2.1=true):
  ∃aC cr e4,vn (.aa v 5 0) s (ag sl)=some ((),ag aC)∧aC[v]? =some (cu F cr R d (rp xs s.2.2.1 s.2.2.2.2.2.1 s.2.2.2.1).2)∧kN aC v e4 cr∧dQ e4 (rp xs s.2.2.1 s.2.2.2.2.2.1 s.2.2.2.1).1∧sl.length≤aC.length∧∀j,j≠v→o≠some j→j<sl.length→aC[j]? =sl[j]?:=by
 have hT:=(List.getElem?_eq_some_iff.1 aU).1
 have cS:V.cS (.aa v 5 0)=true:=rfl
 have bm:V.bm (.aa v 5 0)=true:=rfl
 have hE:o≠some v:=fun e=>by subst e;exact sE aU h rfl
 have a6:(sl++[ct s])[sl.length]? =some (ct s):=by simp
 obtain⟨bw,bJ,ch,bQ,di,b4⟩:=sF a6
 have h1:c_ (sl++[ct s]) gs L o:=h.frame fun id aT=>by subst aT;rw[List.getElem?_append_left h.lt]
 have iV:(sl++[ct s])[v]? =some (cu F L R d 0):=by rw[List.getElem?_append_left hT];exact aU
 obtain⟨cK,tM,AA,S,aw,aH,aW,bq,bU,ek,lD⟩:=FQ (n:=s.2.2.1) (w:=s.2.2.2.2.2.1) (k:=s.2.2.2.1) iV h1 af ad db fR (by omega)
 obtain⟨f1,f2,f3,f4⟩:=WC (n:=s.2.2.1) (w:=s.2.2.2.2.2.1) (k:=s.2.2.2.1) ad db fR
 unfold rp
 generalize ed xs s.2.2.1 s.2.2.2.2.2.1 s.2.2.2.1=D at aw aH aW bU f1 f2 f3 f4⊢
 obtain⟨ys,⟨d0,d1,d2,d3⟩,e⟩:=D
 simp only at aw aH aW bU f1 f2 f3 f4⊢
 have qk:∀id,o=some id→id<sl.length:=fun id aT=>by subst aT;exact h.lt
 have L0:cK[sl.length]? =some (ct s):=by rw[lD _ (by omega) (fun e=>by have:=qk _ e;omega) (by simp)];exact a6
 have jk:sl.length+1≤cK.length:=by simpa using ek
 have iA:=jU (sl:=cK) (x:=(d0,d1,d2,S))
 simp only at iA
 have Ds:=(List.getElem?_eq_some_iff.1 aW).1
 have pg:(cK++[aA (d0,d1,d2,S)])[v]? =some (cu F tM R d e):=by rw[List.getElem?_append_left Ds];exact aW
 have afu:(cK++[aA (d0,d1,d2,S)])[sl.length]? =some (ct s):=by rw[List.getElem?_append_left (by omega)];exact L0
 have CP:c_ (cK++[aA (d0,d1,d2,S)]) AA tM o:=bq.frame fun id aT=>by subst aT;rw[List.getElem?_append_left bq.lt]
 have ha:(cK++[aA (d0,d1,d2,S)])[cK.length]? =some (aA (d0,d1,d2,S)):=by simp
 unfold vn
 simp only
 rw[Kh,bR,bJ,Option.bind_some,di,Option.bind_some,ch,Option.bind_some,aw,Option.bind_some]
 simp only[b9,bR,show Slot.own [V.int .i64 0,V.int .i64 0,V.int .i64 0,V.slice .nil 0 0 false] 4=aA bX from rfl,kv,Nat.zero_add]
 rw[iA,Option.bind_some,aS cS,aS bm,zC pg,Option.bind_some]
 by_cases he:e=0
 ·subst he
  rw[if_pos rfl]
  obtain⟨aC,cr,e4,bL,a_,cY,bI,kT,EO⟩:=JT (S:=S) (x0:=d0) (a:=d1) (m:=d2) (y:=d3) pg CP bU f1 f2 f3 aH nk (by omega)
  rw[decide_eq_true rfl,cond_true,(sF afu).2.2.1,Option.bind_some,hl ha,Option.bind_some]
  simp only
  rw[bL,Option.bind_some,Option.bind_some]
  refine⟨aC,cr,e4,rfl,a_,cY,bI,by simp at kT;omega,fun j aL gb dJ=>?_⟩
  rw[EO j aL gb (by simp;omega),List.getElem?_append_left (by omega),lD j aL gb (by simp;omega),List.getElem?_append_left dJ]
 ·rw[if_neg he,decide_eq_false he,cond_false,Option.bind_some]
  refine⟨_,tM,AA,rfl,pg,.inl ⟨o,CP,hE⟩,bU,by simp;omega,fun j aL gb dJ=>?_⟩
  rw[List.getElem?_append_left (by omega),lD j aL gb (by simp;omega),List.getElem?_append_left dJ]
theorem Yw{Eo:List dr}{rs:List bK}{hJ:Option Nat}(s:n4)(aU:sl[v]? =some (cu F L R d 0))(h:c_ sl gs L o)(af:dQ gs xs)(ad:p0 xs)(db:∀y∈xs,ck y.1=true)(fR:∀x∈xs,x.2.2.2.length≤2^30)(aq:xs.length+1≤2^19)
  (iX:c_ sl Eo R hJ)(Uq:dQ Eo rs)(Ep:∀id,hJ=some id→o≠some id)(akO:rs.length≤2^19):
  ∃aC cr e4 en tf tF,vh (.aa v 5 0) s (ag sl)=some ((),ag aC)∧aC[v]? =some (cu F cr en d (ed xs s.2.2.1 s.2.2.2.2.2.1 s.1).2.2)∧kN aC v e4 cr∧dQ e4 (ed xs s.2.2.1 s.2.2.2.2.2.1 s.1).1∧
   c_ aC tf en tF∧tF≠some v∧((ed xs s.2.2.1 s.2.2.2.2.2.1 s.1).2.2=0→dQ tf (rs++[(ed xs s.2.2.1 s.2.2.2.2.2.1 s.1).2.1]))∧sl.length≤aC.length∧∀j,j≠v→o≠some j→hJ≠some j→j<sl.length→aC[j]? =sl[j]?:=by
 have hT:=(List.getElem?_eq_some_iff.1 aU).1
 have cS:V.cS (.aa v 5 0)=true:=rfl
 have bm:V.bm (.aa v 5 0)=true:=rfl
 have hE:o≠some v:=fun e=>by subst e;exact sE aU h rfl
 have tg:hJ≠some v:=fun e=>by subst e;exact sE aU iX rfl
 have a6:(sl++[ct s])[sl.length]? =some (ct s):=by simp
 obtain⟨bw,bJ,ch,bQ,di,b4⟩:=sF a6
 have h1:c_ (sl++[ct s]) gs L o:=h.frame fun id aT=>by subst aT;rw[List.getElem?_append_left h.lt]
 have iV:(sl++[ct s])[v]? =some (cu F L R d 0):=by rw[List.getElem?_append_left hT];exact aU
 obtain⟨cK,tM,AA,S,aw,aH,aW,bq,bU,ek,lD⟩:=FQ (n:=s.2.2.1) (w:=s.2.2.2.2.2.1) (k:=s.1) iV h1 af ad db fR (by omega)
 generalize ed xs s.2.2.1 s.2.2.2.2.2.1 s.1=D at aw aH aW bU⊢
 obtain⟨ys,⟨d0,d1,d2,d3⟩,e⟩:=D
 simp only at aw aH aW bU⊢
 have qk:∀id,o=some id→id<sl.length:=fun id aT=>by subst aT;exact h.lt
 have afv:∀id,hJ=some id→id<sl.length:=fun id aT=>by subst aT;exact iX.lt
 have jk:sl.length+1≤cK.length:=by simpa using ek
 have iA:=jU (sl:=cK) (x:=(d0,d1,d2,S))
 simp only at iA
 have Ds:=(List.getElem?_eq_some_iff.1 aW).1
 have pg:(cK++[aA (d0,d1,d2,S)])[v]? =some (cu F tM R d e):=by rw[List.getElem?_append_left Ds];exact aW
 have CP:c_ (cK++[aA (d0,d1,d2,S)]) AA tM o:=bq.frame fun id aT=>by subst aT;rw[List.getElem?_append_left bq.lt]
 have Ur:c_ (cK++[aA (d0,d1,d2,S)]) Eo R hJ:=iX.frame fun id aT=>by
  have:=afv id aT
  rw[List.getElem?_append_left (by omega),lD id (fun e=>tg (by rw[aT,e])) (fun e=>Ep id aT e) (by simp;omega),List.getElem?_append_left this]
 have ha:(cK++[aA (d0,d1,d2,S)])[cK.length]? =some (aA (d0,d1,d2,S)):=by simp
 unfold vh
 simp only
 rw[Kh,bR,bJ,Option.bind_some,di,Option.bind_some,bw,Option.bind_some,aw,Option.bind_some]
 simp only[b9,bR,show Slot.own [V.int .i64 0,V.int .i64 0,V.int .i64 0,V.slice .nil 0 0 false] 4=aA bX from rfl,kv,Nat.zero_add]
 rw[iA,Option.bind_some,aS cS,aS bm,zC pg,Option.bind_some]
 by_cases he:e=0
 ·subst he
  rw[decide_eq_true rfl,cond_true]
  simp only[gk]
  rw[aS cS,aS bm,aS bm,acD pg,Option.bind_some,hl ha,Option.bind_some]
  obtain⟨en,mK,id,a1,a2,a3,a4,a5⟩:=Ur.append (d0,d1,d2,S) (by rw[Uq.len];omega)
  simp only at a1⊢
  rw[a1,Option.bind_some]
  have ow:mK[v]? =some (cu F tM R d 0):=by rw[a5 v tg (by simp;omega)];exact pg
  simp only
  rw[aS cS,aS bm,aS bm,acF ow,Option.bind_some,Option.bind_some]
  have GX:id≠v:=by
   rcases a3 with a3|⟨_,a3⟩
   ·exact fun h=>tg (by rw[a3,h])
   ·rw[a3];simp;omega
  refine⟨_,tM,AA,en,Eo++[(d0,d1,d2,S)],some id,rfl,n2 ow _,(kN.set (.inl ⟨o,CP.frame fun da aT=>?_,hE⟩)),bU,a2.frame fun da aT=>?_,fun h=>GX (by cases h;rfl),fun _=>?_,by simp at a4⊢;omega,fun j aL gb Us dJ=>?_⟩
  ·have h2:=qk da aT
   rw[a5 da (fun e=>Ep da e aT) (by simp;omega)]
  ·cases aT
   rw[List.getElem?_set_ne (Ne.symm GX)]
  ·exact Uq.append (g:=(d0,d1,d2,S)) (x:=(d0,d1,d2,d3)) rfl rfl rfl aH
  ·rw[List.getElem?_set_ne (Ne.symm aL),a5 j Us (by simp;omega),List.getElem?_append_left (by omega),lD j aL gb (by simp;omega),List.getElem?_append_left dJ]
 ·rw[decide_eq_false he,cond_false,Option.bind_some]
  refine⟨_,tM,AA,R,Eo,hJ,rfl,pg,.inl ⟨o,CP,hE⟩,bU,Ur,tg,fun h=>absurd h he,by simp;omega,fun j aL gb Us dJ=>?_⟩
  rw[List.getElem?_append_left (by omega),lD j aL gb (by simp;omega),List.getElem?_append_left dJ]
end
abbrev bl(b:Bool)(f:dV):gP:=(f.1,f.2.1,f.2.2.1,f.2.2.2.1,ae b [.str] f.2.2.2.2)
theorem Qg{sl:List Slot}:(ag sl).m (ag sl).next=.fresh:=by rw[fO,bR];simp
theorem Qh{f:Bool}{sl:List Slot}{xs:List bK}(aq:xs.length≤2^20)(ad:∀x∈xs,pS x):∃s ext o,k2 (ae f aX xs) (ag sl)=some (s,ag (sl++ext))∧c_ (sl++ext) (xs.map (dY true)) s o∧∀id,o=some id→sl.length≤id:=by
 have h1:k2 (ae f bN xs) (ag sl)=some (ik (ag sl) 4 xs.length (bx bN xs)):=OR aq ad Qg
 have rf:bx bN xs=bx cB (xs.map (dY true)):=by
  unfold bx
  rw[List.flatMap_map]
  rfl
 unfold ik at h1
 by_cases aO:xs.length=0
 ·have:xs=[]:=List.eq_nil_of_length_eq_zero aO
  subst this
  simp only[List.length_nil,if_true]at h1
  exact ⟨_,[],none,by rw[List.append_nil];exact h1,⟨rfl,.inr rfl⟩,fun _ h=>by cases h⟩
 ·rw[if_neg aO,b9,rf]at h1
  refine⟨_,[.own (bx cB (xs.map (dY true))) 4],some sl.length,h1,⟨xs.length,[],by omega,by simp[bR],by simp,by simp⟩,fun _ h=>by cases h;exact Nat.le_refl _⟩
theorem XC{f:Bool}{sl:List Slot}{xs:List dV}(aq:xs.length≤2^20):∃s ext o,lE (ae f bT xs) (ag sl)=some (s,ag (sl++ext))∧Acc (sl++ext) cR (xs.map (bl f)) s o∧∀id,o=some id→sl.length≤id:=by
 have h1:lE (ae f bT xs) (ag sl)=some (ik (ag sl) 5 xs.length (xs.flatMap fun x=>LT.lo f bT x)):=Og (f:=f) rfl (by rw[hK];rfl) aq Qg
 have rf:(xs.flatMap fun x=>LT.lo f bT x)=bx cR (xs.map (bl f)):=by
  unfold bx
  rw[List.flatMap_map]
  rfl
 unfold ik at h1
 by_cases aO:xs.length=0
 ·have:xs=[]:=List.eq_nil_of_length_eq_zero aO
  subst this
  simp only[List.length_nil,if_true]at h1
  exact ⟨_,[],none,by rw[List.append_nil];exact h1,Acc.adZ,fun _ h=>by cases h⟩
 ·rw[if_neg aO,b9,rf]at h1
  refine⟨_,[.own (bx cR (xs.map (bl f))) 5],some sl.length,h1,⟨by simp;omega, ?_,by simp⟩,fun _ h=>by cases h;exact Nat.le_refl _⟩
  simp[fh,bR]
abbrev bI(F L R:au)(d:Int):Slot:=.own [.slice F.a F.len F.cap F.tail,.slice L.a L.len L.cap L.tail,.slice R.a R.len R.cap R.tail,.int .i64 d] 4
section
variable{sl:List Slot}{c:Nat}{F L R:au}{d:Int}
theorem rq(h:sl[c]? =some (bI F L R d)):ah (.leaf .slice) (ag sl) (.aa c 4 0)=some F:=by rw[e5 (g:=4) h rfl];rfl
theorem rr(h:sl[c]? =some (bI F L R d)):ah (.leaf .slice) (ag sl) (.aa c 4 1)=some L:=by rw[e5 (g:=4) h rfl];rfl
theorem Sz(h:sl[c]? =some (bI F L R d)):ah (.leaf .slice) (ag sl) (.aa c 4 2)=some R:=by rw[e5 (g:=4) h rfl];rfl
theorem acN(h:sl[c]? =some (bI F L R d)):ah (.leaf (.int .i64)) (ag sl) (.aa c 4 3)=some d:=by rw[e5 (g:=4) h rfl];rfl
theorem iH(h:sl[c]? =some (bI F L R d)):ah (.agg [.slice,.slice,.slice,.int .i64]) (ag sl) (.aa c 4 0)=some (F,L,R,d):=by
 rw[oQ (by simp),fO,h]
 rfl
theorem acO(h:sl[c]? =some (bI F L R d))(S:au):H.aY (ag sl) (.aa c 4 0) [.slice S.a S.len S.cap S.tail]=some (ag (sl.set c (bI S L R d))):=by rw[eS (g:=4) h rfl (by simp)];rfl
theorem acP(h:sl[c]? =some (bI F L R d))(S:au):H.aY (ag sl) (.aa c 4 1) [.slice S.a S.len S.cap S.tail]=some (ag (sl.set c (bI F S R d))):=by rw[eS (g:=4) h rfl (by simp)];rfl
theorem acQ(h:sl[c]? =some (bI F L R d))(S:au):H.aY (ag sl) (.aa c 4 2) [.slice S.a S.len S.cap S.tail]=some (ag (sl.set c (bI F L S d))):=by rw[eS (g:=4) h rfl (by simp)];rfl
theorem wO(h:sl[c]? =some (bI F L R d))(dq cr en:au)(rW:Int):H.aY (ag sl) (.aa c 4 0) [.slice dq.a dq.len dq.cap dq.tail,.slice cr.a cr.len cr.cap cr.tail,.slice en.a en.len en.cap en.tail,.int .i64 rW]=some (ag (sl.set c (bI dq cr en rW))):=by rw[eS (g:=4) h rfl (by simp)];rfl
end
theorem Acc.afw{sl:List Slot}{b1:List gP}{F:au}{o:Option Nat}{i:Nat}{g:gP}(h:Acc sl cR b1 F o)(hi:i<b1.length)(aQ:b1[i]? =some g)(S:au):∃aC,H.aY (ag sl) (V.add (V.add F.a (i*5)) 4) [.slice S.a S.len S.cap S.tail]=some (ag aC)∧Acc aC cR (b1.set i (g.1,g.2.1,g.2.2.1,g.2.2.2.1,S)) F o∧aC.length=sl.length∧∀j,o≠some j→aC[j]? =sl[j]?:=by
 cases o with
 |none=>obtain⟨rfl,_⟩:=h;simp at hi
 |some id=>
  obtain⟨h1,rfl,h3⟩:=h
  have aT:=(List.getElem?_eq_some_iff.1 h3).1
  have ha:(bx cR b1).length=b1.length*5:=hK (ls:=cR) b1
  have aie:b1[i]=g:=by rw[List.getElem?_eq_getElem hi]at aQ;exact Option.some.inj aQ
  refine⟨sl.set id (.own (bx cR (b1.set i (g.1,g.2.1,g.2.2.1,g.2.2.2.1,S))) 5), ?_,⟨by simp;omega,by simp[fh],by rw[List.getElem?_set_self aT];rfl⟩,by simp,fun j aL=>by rw[List.getElem?_set_ne (fun e=>aL (by rw[e]))]⟩
  simp only[fh,add_add]
  rw[show cR.length=5 from rfl]at h3⊢
  rw[kv,eS (g:=b1.length*5) (cs:=bx cR b1) (e:=5) h3 ha (by show i*5+4+1≤_;omega)]
  have hx:b1=b1.take i++(b1[i]::b1.drop (i+1)):=by rw[←List.drop_eq_getElem_cons hi,List.take_append_drop]
  have rf:bx cR b1=bx cR (b1.take i)++(LT.lo true cR b1[i]++bx cR (b1.drop (i+1))):=(congrArg (bx cR) hx).trans (by simp only[bx,List.flatMap_append,List.flatMap_cons])
  have eh:(bx cR (b1.take i)).length=i*5:=by
   have:(bx cR (b1.take i)).length=(b1.take i).length*5:=hK (ls:=cR) _
   rw[this,List.length_take,Nat.min_eq_left (by omega)]
  have ie:bx cR (b1.set i (g.1,g.2.1,g.2.2.1,g.2.2.2.1,S))=bx cR (b1.take i)++(LT.lo true cR (g.1,g.2.1,g.2.2.1,g.2.2.2.1,S)++bx cR (b1.drop (i+1))):=by
   rw[List.set_eq_take_append_cons_drop,if_pos hi]
   simp only[bx,List.flatMap_append,List.flatMap_cons]
  rw[ie,rf,←eh,Pj _ _ _ _ (show 4<(LT.lo true cR b1[i]).length by show 4<5;omega),aie]
  rfl
theorem Yx{sl:List Slot}{c:Nat}{h:H}{F L R:au}{d:Int}{fs:List dV}{o:Option Nat}(hh:h.next=c)(ao:sl[c]? =some (bI F L R d))(hI:Acc sl cR (fs.map (bl false)) F o)(aq:fs.length≤2^20)(ad:∀f∈fs,f.2.2.2.2.length≤2^20):
  ∃aC,iter bd (nA.aZ h F) (0,ag sl)=some (.aP (),ag aC)∧Acc aC cR (fs.map (bl true)) F o∧aC.length=sl.length∧∀j,o≠some j→aC[j]? =sl[j]?:=by
 have hlen:F.len=fs.length:=by rw[hI.len];simp
 have Ul:o≠some c:=fun e=>by
  subst e
  have:=hI.2.2
  rw[ao]at this
  simp at this
 obtain⟨x,aw,aC,rfl,aH,aW,bq⟩:=ft (f:=nA.aZ h F)
  (Inv:=fun st=>∃(i:Nat) (aC:List Slot),st=((i:Int),ag aC)∧i≤fs.length∧Acc aC cR ((fs.take i).map (bl true)++(fs.drop i).map (bl false)) F o∧aC.length=sl.length∧∀j,o≠some j→aC[j]? =sl[j]?)
  (Post:=fun x=>∃aC,x=(.aP (),ag aC)∧Acc aC cR (fs.map (bl true)) F o∧aC.length=sl.length∧∀j,o≠some j→aC[j]? =sl[j]?) (fun st=>fs.length-st.1.toNat) (fun st a6=>by
   obtain⟨i,aC,rfl,hi,dG,KR,eg⟩:=a6
   by_cases bn:i<fs.length
   ·left
    have bF:fs.drop i=fs[i]::fs.drop (i+1):=List.drop_eq_getElem_cons bn
    have uR:((fs.take i).map (bl true)).length=i:=by rw[List.length_map,List.length_take,Nat.min_eq_left (by omega)]
    have aQ:((fs.take i).map (bl true)++(fs.drop i).map (bl false))[i]? =some (bl false fs[i]):=by rw[List.getElem?_append_right (by omega),uR,Nat.sub_self,bF];rfl
    have o7:i<((fs.take i).map (bl true)++(fs.drop i).map (bl false)).length:=(List.getElem?_eq_some_iff.1 aQ).1
    obtain⟨cK,w1,w2,iA,mQ⟩:=Acc.afw dG o7 aQ (ae true [.str] fs[i].2.2.2.2)
    have ie:((fs.take i).map (bl true)++(fs.drop i).map (bl false)).set i (bl true fs[i])=(fs.take (i+1)).map (bl true)++(fs.drop (i+1)).map (bl false):=by
     rw[List.set_append_right _ _ (by omega),uR,Nat.sub_self,bF,List.map_cons,List.set_cons_zero,List.take_add_one,List.getElem?_eq_getElem bn,Option.toList_some,List.map_append,List.append_assoc]
     rfl
    have acR:((fs.take i).map (bl true)++(fs.drop i).map (bl false)).set i ((bl false fs[i]).1,(bl false fs[i]).2.1,(bl false fs[i]).2.2.1,(bl false fs[i]).2.2.2.1,ae true [.str] fs[i].2.2.2.2)=(fs.take (i+1)).map (bl true)++(fs.drop (i+1)).map (bl false):=ie
    rw[acR]at w2
    refine⟨(((i+1:Nat):Int),ag cK), ?_,⟨i+1,cK,rfl,by omega,w2,by omega,fun j aL=>by rw[mQ j aL,eg j aL]⟩,by simp only[Int.toNat_natCast];omega⟩
    have kE:aC[c]? =some (bI F L R d):=by rw[eg c Ul];exact ao
    have o4:V.bm (V.add F.a (i*5))=true:=by
     cases o with
     |none=>obtain⟨h1,_⟩:=dG;rw[h1]at o7;simp at o7
     |some id=>obtain⟨h1,h2,h3⟩:=dG;rw[h2];rfl
    have aif:ah (.leaf .slice) (ag aC) (V.add (V.add F.a (i*5)) 4)=some (ae false [.str] fs[i].2.2.2.2):=by
     cases o with
     |none=>obtain⟨h1,_⟩:=dG;rw[h1]at o7;simp at o7
     |some id=>
      obtain⟨h1,h2,h3⟩:=dG
      rw[h2,add_add]
      simp only[fh,kv,Nat.zero_add]
      rw[JM (ls:=cR) (w:=5) (o:=4) h3 rfl rfl (by omega),aQ]
      rfl
    unfold nA.aZ
    try simp -implicitDefEqProofs only[hlen,gk,hh]
    rw[decide_eq_true (by omega),cond_true,rq kE,Option.bind_some,Option.bind_some]
    rw[aS (by rw[hlen];omega),Int.toNat_natCast,aS o4,aif,Option.bind_some]
    have dH:bB true (ag aC) [.str] (ae false [.str] fs[i].2.2.2.2)=some fs[i].2.2.2.2:=hL rfl
    have ha:k4 16 fs[i].2.2.2.2=some fs[i].2.2.2.2:=by unfold k4;rw[aS ⟨by have:=ad _ (List.getElem_mem bn);unfold ei;omega,by omega⟩]
    rw[dH,Option.bind_some,ha,Option.bind_some,aS (by rw[hlen];omega),aS o4]
    have aih:H.aY (ag aC) (V.add (V.add F.a (i*5)) 4) [.slice (ae true [.str] fs[i].2.2.2.2).a fs[i].2.2.2.2.length fs[i].2.2.2.2.length true]=some (ag cK):=w1
    rw[aih,Option.bind_some,dO (by omega)]
   ·right
    have:i=fs.length:=by omega
    subst this
    rw[List.take_length,List.drop_length,List.map_nil,List.append_nil]at dG
    refine⟨_, ?_,aC,rfl,dG,KR,eg⟩
    unfold nA.aZ
    try simp -implicitDefEqProofs only[hlen]
    rw[decide_eq_false (by omega),cond_false]) bd ((0:Int),ag sl) ⟨0,sl,rfl,Nat.zero_le _,by rw[List.take_zero,List.map_nil,List.nil_append,List.drop_zero];exact hI,rfl,fun _ _=>rfl⟩ (dj (by show fs.length-0<_;omega))
 exact ⟨aC,aw,aH,aW,bq⟩
theorem aak{sl:List Slot}{fs:List dV}{ls rs:List bK}{d:Int}(ak:fs.length≤2^20)(lY:∀f∈fs,f.2.2.2.2.length≤2^20)(aq:ls.length≤2^20)(Hw:∀x∈ls,pS x)(af:rs.length≤2^20)(xn:∀x∈rs,pS x):
  ∃aC v F L R iC o hJ,nA (ae false bT fs,ae false aX ls,ae false aX rs,d) (ag sl)=some (.aa v 5 0,ag aC)∧aC[v]? =some (cu F L R d 0)∧Acc aC cR (fs.map (bl true)) F iC∧c_ aC (ls.map (dY true)) L o∧c_ aC (rs.map (dY true)) R hJ∧
   (∀id,hJ=some id→o≠some id)∧(∀id,iC=some id→sl.length≤id)∧(∀id,o=some id→sl.length≤id)∧(∀id,hJ=some id→sl.length≤id)∧sl.length≤v∧∀j,j<sl.length→aC[j]? =sl[j]?:=by
 obtain⟨F,aG,iC,aw,aH,aW⟩:=XC (f:=false) (sl:=sl++[bI (ae false bT fs) (ae false aX ls) (ae false aX rs) d]) ak
 obtain⟨L,e2,o,iz,hH,xD⟩:=Qh (f:=false) (sl:=(sl++[bI (ae false bT fs) (ae false aX ls) (ae false aX rs) d])++aG) aq Hw
 obtain⟨R,bP,hJ,fo,jy,AQ⟩:=Qh (f:=false) (sl:=((sl++[bI (ae false bT fs) (ae false aX ls) (ae false aX rs) d])++aG)++e2) af xn
 have jl:(sl++[bI (ae false bT fs) (ae false aX ls) (ae false aX rs) d])[sl.length]? =some (bI (ae false bT fs) (ae false aX ls) (ae false aX rs) d):=by simp
 have rG:((sl++[bI (ae false bT fs) (ae false aX ls) (ae false aX rs) d])++aG)[sl.length]? =some (bI (ae false bT fs) (ae false aX ls) (ae false aX rs) d):=by rw[List.getElem?_append_left (by simp)];exact jl
 have Hr:(((sl++[bI (ae false bT fs) (ae false aX ls) (ae false aX rs) d])++aG)++e2)[sl.length]? =some (bI (ae false bT fs) (ae false aX ls) (ae false aX rs) d):=by rw[List.getElem?_append_left (by simp)];exact rG
 have Ut:((((sl++[bI (ae false bT fs) (ae false aX ls) (ae false aX rs) d])++aG)++e2)++bP)[sl.length]? =some (bI (ae false bT fs) (ae false aX ls) (ae false aX rs) d):=by rw[List.getElem?_append_left (by simp)];exact Hr
 generalize Er:(((sl++[bI (ae false bT fs) (ae false aX ls) (ae false aX rs) d])++aG)++e2)++bP=iD at Ut fo jy
 have acM:sl.length+1≤iD.length:=by rw[←Er];simp
 have od:=acO Ut F
 have Uu:(iD.set sl.length (bI F (ae false aX ls) (ae false aX rs) d))[sl.length]? =some (bI F (ae false aX ls) (ae false aX rs) d):=List.getElem?_set_self (by omega)
 have gF:=acP Uu L
 rw[List.set_set]at gF
 have aii:(iD.set sl.length (bI F L (ae false aX rs) d))[sl.length]? =some (bI F L (ae false aX rs) d):=List.getElem?_set_self (by omega)
 have Uv:=acQ aii R
 rw[List.set_set]at Uv
 have Nq:(iD.set sl.length (bI F L R d))[sl.length]? =some (bI F L R d):=List.getElem?_set_self (by omega)
 have hy:∀{n:Nat} {AT:Option Nat},sl.length+1≤n→(∀id,AT=some id→n≤id)→∀id,AT=some id→id≠sl.length:=fun aM hh id aT=>by have:=hh id aT;omega
 have S8:Acc (iD.set sl.length (bI F L R d)) cR (fs.map (bl false)) F iC:=aH.frame fun id aT=>by
  subst aT
  have h1:=aH.lt
  have h2:=aW id rfl
  rw[List.getElem?_set_ne (by simp at h2;omega),←Er,List.getElem?_append_left (by simp at h1⊢;omega),List.getElem?_append_left h1]
 obtain⟨jO,cy,dd,dF,gy⟩:=Yx (h:=ag sl) (c:=sl.length) rfl Nq S8 ak lY
 have afx:iC≠some sl.length:=fun e=>by have:=aW _ e;simp at this;omega
 have aij:jO[sl.length]? =some (bI F L R d):=by rw[gy _ afx];exact Nq
 have aj0:jO.length=iD.length:=by rw[dF];simp
 have S9:∀{gs:List dr} {T:List Slot} {s:au} {AT:Option Nat},c_ T gs s AT→(∀id,iC=some id→id<T.length→T[id]? =(iD.set sl.length (bI F L R d))[id]?)→∀id,AT=some id→iC≠some id:=fun{gs T s AT} dG heq id aT e=>by
  subst aT
  obtain⟨c,eU,bu,bs,b6,cd⟩:=dG
  subst e
  have h3:=S8.2.2
  rw[←heq id rfl (List.getElem?_eq_some_iff.1 b6).1,b6]at h3
  simp only[Option.some.injEq,Slot.own.injEq]at h3
  exact absurd h3.2 (by decide)
 have Uw:∀(T e:List Slot),T++e=iD→∀id,iC=some id→id<T.length→T[id]? =(iD.set sl.length (bI F L R d))[id]?:=fun T e bt id aT bn=>by
  rw[List.getElem?_set_ne (fun h=>by have:=aW id aT;simp at this;omega),←bt,List.getElem?_append_left bn]
 have aik:∀id,o=some id→iC≠some id:=S9 hH (Uw _ bP (by rw[←Er]))
 have afy:∀id,hJ=some id→iC≠some id:=S9 jy (Uw _ [] (by rw[List.append_nil]))
 have S_:c_ jO (ls.map (dY true)) L o:=hH.frame fun id aT=>by
  subst aT
  have h1:=hH.lt
  have h2:=xD id rfl
  rw[gy id (aik id rfl),List.getElem?_set_ne (by simp at h2;omega),←Er,List.getElem?_append_left h1]
 have Ta:c_ jO (rs.map (dY true)) R hJ:=jy.frame fun id aT=>by
  subst aT
  have h2:=AQ id rfl
  rw[gy id (afy id rfl),List.getElem?_set_ne (by simp at h2;omega)]
 refine⟨jO++[cu F L R d 0],jO.length,F,L,R,iC,o,hJ, ?_,by simp,dd.more,S_.frame fun id aT=>by subst aT;rw[List.getElem?_append_left S_.lt],Ta.frame fun id aT=>by subst aT;rw[List.getElem?_append_left Ta.lt],fun id aT e=>?_,fun id aT=>by have:=aW id aT;simp at this;omega,fun id aT=>by have:=xD id aT;simp at this;omega,fun id aT=>by have:=AQ id aT;simp at this;omega,by omega,fun j aL=>?_⟩
 ·unfold nA
  simp only[b9,bR,gk]
  have ake:(iD.set sl.length (bI F (ae false aX ls) (ae false aX rs) d))[sl.length]? =some (bI F (ae false aX ls) (ae false aX rs) d):=Uu
  rw[rq jl,Option.bind_some,aw,Option.bind_some]
  simp only
  rw[rr rG,Option.bind_some,iz,Option.bind_some]
  simp only
  rw[Sz Hr,Option.bind_some,fo,Option.bind_some]
  simp only
  rw[od,Option.bind_some,gF,Option.bind_some,Uv,Option.bind_some,rq Nq,Option.bind_some,cy,Option.bind_some]
  simp only
  rw[iH aij,Option.bind_some,b9,bR]
 ·have h1:=AQ id aT
  subst e
  have h2:=hH.lt
  omega
 ·rw[List.getElem?_append_left (by omega),gy j (fun e=>by have:=aW _ e;simp at this;omega),List.getElem?_set_ne (by omega),←Er,List.append_assoc,List.append_assoc,List.append_assoc,List.getElem?_append_left aL]
theorem y2(n:Int):mS n=some (ck n):=by
 unfold mS BA ck
 try simp -implicitDefEqProofs only[aF,reduceIte,av,az,aB,ax,an.un,aj.un,ai.un,LT.un,ab.un,ab.plain,LT.plain]
 by_cases h1:1≤n
 ·rw[decide_eq_true (show(1:Int)≤n from h1),cond_true]
  try simp -implicitDefEqProofs only[aF,reduceIte,av,az,aB,ax,an.un,aj.un,ai.un,LT.un,ab.un,ab.plain,LT.plain]
  by_cases h2:n≤1073741824
  ·rw[decide_eq_true h2,decide_eq_true (show 1≤n∧n≤1073741824 from⟨h1,h2⟩)]
  ·rw[decide_eq_false h2,decide_eq_false (show ¬(1≤n∧n≤1073741824)from fun h=>h2 h.2)]
 ·rw[decide_eq_false (show ¬(1:Int)≤n from h1),cond_false,decide_eq_false (show ¬(1≤n∧n≤1073741824)from fun h=>h1 h.1)]
  try simp -implicitDefEqProofs only[aF,reduceIte,av,az,aB,ax,an.un,aj.un,ai.un,LT.un,ab.un,ab.plain,LT.plain]
theorem Yy (s:ByteArray)(ad:s.size<2^60):∃b,r7 s=some b:=by
 unfold r7 pz
 obtain⟨x,h1,h2⟩:=ft (f:=pz.aZ s) (Inv:=fun st=>∃i:Nat,st=((i:Int),H.empty)∧i≤s.size) (Post:=fun x=>x=(.ret false,H.empty)∨x=(.aP (),H.empty)) (fun st=>s.size-st.1.toNat) (fun st a6=>by
  obtain⟨i,rfl,hi⟩:=a6
  by_cases bn:i<s.size
  ·by_cases aE:(bif !(decide ((((((ByteArray.data s)[i]?).map UInt8.toNat).getD 0:Nat):Int)<32))then decide ((126:Int)<(((((ByteArray.data s)[i]?).map UInt8.toNat).getD 0:Nat):Int))else true)=true
   ·right
    refine⟨(.ret false,H.empty), ?_,.inl rfl⟩
    unfold pz.aZ
    try simp -implicitDefEqProofs only[]
    rw[decide_eq_true (by omega),cond_true,aS (by omega),aS (by omega),Int.toNat_natCast]
    revert aE
    cases(!(decide ((((((ByteArray.data s)[i]?).map UInt8.toNat).getD 0:Nat):Int)<32)))<;>intro aE
    ·rfl
    ·simp only[cond_true]at aE⊢
     rw[aE]
     rfl
   ·left
    refine⟨(((i+1:Nat):Int),H.empty), ?_,⟨i+1,rfl,by omega⟩,by simp only[Int.toNat_natCast];omega⟩
    unfold pz.aZ
    try simp -implicitDefEqProofs only[]
    rw[decide_eq_true (by omega),cond_true,aS (by omega),aS (by omega),Int.toNat_natCast]
    revert aE
    cases(!(decide ((((((ByteArray.data s)[i]?).map UInt8.toNat).getD 0:Nat):Int)<32)))<;>intro aE
    ·exact absurd rfl aE
    ·simp only[cond_true]at aE⊢
     rw[Bool.eq_false_iff.2 aE]
     simp only[Option.bind_some,cond_false]
     rw[dO (by omega)]
  ·right
   refine⟨(.aP (),H.empty), ?_,.inr rfl⟩
   unfold pz.aZ
   try simp -implicitDefEqProofs only[]
   rw[decide_eq_false (by omega),cond_false]) bd ((0:Int),H.empty) ⟨0,rfl,Nat.zero_le _⟩ (dj (by show s.size-0<_;omega))
 rw[h1]
 rcases h2 with rfl |rfl
 ·exact ⟨false,rfl⟩
 ·simp only[Option.bind_some]
  by_cases bL:(1:Int)≤((ByteArray.size s:Nat):Int)
  ·by_cases a_:((ByteArray.size s:Nat):Int)≤64
   ·rw[decide_eq_true bL,cond_true,decide_eq_true a_,cond_true,aS (by omega),IntWalk.i64_in _ (by omega),aS (by omega)]
    cases(!(decide ((((((ByteArray.data s)[Int.toNat 0]?).map UInt8.toNat).getD 0:Nat):Int)=32)))
    ·exact ⟨_,rfl⟩
    ·exact ⟨_,rfl⟩
   ·rw[decide_eq_true bL,cond_true,decide_eq_false a_]
    exact ⟨_,rfl⟩
  ·rw[decide_eq_false bL]
   exact ⟨_,rfl⟩
noncomputable def rA (s:ByteArray):Bool:=(r7 s).getD false
theorem QU(s:ByteArray)(ad:s.size<2^60):r7 s=some (rA s):=by
 obtain⟨b,h⟩:=Yy s ad
 rw[rA,h]
 rfl
def ke (l:List ByteArray)(i:Nat):ByteArray:=(l[i]?).getD ⟨#[]⟩
noncomputable def Hz (l:List ByteArray):Bool:=(List.range l.length).all fun i=>rA (ke l i)&&(decide (i=0)||Op.bytesLess (ke l (i-1)).toList (ke l i).toList)
noncomputable def jY (f:dV):Bool:=Hz f.2.2.2.2&&(ck f.1&&decide (1≤f.2.1∧f.2.1≤8∧0≤f.2.2.1∧f.2.2.1≤100000)&&rA f.2.2.2.1&&decide (f.2.2.2.2.length≤16))
theorem QV{l:List ByteArray}{i:Nat}(h:i<l.length):l[i]? =some (ke l i):=by unfold ke;rw[List.getElem?_eq_getElem h];rfl
abbrev f5(a b c:Int)(s:ByteArray)(S:au):Slot:=.own [.int .i64 a,.int .i64 b,.int .i64 c,.str s,.slice S.a S.len S.cap S.tail] 5
theorem XD(f:dV)(h1:f.2.2.2.1.size<2^60)(h2:∀a∈f.2.2.2.2,a.size<2^60)(h3:f.2.2.2.2.length<2^60):xZ f=some (jY f):=by
 obtain⟨a,b,c,s,al⟩:=f
 simp only at h1 h2 h3
 unfold xZ py
 try simp -implicitDefEqProofs only[hj,b9,bR,List.nil_append,List.length_nil]
 simp only[show Slot.own [V.int .i64 a,V.int .i64 b,V.int .i64 c,V.str s,V.slice (ae false [.str] al).a (ae false [.str] al).len (ae false [.str] al).cap (ae false [.str] al).tail] 5=f5 a b c s (ae false [.str] al)from rfl]
 have ao:[f5 a b c s (ae false [.str] al)][0]? =some (f5 a b c s (ae false [.str] al)):=rfl
 have dp:ah (.leaf (.int .i64)) (ag [f5 a b c s (ae false [.str] al)]) (.aa 0 5 0)=some a:=by rw[e5 (g:=5) ao rfl];rfl
 have bw:ah (.leaf (.int .i64)) (ag [f5 a b c s (ae false [.str] al)]) (.aa 0 5 1)=some b:=by rw[e5 (g:=5) ao rfl];rfl
 have bJ:ah (.leaf (.int .i64)) (ag [f5 a b c s (ae false [.str] al)]) (.aa 0 5 2)=some c:=by rw[e5 (g:=5) ao rfl];rfl
 have ch:ah (.leaf .str) (ag [f5 a b c s (ae false [.str] al)]) (.aa 0 5 3)=some s:=by rw[e5 (g:=5) ao rfl];rfl
 have bQ:ah (.leaf .slice) (ag [f5 a b c s (ae false [.str] al)]) (.aa 0 5 4)=some (ae false [.str] al):=by rw[e5 (g:=5) ao rfl];rfl
 have rs:∀i,i<al.length→ah (.leaf .str) (ag [f5 a b c s (ae false [.str] al)]) (V.add (ae false [.str] al).a (i*1))=some (ke al i):=fun i hi=>by
  rw[FT (w:=1) (ls:=[.str]) (xs:=al) rfl (by omega),QV hi]
  rfl
 have cf:∀i,i<al.length→(ke al i).size<2^60:=fun i hi=>h2 _ (List.mem_of_getElem? (QV hi))
 have loop:=P1 (f:=py.aZ (ag []) (ae false [.str] al)) (y:=(bG.aP (),ag [f5 a b c s (ae false [.str] al)]))
  (fun i=>if(rA (ke al i)&&(decide (i=0)||Op.bytesLess (ke al (i-1)).toList (ke al i).toList))=true then none else some (bG.ret false,ag [f5 a b c s (ae false [.str] al)])) al.length (fun i=>((i:Int),ag [f5 a b c s (ae false [.str] al)])) bd (fun i hi=>by
   unfold py.aZ
   try simp -implicitDefEqProofs only[bZ,bR,List.length_nil]
   rw[decide_eq_true (by omega),cond_true,aS (by omega),Int.toNat_natCast,rs i hi,Option.bind_some,QU _ (cf i hi),Option.bind_some]
   cases aM:rA (ke al i)with
   |false=>
    try simp -implicitDefEqProofs only[Bool.not_false,Bool.not_true,cond_false,cond_true,Option.bind_some,Bool.false_and,Bool.false_eq_true,if_false]
   |true=>
    try simp -implicitDefEqProofs only[Bool.not_false,Bool.not_true,cond_false,cond_true,Option.bind_some,Bool.true_and]
    by_cases aO:i=0
    ·subst aO
     rw[decide_eq_false (by omega),cond_false]
     try simp -implicitDefEqProofs only[Option.bind_some,cond_false,decide_true,Bool.true_or,if_true]
     rfl
    ·rw[decide_eq_true (by omega),cond_true,bQ,Option.bind_some,IntWalk.i64_in _ (by omega),aS (by rw[bZ];omega),show((i:Int)-1).toNat=i-1 by omega,rs (i-1) (by omega),Option.bind_some,Option.bind_some]
     rw[decide_eq_false (show ¬i=0 from aO),Bool.false_or]
     cases Op.bytesLess (ke al (i-1)).toList (ke al i).toList with
     |true=>
      try simp -implicitDefEqProofs only[Bool.not_true,cond_false,if_true]
      rw[dO (by omega)]
     |false=>
      try simp -implicitDefEqProofs only[Bool.not_false,cond_true,if_false,Bool.false_eq_true]) (by
   unfold py.aZ
   try simp -implicitDefEqProofs only[bZ]
   rw[decide_eq_false (by omega),cond_false]) (dj (by omega))
 rw[bQ,Option.bind_some]
 have acS:iter bd (py.aZ (ag []) (ae false [.str] al)) (0,ag [f5 a b c s (ae false [.str] al)])=_:=loop
 rw[acS]
 have hq:∀(q:Nat→Bool) (y z:bG Unit Bool×H) (n:Nat),((List.range n).findSome? fun i=>if q i=true then none else some z).getD y=if(List.range n).all q=true then y else z:=fun q y z n=>by
  cases ey:(List.range n).all q with
  |true=>
   rw[if_pos rfl,List.findSome?_eq_none_iff.2 fun i hi=>by rw[if_pos (List.all_eq_true.1 ey i hi)]]
   rfl
  |false=>
   rw[if_neg (by decide)]
   obtain⟨i,hi,aV⟩:=List.all_eq_false.1 ey
   cases ak:(List.range n).findSome? fun i=>if q i=true then none else some z with
   |none=>
    have:=List.findSome?_eq_none_iff.1 ak i hi
    rw[if_neg aV]at this
    cases this
   |some w=>
    obtain⟨j,aL,hw⟩:=List.exists_of_findSome?_eq_some ak
    split at hw
    ·cases hw
    ·cases hw;rfl
 rw[hq (fun i=>rA (ke al i)&&(decide (i=0)||Op.bytesLess (ke al (i-1)).toList (ke al i).toList))]
 rw[show((List.range al.length).all fun i=>rA (ke al i)&&(decide (i=0)||Op.bytesLess (ke al (i-1)).toList (ke al i).toList))=Hz al from rfl,Option.bind_some]
 unfold jY
 cases akf:Hz al with
 |false=>
  rw[if_neg (by decide)]
  try simp -implicitDefEqProofs only[aF,reduceIte,av,az,aB,ax,an.un,aj.un,ai.un,LT.un,ab.un,ab.plain,LT.plain,Bool.false_and]
 |true=>
  rw[if_pos rfl]
  try simp -implicitDefEqProofs only[Bool.true_and]
  rw[dp,Option.bind_some,y2,Option.bind_some]
  cases ck a with
  |false=>simp -implicitDefEqProofs only[aF,reduceIte,av,az,aB,ax,an.un,aj.un,ai.un,LT.un,ab.un,ab.plain,LT.plain,Bool.false_and]
  |true=>
   try simp -implicitDefEqProofs only[aF,reduceIte,av,az,aB,ax,an.un,aj.un,ai.un,LT.un,ab.un,ab.plain,LT.plain,bw,bJ,ch,bQ]
   by_cases bL:1≤b
   ·rw[decide_eq_true (show(1:Int)≤b from bL)]
    by_cases a_:b≤8
    ·rw[decide_eq_true a_]
     by_cases cY:0≤c
     ·rw[decide_eq_true (show(0:Int)≤c from cY)]
      by_cases bI:c≤100000
      ·rw[decide_eq_true bI,decide_eq_true (show 1≤b∧b≤8∧0≤c∧c≤100000 from⟨bL,a_,cY,bI⟩),QU s h1]
       try simp -implicitDefEqProofs only[aF,reduceIte,av,az,aB,ax,an.un,aj.un,ai.un,LT.un,ab.un,ab.plain,LT.plain]
       cases rA s with
       |false=>simp -implicitDefEqProofs only[aF,reduceIte,av,az,aB,ax,an.un,aj.un,ai.un,LT.un,ab.un,ab.plain,LT.plain,Bool.false_and]
       |true=>
        try simp -implicitDefEqProofs only[aF,reduceIte,av,az,aB,ax,an.un,aj.un,ai.un,LT.un,ab.un,ab.plain,LT.plain]
        by_cases kT:al.length≤16
        ·rw[decide_eq_true (show(al.length:Int)≤16 by omega),decide_eq_true kT]
        ·rw[decide_eq_false (show ¬(al.length:Int)≤16 by omega),decide_eq_false kT]
      ·rw[decide_eq_false bI,decide_eq_false (show ¬(1≤b∧b≤8∧0≤c∧c≤100000) by omega)]
       try simp -implicitDefEqProofs only[aF,reduceIte,av,az,aB,ax,an.un,aj.un,ai.un,LT.un,ab.un,ab.plain,LT.plain,Bool.false_and]
     ·rw[decide_eq_false (show ¬(0:Int)≤c from cY),decide_eq_false (show ¬(1≤b∧b≤8∧0≤c∧c≤100000) by omega)]
      try simp -implicitDefEqProofs only[aF,reduceIte,av,az,aB,ax,an.un,aj.un,ai.un,LT.un,ab.un,ab.plain,LT.plain,Bool.false_and]
    ·rw[decide_eq_false a_,decide_eq_false (show ¬(1≤b∧b≤8∧0≤c∧c≤100000) by omega)]
     try simp -implicitDefEqProofs only[aF,reduceIte,av,az,aB,ax,an.un,aj.un,ai.un,LT.un,ab.un,ab.plain,LT.plain,Bool.false_and]
   ·rw[decide_eq_false (show ¬(1:Int)≤b from bL),decide_eq_false (show ¬(1≤b∧b≤8∧0≤c∧c≤100000) by omega)]
    try simp -implicitDefEqProofs only[aF,reduceIte,av,az,aB,ax,an.un,aj.un,ai.un,LT.un,ab.un,ab.plain,LT.plain,Bool.false_and]
def CQ(f:dV):Bool:=decide (f.1=0)&&(decide (f.2.1=0)&&(decide (f.2.2.1=0)&&(decide (f.2.2.2.1=⟨#[]⟩)&&decide ((f.2.2.2.2.length:Int)=0))))
theorem vH(f:dV):tY f=some (CQ f):=by
 obtain⟨a,b,c,s,al⟩:=f
 unfold tY Bl CQ
 try simp -implicitDefEqProofs only[hj,b9,bR,List.nil_append,List.length_nil]
 simp only[show Slot.own [V.int .i64 a,V.int .i64 b,V.int .i64 c,V.str s,V.slice (ae false [.str] al).a (ae false [.str] al).len (ae false [.str] al).cap (ae false [.str] al).tail] 5=f5 a b c s (ae false [.str] al)from rfl]
 have ao:[f5 a b c s (ae false [.str] al)][0]? =some (f5 a b c s (ae false [.str] al)):=rfl
 have dp:ah (.leaf (.int .i64)) (ag [f5 a b c s (ae false [.str] al)]) (.aa 0 5 0)=some a:=by rw[e5 (g:=5) ao rfl];rfl
 have bw:ah (.leaf (.int .i64)) (ag [f5 a b c s (ae false [.str] al)]) (.aa 0 5 1)=some b:=by rw[e5 (g:=5) ao rfl];rfl
 have bJ:ah (.leaf (.int .i64)) (ag [f5 a b c s (ae false [.str] al)]) (.aa 0 5 2)=some c:=by rw[e5 (g:=5) ao rfl];rfl
 have ch:ah (.leaf .str) (ag [f5 a b c s (ae false [.str] al)]) (.aa 0 5 3)=some s:=by rw[e5 (g:=5) ao rfl];rfl
 have bQ:ah (.leaf .slice) (ag [f5 a b c s (ae false [.str] al)]) (.aa 0 5 4)=some (ae false [.str] al):=by rw[e5 (g:=5) ao rfl];rfl
 try simp -implicitDefEqProofs only[dp,bw,bJ,ch,bQ,Option.bind_some,bZ]
 cases decide (a=0)<;>cases decide (b=0)<;>cases decide (c=0)<;>cases decide (s=(⟨#[]⟩:ByteArray))<;>rfl
abbrev b_(s:dK):dV:=s.2.2.2.2.2.2
noncomputable def ru (s:dK):Bool:=
 (ck s.1&&(!decide (s.2.2.2.2.2.1<1)&&!decide ((128849018880000:Int)<s.2.2.2.2.2.1)))&&
 (if s.2.1=1 then decide (s.2.2.1=0)&&(ck s.2.2.2.1&&(decide ((1:Int)≤s.2.2.2.2.1)&&(decide (s.2.2.2.2.1≤10737418240000)&&jY (b_ s))))
  else if s.2.1=2 then decide (s.2.2.1=0)&&(ck s.2.2.2.1&&(decide (s.2.2.2.2.1=0)&&CQ (b_ s)))
  else if s.2.1=3 then ck s.2.2.1&&(ck s.2.2.2.1&&(!decide (s.2.2.1=s.2.2.2.1)&&(decide (s.2.2.2.2.1=0)&&CQ (b_ s))))
  else if s.2.1=4 then ck s.2.2.1&&(decide (s.2.2.2.1=0)&&(decide (s.2.2.2.2.1=0)&&CQ (b_ s)))
  else false)
def lx(f:dV):Prop:=f.2.2.2.1.size<2^60∧(∀a∈f.2.2.2.2,a.size<2^60)∧f.2.2.2.2.length≤2^19
theorem Yz(s:dK)(bk:lx (b_ s)):vq s=some (ru s):=by
 have y6:=XD (b_ s) bk.1 bk.2.1 (by have:=bk.2.2;omega)
 have nN:=vH (b_ s)
 obtain⟨s0,s1,s2,cU,eD,ee,a,b,c,o,al⟩:=s
 unfold vq Bf ru
 simp only at y6 nN⊢
 try simp -implicitDefEqProofs only[hj,b9,bR,List.nil_append,List.length_nil]
 simp only[show Slot.own [V.int .i64 s0,V.int .i64 s1,V.int .i64 s2,V.int .i64 cU,V.int .i64 eD,V.int .i64 ee,V.int .i64 a,V.int .i64 b,V.int .i64 c,V.str o,V.slice (ae false [.str] al).a (ae false [.str] al).len (ae false [.str] al).cap (ae false [.str] al).tail] 11=ct (s0,s1,s2,cU,eD,ee,a,b,c,o,ae false [.str] al)from rfl]
 have ao:[ct (s0,s1,s2,cU,eD,ee,a,b,c,o,ae false [.str] al)][0]? =some (ct (s0,s1,s2,cU,eD,ee,a,b,c,o,ae false [.str] al)):=rfl
 obtain⟨dp,bJ,ch,bQ,di,b4⟩:=sF ao
 have bw:ah (.leaf (.int .i64)) (ag [ct (s0,s1,s2,cU,eD,ee,a,b,c,o,ae false [.str] al)]) (.aa 0 11 1)=some s1:=by rw[e5 (g:=11) ao rfl];rfl
 have fp:=R5 ao
 have dH:bB true (ag [ct (s0,s1,s2,cU,eD,ee,a,b,c,o,ae false [.str] al)]) [.str] (ae false [.str] al)=some al:=hL rfl
 simp only at dp bJ ch bQ di b4 fp
 have zR:((ah (.leaf (.int .i64)) (ag [ct (s0,s1,s2,cU,eD,ee,a,b,c,o,ae false [.str] al)]) (.aa 0 11 0)).bind fun b5=>((mS b5).bind fun ch=>
   (bif !(!ch)then((ah (.leaf (.int .i64)) (ag [ct (s0,s1,s2,cU,eD,ee,a,b,c,o,ae false [.str] al)]) (.aa 0 11 5)).bind fun eB=>(bif !(decide (eB<1))then((ah (.leaf (.int .i64)) (ag [ct (s0,s1,s2,cU,eD,ee,a,b,c,o,ae false [.str] al)]) (.aa 0 11 5)).bind fun fb=>
    (some ((decide ((128849018880000:Int)<fb)),ag [ct (s0,s1,s2,cU,eD,ee,a,b,c,o,ae false [.str] al)])))else (some (true,ag [ct (s0,s1,s2,cU,eD,ee,a,b,c,o,ae false [.str] al)]))))else (some (true,ag [ct (s0,s1,s2,cU,eD,ee,a,b,c,o,ae false [.str] al)])))))=some (!(ck s0&&(!decide (ee<1)&&!decide ((128849018880000:Int)<ee))),ag [ct (s0,s1,s2,cU,eD,ee,a,b,c,o,ae false [.str] al)]):=by
  rw[dp,Option.bind_some,y2,Option.bind_some,di]
  simp only[Option.bind_some]
  cases ck s0<;>cases decide (ee<1)<;>cases decide ((128849018880000:Int)<ee)<;>rfl
 rw[zR,Option.bind_some]
 simp only
 cases db:(ck s0&&(!decide (ee<1)&&!decide ((128849018880000:Int)<ee)))with
 |false=>rfl
 |true=>
  try simp -implicitDefEqProofs only[Bool.not_true,cond_false,bw,Option.bind_some,Bool.true_and]
  by_cases aw:s1=1
  ·rw[decide_eq_true aw,if_pos aw,cond_true,bJ]
   try simp -implicitDefEqProofs only[ch,bQ,fp,y2,Option.bind_some,dH,y6]
   cases decide (s2=0)<;>cases ck cU<;>cases decide ((1:Int)≤eD)<;>cases decide (eD≤10737418240000)<;>rfl
  ·rw[decide_eq_false aw,if_neg aw,cond_false]
   by_cases aH:s1=2
   ·rw[decide_eq_true aH,if_pos aH,cond_true,bJ]
    try simp -implicitDefEqProofs only[ch,bQ,fp,y2,Option.bind_some,dH,nN]
    cases decide (s2=0)<;>cases ck cU<;>cases decide (eD=0)<;>rfl
   ·rw[decide_eq_false aH,if_neg aH,cond_false]
    by_cases aW:s1=3
    ·rw[decide_eq_true aW,if_pos aW,cond_true,bJ]
     try simp -implicitDefEqProofs only[ch,bQ,fp,y2,Option.bind_some,dH,nN]
     cases ck s2<;>cases ck cU<;>cases decide (s2=cU)<;>cases decide (eD=0)<;>rfl
    ·rw[decide_eq_false aW,if_neg aW,cond_false]
     by_cases bq:s1=4
     ·rw[decide_eq_true bq,if_pos bq,cond_true,bJ]
      try simp -implicitDefEqProofs only[ch,bQ,fp,y2,Option.bind_some,dH,nN]
      cases ck s2<;>cases decide (cU=0)<;>cases decide (eD=0)<;>rfl
     ·rw[decide_eq_false bq,if_neg bq,cond_false]
      rfl
def fW(c:e3)(s:dK):List dV×List bK×List bK×Int:=
 if s.2.1=1 then(j4 (b_ s) c.1,(gf c.2.1 s.2.2.2.1 s.2.2.2.2.1 s.2.2.2.2.2.1 [((b_ s).1,s.2.2.2.2.1)]).1,c.2.2.1,pZ (c.1.any fun g=>decide (g.1=(b_ s).1)) c.1.length (gf c.2.1 s.2.2.2.1 s.2.2.2.2.1 s.2.2.2.2.2.1 [((b_ s).1,s.2.2.2.2.1)]).2)
 else if s.2.1=2 then(c.1,(gf c.2.1 s.2.2.2.1 0 s.2.2.2.2.2.1 []).1,c.2.2.1,(gf c.2.1 s.2.2.2.1 0 s.2.2.2.2.2.1 []).2)
 else if s.2.1=3 then(c.1,(rp c.2.1 s.2.2.1 s.2.2.2.2.2.1 s.2.2.2.1).1,c.2.2.1,(rp c.2.1 s.2.2.1 s.2.2.2.2.2.1 s.2.2.2.1).2)
 else (c.1,(ed c.2.1 s.2.2.1 s.2.2.2.2.2.1 s.1).1,c.2.2.1++[(ed c.2.1 s.2.2.1 s.2.2.2.2.2.1 s.1).2.1],(ed c.2.1 s.2.2.1 s.2.2.2.2.2.1 s.1).2.2)
def rB(n:Nat)(e:Int):Int:=if e=0 then(if 32<n then 8 else 0)else e
abbrev jD:e3:=([],[],[],0)
noncomputable def gC (c:e3) (s:dK):e3×Int:=
 if ru s=true then
  (if s.1≤c.2.2.2 then(jD,5)
   else if rB (fW c s).2.1.length (fW c s).2.2.2=0 then(((fW c s).1,(fW c s).2.1,(fW c s).2.2.1,s.1),0)else (jD,rB (fW c s).2.1.length (fW c s).2.2.2))
 else (jD,1)
structure HA(c:e3):Prop where
 fs:(c.1.map (·.1)).Pairwise (· <·)
 dE:∀f∈c.1,ck f.1=true
 fl:c.1.length≤2^18
 ail:∀f∈c.1,f.2.2.2.2.length≤2^19
 ls:p0 c.2.1
 HB:∀x∈c.2.1,ck x.1=true
 AG:c.2.1.length≤2^18
 Ux:∀x∈c.2.1,pS x
 U0:c.2.2.1.length≤2^18
 aim:∀x∈c.2.2.1,pS x
theorem QW{f:dV}:∀{fs:List dV},(j4 f fs).map (bl true)=j4 (bl true f) (fs.map (bl true))
 |[]=>rfl
 |g::fs=>by
  simp only[j4,List.map_cons]
  split
  ·rfl
  ·rw[List.map_cons,QW]
theorem Ji{sl:List Slot}{fs:List dV}{F:au}{o:Option Nat}(h:Acc sl cR (fs.map (bl true)) F o):Acc sl bT fs F o:=by
 cases o with
 |none=>
  obtain⟨h1,h2⟩:=h
  have:fs=[]:=List.map_eq_nil_iff.1 h1
  exact ⟨this,h2⟩
 |some id=>
  obtain⟨h1,h2,h3⟩:=h
  refine⟨by simpa using h1,by rw[h2,List.length_map];rfl, ?_⟩
  rw[h3]
  congr 2
  unfold bx
  rw[List.flatMap_map]
  rfl
theorem c_.over{lp:Bool}{sl:List Slot}{gs:List dr}{xs:List bK}{s:au}{o:Option Nat}{c:Nat}{F L R:au}{d:Int}{z:Slot}(h:c_ sl gs s o)(af:dQ gs xs)(ao:sl[c]? =some (bI F L R d)):bB lp (ag (sl.set c z)) aX s=some xs:=by
 cases o with
 |none=>exact c_.read (o:=none) h af
 |some id=>
  by_cases aT:id=c
  ·subst aT
   obtain⟨k,eU,h1,rfl,h3,aI⟩:=h
   cases gs with
   |nil=>
    have:xs=[]:=af
    subst this
    exact mu
   |cons g gs=>
    rw[ao]at h3
    simp only[bx,List.flatMap_cons,FC,Option.some.injEq,Slot.own.injEq,List.cons_append,List.cons.injEq]at h3
    exact absurd h3.1.1 (by simp)
  ·exact (h.frame fun i hi=>by cases hi;exact List.getElem?_set_ne (Ne.symm aT)).read af
theorem kN.over{lp:Bool}{sl:List Slot}{v:Nat}{gs:List dr}{xs:List bK}{s:au}{c:Nat}{F L R:au}{d:Int}{z:Slot}(h:kN sl v gs s)(af:dQ gs xs)(ao:sl[c]? =some (bI F L R d)):bB lp (ag (sl.set c z)) aX s=some xs:=by
 rcases h with⟨o,h,_⟩|rfl
 ·exact h.over af ao
 ·exact JP af
theorem FE{T:Table}{f:FuncId}{g:V→n4→H→Option (Unit×H)}(bt:T.dg.fn f=e8 [.leaf .ptr,.agg Dn] (.many []) fun x h=>g x.1 x.2 h)(v:Nat)(s:n4){R:Type}(k:V→H→Option R)(h:H):
  eE T.dg (.func f []) [.aa v 5 0,.agg [.int .i64 s.1,.int .i64 s.2.1,.int .i64 s.2.2.1,.int .i64 s.2.2.2.1,.int .i64 s.2.2.2.2.1,.int .i64 s.2.2.2.2.2.1,.int .i64 s.2.2.2.2.2.2.1,.int .i64 s.2.2.2.2.2.2.2.1,.int .i64 s.2.2.2.2.2.2.2.2.1,.str s.2.2.2.2.2.2.2.2.2.1,.slice s.2.2.2.2.2.2.2.2.2.2.a s.2.2.2.2.2.2.2.2.2.2.len s.2.2.2.2.2.2.2.2.2.2.cap s.2.2.2.2.2.2.2.2.2.2.tail]] h k=(g (.aa v 5 0) s h).bind fun p=>k (.tuple []) p.2:=by
 simp only[eE,bt,e8,List.append_nil]
 have:aj.pack [.leaf .ptr,.agg Dn] [.aa v 5 0,.agg [.int .i64 s.1,.int .i64 s.2.1,.int .i64 s.2.2.1,.int .i64 s.2.2.2.1,.int .i64 s.2.2.2.2.1,.int .i64 s.2.2.2.2.2.1,.int .i64 s.2.2.2.2.2.2.1,.int .i64 s.2.2.2.2.2.2.2.1,.int .i64 s.2.2.2.2.2.2.2.2.1,.str s.2.2.2.2.2.2.2.2.2.1,.slice s.2.2.2.2.2.2.2.2.2.2.a s.2.2.2.2.2.2.2.2.2.2.len s.2.2.2.2.2.2.2.2.2.2.cap s.2.2.2.2.2.2.2.2.2.2.tail]]=some (.aa v 5 0,s):=rfl
 rw[this,Option.bind_some]
 rfl
theorem IL{s:dK}(h:ru s=true):ck s.1=true∧1≤s.2.2.2.2.2.1∧s.2.2.2.2.2.1≤128849018880000∧
  ((s.2.1=1∧s.2.2.1=0∧ck s.2.2.2.1=true∧1≤s.2.2.2.2.1∧s.2.2.2.2.1≤10737418240000∧jY (b_ s)=true)∨
   (s.2.1=2∧s.2.2.1=0∧ck s.2.2.2.1=true∧s.2.2.2.2.1=0)∨
   (s.2.1=3∧ck s.2.2.1=true∧ck s.2.2.2.1=true∧s.2.2.1≠s.2.2.2.1∧s.2.2.2.2.1=0)∨
   (s.2.1=4∧ck s.2.2.1=true∧s.2.2.2.1=0∧s.2.2.2.2.1=0)):=by
 unfold ru at h
 simp only[Bool.and_eq_true,Bool.not_eq_true',decide_eq_false_iff_not]at h
 obtain⟨⟨h1,h2,h3⟩,aI⟩:=h
 refine⟨h1,by omega,by omega, ?_⟩
 split at aI
 ·rename_i k
  simp only[Bool.and_eq_true,decide_eq_true_eq]at aI
  exact .inl ⟨k,aI.1,aI.2.1,aI.2.2.1,aI.2.2.2.1,aI.2.2.2.2⟩
 ·split at aI
  ·rename_i k
   simp only[Bool.and_eq_true,decide_eq_true_eq]at aI
   exact .inr (.inl ⟨k,aI.1,aI.2.1,aI.2.2.1⟩)
  ·split at aI
   ·rename_i k
    simp only[Bool.and_eq_true,Bool.not_eq_true',decide_eq_true_eq,decide_eq_false_iff_not]at aI
    exact .inr (.inr (.inl ⟨k,aI.1,aI.2.1,aI.2.2.1,aI.2.2.2.1⟩))
   ·split at aI
    ·rename_i k
     simp only[Bool.and_eq_true,decide_eq_true_eq]at aI
     exact .inr (.inr (.inr ⟨k,aI.1,aI.2.1,aI.2.2.1⟩))
    ·cases aI
theorem vz{f:dV}(h:jY f=true):Hz f.2.2.2.2=true∧ck f.1=true∧1≤f.2.1∧f.2.1≤8∧0≤f.2.2.1∧f.2.2.1≤100000∧rA f.2.2.2.1=true∧f.2.2.2.2.length≤16:=by
 unfold jY at h
 simp only[Bool.and_eq_true,decide_eq_true_eq]at h
 obtain⟨h1,⟨⟨h2,h3⟩,aI⟩,ba⟩:=h
 exact ⟨h1,h2,h3.1,h3.2.1,h3.2.2.1,h3.2.2.2,aI,ba⟩
abbrev dM(s:dK):n4:=(s.1,s.2.1,s.2.2.1,s.2.2.2.1,s.2.2.2.2.1,s.2.2.2.2.2.1,(b_ s).1,(b_ s).2.1,(b_ s).2.2.1,(b_ s).2.2.2.1,ae false [.str] (b_ s).2.2.2.2)
theorem aa0{T:Table}{sl:List Slot}{n0 v:Nat}{F L R:au}{iC o hJ:Option Nat}{c:e3}{s:dK}(ao:HA c)(ak:ru s=true)(aU:sl[v]? =some (cu F L R c.2.2.2 0))
  (hI:Acc sl cR (c.1.map (bl true)) F iC)(AB:c_ sl (c.2.1.map (dY true)) L o)(iX:c_ sl (c.2.2.1.map (dY true)) R hJ)(Ep:∀id,hJ=some id→o≠some id)(akP:n0≤v)(Es:∀id,o=some id→n0≤id)(afz:∀id,hJ=some id→n0≤id)(aM:n0≤sl.length):
  ∃aC dq cr en e4,(∀{X:Type} (k:V→H→Option X),eE (mR.tb T).dg (.func (81+s.2.1.toNat) []) [.aa v 5 0,.agg [.int .i64 (dM s).1,.int .i64 (dM s).2.1,.int .i64 (dM s).2.2.1,.int .i64 (dM s).2.2.2.1,.int .i64 (dM s).2.2.2.2.1,.int .i64 (dM s).2.2.2.2.2.1,.int .i64 (dM s).2.2.2.2.2.2.1,.int .i64 (dM s).2.2.2.2.2.2.2.1,.int .i64 (dM s).2.2.2.2.2.2.2.2.1,.str (dM s).2.2.2.2.2.2.2.2.2.1,.slice (dM s).2.2.2.2.2.2.2.2.2.2.a (dM s).2.2.2.2.2.2.2.2.2.2.len (dM s).2.2.2.2.2.2.2.2.2.2.cap (dM s).2.2.2.2.2.2.2.2.2.2.tail]] (ag sl) k=k (.tuple []) (ag aC))∧
   aC[v]? =some (cu dq cr en c.2.2.2 (fW c s).2.2.2)∧kN aC v e4 cr∧
   ((fW c s).2.2.2=0→dQ e4 (fW c s).2.1∧(∃qA,Acc aC bT (fW c s).1 dq qA∧qA≠some v)∧∃tf tF,c_ aC tf en tF∧tF≠some v∧dQ tf (fW c s).2.2.1)∧∀j,j<n0→aC[j]? =sl[j]?:=by
 obtain⟨aT,qB,iq,aN⟩:=IL ak
 have hT:=(List.getElem?_eq_some_iff.1 aU).1
 have hE:o≠some v:=fun e=>by subst e;exact sE aU AB rfl
 have tg:hJ≠some v:=fun e=>by subst e;exact sE aU iX rfl
 have Dt:iC≠some v:=fun e=>by
  subst e
  have:=hI.2.2
  rw[aU]at this
  simp only[Option.some.injEq,Slot.own.injEq]at this
  have h2:=congrArg (fun z=>z[0]?) this.1
  have bS:=hI.1
  cases lY:c.1.map (bl true)with
  |nil=>rw[lY]at bS;simp at bS
  |cons g gs=>
   rw[lY]at h2
   simp[bx,LT.lo,ab.lo]at h2
 have Tb:∀id,iC=some id→o≠some id:=fun id h1 h2=>by
  subst h1 h2
  obtain⟨k,eU,cy,dd,dF,gy⟩:=AB
  have:=hI.2.2
  rw[dF]at this
  simp only[Option.some.injEq,Slot.own.injEq]at this
  exact absurd this.2 (by decide)
 have afA:∀id,iC=some id→hJ≠some id:=fun id h1 h2=>by
  subst h1 h2
  obtain⟨k,eU,cy,dd,dF,gy⟩:=iX
  have:=hI.2.2
  rw[dF]at this
  simp only[Option.some.injEq,Slot.own.injEq]at this
  exact absurd this.2 (by decide)
 have fR:∀x∈c.2.1,x.2.2.2.length≤2^30:=fun x hx=>Nat.le_trans (ao.Ux x hx) (by omega)
 have akQ:=ao.AG
 have Tc:∀{aC:List Slot},(∀j,j≠v→o≠some j→j<sl.length→aC[j]? =sl[j]?)→Acc aC bT c.1 F iC:=fun eg=>Ji (hI.frame fun id aT=>eg id (fun e=>Dt (by rw[aT,e])) (Tb id aT) (by subst aT;exact hI.lt))
 have L3:∀{aC:List Slot},(∀j,j≠v→o≠some j→j<sl.length→aC[j]? =sl[j]?)→c_ aC (c.2.2.1.map (dY true)) R hJ:=fun eg=>iX.frame fun id aT=>eg id (fun e=>tg (by rw[aT,e])) (Ep id aT) (by subst aT;exact iX.lt)
 have Dp:∀{aC:List Slot},(∀j,j≠v→o≠some j→j<sl.length→aC[j]? =sl[j]?)→∀j,j<n0→aC[j]? =sl[j]?:=fun eg j aL=>eg j (by omega) (fun e=>by have:=Es j e;omega) (by omega)
 rcases aN with⟨k,h2,h3,aI,ba,bp⟩|⟨k,h2,h3,aI⟩|⟨k,h2,h3,aI,ba⟩|⟨k,h2,h3,aI⟩
 ·obtain⟨f1,f2,f3,f4,f5,f6,f7,f8⟩:=vz bp
  have oq:En (ae false [.str] (b_ s).2.2.2.2) (b_ s).2.2.2.2:=En.row
  obtain⟨aC,dq,cr,e4,qA,bw,bJ,ch,bQ,di,b4⟩:=BY (dM s) aU hI (by rw[List.map_map];exact ao.fs) (fun g aQ=>by obtain⟨f,ak,rfl⟩:=List.mem_map.1 aQ;exact ao.dE f ak) (by have:=ao.fl;rw[List.length_map];omega) AB (dQ.rows _) ao.ls ao.HB fR (by omega) h3 f2 oq (by omega)
  have a6:fW c s=(j4 (b_ s) c.1,(gf c.2.1 s.2.2.2.1 s.2.2.2.2.1 s.2.2.2.2.2.1 [((b_ s).1,s.2.2.2.2.1)]).1,c.2.2.1,pZ (c.1.any fun g=>decide (g.1=(b_ s).1)) c.1.length (gf c.2.1 s.2.2.2.1 s.2.2.2.2.1 s.2.2.2.2.2.1 [((b_ s).1,s.2.2.2.2.1)]).2):=by unfold fW;rw[if_pos k]
  rw[a6]
  have LY:(c.1.map (bl true)).any (fun g=>decide (g.1=(b_ s).1))=c.1.any fun g=>decide (g.1=(b_ s).1):=by rw[List.any_map];rfl
  have hlen:(c.1.map (bl true)).length=c.1.length:=List.length_map _
  rw[LY,hlen]at bJ bQ
  refine⟨aC,dq,cr,R,e4,fun{X} kk=>?_,bJ,ch,fun he=>?_,Dp b4⟩
  ·rw[show 81+s.2.1.toNat=82 by rw[k];rfl]
   have:=FE (T:=mR.tb T) (f:=82) (g:=jP) rfl v (dM s) kk (ag sl)
   rw[bw]at this
   exact this
  ·obtain⟨a1,a2,a3⟩:=bQ he
   refine⟨a3,⟨qA, ?_,a2⟩,_,hJ,L3 b4,tg,dQ.rows _⟩
   have:=QW (f:=b_ s) (fs:=c.1)
   exact Ji (by rw[this];exact a1)
 ·obtain⟨aC,cr,e4,bw,bJ,ch,bQ,di,b4⟩:=Zz (dM s) aU AB (dQ.rows _) ao.ls ao.HB fR (by omega) h3
  have a6:fW c s=(c.1,(gf c.2.1 s.2.2.2.1 0 s.2.2.2.2.2.1 []).1,c.2.2.1,(gf c.2.1 s.2.2.2.1 0 s.2.2.2.2.2.1 []).2):=by unfold fW;rw[if_neg (by omega),if_pos k]
  rw[a6]
  refine⟨aC,F,cr,R,e4,fun{X} kk=>?_,bJ,ch,fun he=>⟨bQ,⟨iC,Tc b4,Dt⟩,_,hJ,L3 b4,tg,dQ.rows _⟩,Dp b4⟩
  rw[show 81+s.2.1.toNat=83 by rw[k];rfl]
  have:=FE (T:=mR.tb T) (f:=83) (g:=vm) rfl v (dM s) kk (ag sl)
  rw[bw]at this
  exact this
 ·obtain⟨aC,cr,e4,bw,bJ,ch,bQ,di,b4⟩:=aaj (dM s) aU AB (dQ.rows _) ao.ls ao.HB fR (by omega) h3
  have a6:fW c s=(c.1,(rp c.2.1 s.2.2.1 s.2.2.2.2.2.1 s.2.2.2.1).1,c.2.2.1,(rp c.2.1 s.2.2.1 s.2.2.2.2.2.1 s.2.2.2.1).2):=by unfold fW;rw[if_neg (by omega),if_neg (by omega),if_pos k]
  rw[a6]
  refine⟨aC,F,cr,R,e4,fun{X} kk=>?_,bJ,ch,fun he=>⟨bQ,⟨iC,Tc b4,Dt⟩,_,hJ,L3 b4,tg,dQ.rows _⟩,Dp b4⟩
  rw[show 81+s.2.1.toNat=84 by rw[k];rfl]
  have:=FE (T:=mR.tb T) (f:=84) (g:=vn) rfl v (dM s) kk (ag sl)
  rw[bw]at this
  exact this
 ·have ga:=ao.U0
  obtain⟨aC,cr,e4,en,tf,tF,bw,bJ,ch,bQ,di,b4,fp,oz,xF⟩:=Yw (dM s) aU AB (dQ.rows _) ao.ls ao.HB fR (by omega) iX (dQ.rows _) Ep (by omega)
  have a6:fW c s=(c.1,(ed c.2.1 s.2.2.1 s.2.2.2.2.2.1 s.1).1,c.2.2.1++[(ed c.2.1 s.2.2.1 s.2.2.2.2.2.1 s.1).2.1],(ed c.2.1 s.2.2.1 s.2.2.2.2.2.1 s.1).2.2):=by unfold fW;rw[if_neg (by omega),if_neg (by omega),if_neg (by omega)]
  rw[a6]
  refine⟨aC,F,cr,en,e4,fun{X} kk=>?_,bJ,ch,fun he=>⟨bQ,⟨iC,Ji (hI.frame fun id aT=>xF id (fun e=>Dt (by rw[aT,e])) (Tb id aT) (afA id aT) (by subst aT;exact hI.lt)),Dt⟩,tf,tF,di,b4,fp he⟩,fun j aL=>xF j (by omega) (fun e=>by have:=Es j e;omega) (fun e=>by have:=afz j e;omega) (by omega)⟩
  rw[show 81+s.2.1.toNat=85 by rw[k];rfl]
  have:=FE (T:=mR.tb T) (f:=85) (g:=vh) rfl v (dM s) kk (ag sl)
  rw[bw]at this
  exact this
abbrev fF:Slot:=bI ⟨.nil,0,0,false⟩ ⟨.nil,0,0,false⟩ ⟨.nil,0,0,false⟩ 0
abbrev CR:List V:=[.nilFunc,.func 82 [],.func 83 [],.func 84 [],.func 85 []]
theorem Jj{h:H}{e:Int}:av false h (.many [.agg zO,.leaf (.int .i64)]) (an.un (.many [.agg zP,.leaf (.int .i64)]) ((⟨.nil,0,0,false⟩,⟨.nil,0,0,false⟩,⟨.nil,0,0,false⟩,0),e))=some (jD,e):=rfl
theorem QX(c:e3)(s:dK)(ao:HA c)(bk:lx (b_ s)):uv c s=some (gC c s):=by
 have acT:=Yz s bk
 obtain⟨fs,ls,rs,d⟩:=c
 unfold uv mR
 simp only[hj,b9,bR,List.nil_append,List.length_nil,List.length_cons,List.length_append,Nat.zero_add,List.cons_append,Nat.reduceAdd]
 simp only[show Slot.own [V.int .i64 s.1,V.int .i64 s.2.1,V.int .i64 s.2.2.1,V.int .i64 s.2.2.2.1,V.int .i64 s.2.2.2.2.1,V.int .i64 s.2.2.2.2.2.1,V.int .i64 s.2.2.2.2.2.2.1,V.int .i64 s.2.2.2.2.2.2.2.1,V.int .i64 s.2.2.2.2.2.2.2.2.1,V.str s.2.2.2.2.2.2.2.2.2.1,V.slice (ae false [.str] s.2.2.2.2.2.2.2.2.2.2).a (ae false [.str] s.2.2.2.2.2.2.2.2.2.2).len (ae false [.str] s.2.2.2.2.2.2.2.2.2.2).cap (ae false [.str] s.2.2.2.2.2.2.2.2.2.2).tail] 11=ct (dM s)from rfl,show Slot.own [V.slice .nil 0 0 false,V.slice .nil 0 0 false,V.slice .nil 0 0 false,V.int .i64 0] 4=fF from rfl,
  show Slot.own [V.slice (ae false gN fs).a (ae false gN fs).len (ae false gN fs).cap (ae false gN fs).tail,V.slice (ae false bN ls).a (ae false bN ls).len (ae false bN ls).cap (ae false bN ls).tail,V.slice (ae false bN rs).a (ae false bN rs).len (ae false bN rs).cap (ae false bN rs).tail,V.int .i64 d] 4=bI (ae false bT fs) (ae false aX ls) (ae false aX rs) d from rfl]
 generalize bh:[bI (ae false bT fs) (ae false aX ls) (ae false aX rs) d,ct (dM s),fF]=EP
 have s0:EP[0]? =some (bI (ae false bT fs) (ae false aX ls) (ae false aX rs) d):=by rw[←bh];rfl
 have s1:EP[1]? =some (ct (dM s)):=by rw[←bh];rfl
 have s2:EP[2]? =some fF:=by rw[←bh];rfl
 have u5:EP.length=3:=by rw[←bh];rfl
 have hzero:∀{T:List Slot},T[2]? =some fF→H.aY (ag T) (.aa 2 4 0) [.slice .nil 0 0 false,.slice .nil 0 0 false,.slice .nil 0 0 false,.int .i64 0]=some (ag T):=fun{T} bt=>by
  have:=wO bt ⟨.nil,0,0,false⟩ ⟨.nil,0,0,false⟩ ⟨.nil,0,0,false⟩ 0
  simp only at this
  rw[this,oL bt]
 rw[FZ s1,Option.bind_some]
 have dH:bB true (ag EP) [.str] (ae false [.str] (b_ s).2.2.2.2)=some (b_ s).2.2.2.2:=hL rfl
 simp only
 rw[dH,Option.bind_some,acT,Option.bind_some]
 unfold gC
 cases Hp:ru s with
 |false=>
  rw[if_neg (by decide)]
  simp only[Bool.not_false,cond_true]
  rw[hzero s2,Option.bind_some,iH s2,Option.bind_some,Option.bind_some]
  exact Jj
 |true=>
  rw[if_pos rfl]
  simp only[Bool.not_true,cond_false]
  obtain⟨cy,dd,dF,gy,ki,jM⟩:=sF s1
  rw[cy,Option.bind_some,acN s0,Option.bind_some]
  by_cases GZ:s.1≤d
  ·rw[if_pos GZ]
   simp only
   rw[decide_eq_true GZ,cond_true,hzero s2,Option.bind_some,iH s2,Option.bind_some,Option.bind_some]
   exact Jj
  ·rw[if_neg GZ]
   simp only
   rw[decide_eq_false GZ,cond_false]
   have hw:H.aY (ag [bI (ae false bT fs) (ae false aX ls) (ae false aX rs) d,ct (dM s),fF,.own [.nilFunc,.nilFunc,.nilFunc,.nilFunc,.nilFunc] 5]) (.aa 3 5 0) CR=some (ag [bI (ae false bT fs) (ae false aX ls) (ae false aX rs) d,ct (dM s),fF,.own CR 5]):=by
    rw[eS (g:=5) (cs:=[.nilFunc,.nilFunc,.nilFunc,.nilFunc,.nilFunc]) (e:=5) rfl rfl (by simp)]
    rfl
   rw[hw,Option.bind_some]
   generalize qy:[bI (ae false bT fs) (ae false aX ls) (ae false aX rs) d,ct (dM s),fF,.own CR 5]=iZ
   have t0:iZ[0]? =some (bI (ae false bT fs) (ae false aX ls) (ae false aX rs) d):=by rw[←qy];rfl
   have t1:iZ[1]? =some (ct (dM s)):=by rw[←qy];rfl
   have t2:iZ[2]? =some fF:=by rw[←qy];rfl
   have t3:iZ[3]? =some (.own CR 5):=by rw[←qy];rfl
   have gZ:iZ.length=4:=by rw[←qy];rfl
   rw[iH t0,Option.bind_some]
   have ME:=ao.fl
   have ha:=ao.AG
   have ain:=ao.U0
   simp only at ME ha ain
   obtain⟨xI,v,F,L,R,iC,o,hJ,nr,mc,xJ,H2,H3,ajK,alj,ajL,ajM,akR,HC⟩:=aak (sl:=iZ) (fs:=fs) (ls:=ls) (rs:=rs) (d:=d) (by omega) (fun f ak=>by have:=ao.ail f ak;omega) (by omega) ao.Ux (by omega) ao.aim
   simp only
   rw[nr,Option.bind_some]
   have acU:4≤xI.length:=by
    have h3:=HC 3 (by omega)
    rw[t3]at h3
    have:=(List.getElem?_eq_some_iff.1 h3).1
    omega
   have gi:xI[1]? =some (ct (dM s)):=by rw[HC 1 (by omega)];exact t1
   have EN:xI[3]? =some (.own CR 5):=by rw[HC 3 (by omega)];exact t3
   simp only[gk]
   have ajN:ah (.leaf (.int .i64)) (ag xI) (.aa 1 11 1)=some s.2.1:=by rw[e5 (g:=11) gi rfl];rfl
   have aj1:1≤s.2.1∧s.2.1≤4:=by
    obtain⟨_,_,_,h⟩:=IL Hp
    rcases h with h|h|h|h<;>omega
   rw[ajN,Option.bind_some,aS (show V.bm (.aa 3 5 0)=true∧0≤s.2.1∧s.2.1<((5:Nat):Int)from⟨rfl,by omega,by omega⟩)]
   have ajO:ah (.leaf .dyn) (ag xI) (.aa 3 5 (s.2.1.toNat*1))=some (.func (81+s.2.1.toNat) []):=by
    rw[e5 (g:=5) EN rfl]
    have:s.2.1.toNat=1∨s.2.1.toNat=2∨s.2.1.toNat=3∨s.2.1.toNat=4:=by omega
    rcases this with h|h|h|h<;>rw[h]<;>rfl
   rw[ajO,Option.bind_some,FZ gi,Option.bind_some]
   obtain⟨iD,dq,cr,en,e4,bw,bJ,ch,bQ,di⟩:=aa0 (T:=Table.nil) (n0:=4) ao Hp mc xJ H2 H3 ajK (by omega) (fun id h=>by have:=ajL id h;omega) (fun id h=>by have:=ajM id h;omega) acU
   simp only
   rw[bw]
   have cS:V.cS (.aa v 5 0)=true:=rfl
   have bm:V.bm (.aa v 5 0)=true:=rfl
   have ajP:an.pack (.many []) (.tuple [])=some ():=rfl
   simp only[kv,Nat.zero_add]
   rw[ajP,Option.bind_some,aS cS,aS bm,aS bm,wj bJ,Option.bind_some]
   generalize a6:fW (fs,ls,rs,d) s=st at bJ bQ⊢
   obtain⟨HD,AD,Nr,e⟩:=st
   simp only at bJ bQ⊢
   have w2:iD[2]? =some fF:=by rw[di 2 (by omega),HC 2 (by omega)];exact t2
   have w1:iD[1]? =some (ct (dM s)):=by rw[di 1 (by omega)];exact gi
   have js:v≠2:=by omega
   have iV:v≠1:=by omega
   rw[ch.len]
   have tail:∀(dn:Int) (jO:List Slot),jO=iD.set v (cu dq cr en d dn)→(dn=0→e=0)→dn=rB AD.length e→
     (((aJ (V.cS (.aa v 5 0)=true) (aJ (V.bm (.aa v 5 0)=true) ((ah (.leaf (.int .i64)) (ag jO) (.aa v 5 4)).bind fun rL=>
      (bif (!(decide (rL=0)))then(aJ (V.cS (.aa v 5 0)=true) (aJ (V.bm (.aa v 5 0)=true) ((ah (.leaf (.int .i64)) (ag jO) (.aa v 5 4)).bind fun lr=>
      ((H.aY (ag jO) (.aa 2 4 0) [.slice .nil 0 0 false,.slice .nil 0 0 false,.slice .nil 0 0 false,.int .i64 0]).bind fun c2=>
      (aJ (fg (.aa v 5 4) (.aa 2 4 0)=true) ((ah (.agg [.slice,.slice,.slice,.int .i64]) c2 (.aa 2 4 0)).bind fun o9=>
      (some (((o9.1,o9.2.1,o9.2.2.1,o9.2.2.2),lr),c2))))))))else ((ah (.leaf (.int .i64)) (ag jO) (.aa 1 11 0)).bind fun jJ=>
      (aJ (V.cS (.aa v 5 0)=true) (aJ (V.bm (.aa v 5 0)=true) (aJ (V.bm (.aa v 5 0)=true) ((H.aY (ag jO) (.aa v 5 3) [.int .i64 jJ]).bind fun lv=>
      (aJ (V.cS (.aa v 5 0)=true) (aJ (V.bm (.aa v 5 0)=true) ((ah (.agg [.slice,.slice,.slice,.int .i64]) lv (.aa v 5 0)).bind fun iN=>
      ((H.aY lv (.aa 2 4 0) [.slice iN.1.a iN.1.len iN.1.cap iN.1.tail,.slice iN.2.1.a iN.2.1.len iN.2.1.cap iN.2.1.tail,.slice iN.2.2.1.a iN.2.2.1.len iN.2.2.1.cap iN.2.2.1.tail,.int .i64 iN.2.2.2]).bind fun qu=>
      ((ah (.agg [.slice,.slice,.slice,.int .i64]) qu (.aa 2 4 0)).bind fun HE=>
      (some (((HE.1,HE.2.1,HE.2.2.1,HE.2.2.2),(0:Int)),qu)))))))))))))))):Option (((au×au×au×Int)×Int)×H)).bind fun p=>av false p.2 (.many [.agg zO,.leaf (.int .i64)]) (an.un (.many [.agg zP,.leaf (.int .i64)]) p.1))=
      some (if rB AD.length e=0 then((HD,AD,Nr,s.1),0)else (jD,rB AD.length e)):=fun dn jO HF w5 ld=>by
    have ow:jO[v]? =some (cu dq cr en d dn):=by rw[HF];exact n2 bJ _
    have hZ:jO[2]? =some fF:=by rw[HF,List.getElem?_set_ne js];exact w2
    have cO:jO[1]? =some (ct (dM s)):=by rw[HF,List.getElem?_set_ne iV];exact w1
    rw[aS cS,aS bm,zC ow,Option.bind_some]
    by_cases he:dn=0
    ·rw[decide_eq_true he,if_pos (by rw[←ld];exact he)]
     simp only[Bool.not_true,cond_false]
     obtain⟨bu,⟨qA,bs,b6⟩,tf,tF,cd,cp,eH⟩:=bQ (w5 he)
     rw[(sF cO).1,Option.bind_some,aS cS,aS bm,aS bm,acG ow,Option.bind_some,aS cS,aS bm,acE (n2 ow _),Option.bind_some]
     have gW:(jO.set v (cu dq cr en s.1 dn))[2]? =some fF:=by rw[List.getElem?_set_ne js];exact hZ
     have ajQ:=wO gW dq cr en s.1
     simp only
     rw[ajQ,Option.bind_some]
     have jK:((jO.set v (cu dq cr en s.1 dn)).set 2 (bI dq cr en s.1))[2]? =some (bI dq cr en s.1):=List.getElem?_set_self (List.getElem?_eq_some_iff.1 gW).1
     rw[iH jK,Option.bind_some,Option.bind_some]
     have aio:jO.set v (cu dq cr en s.1 dn)=iD.set v (cu dq cr en s.1 dn):=by rw[HF,List.set_set]
     rw[aio]at gW⊢
     have U1:bB false (ag ((iD.set v (cu dq cr en s.1 dn)).set 2 (bI dq cr en s.1))) bT dq=some HD:=by
      have a1:Acc (iD.set v (cu dq cr en s.1 dn)) bT HD dq qA:=bs.frame fun id aT=>List.getElem?_set_ne (fun h=>b6 (by rw[aT,h]))
      refine (a1.frame (aC:=(iD.set v (cu dq cr en s.1 dn)).set 2 (bI dq cr en s.1)) fun id aT=>?_).read rfl
      have bS:id≠2:=fun h=>by
       subst aT h
       have:=a1.2.2
       rw[gW]at this
       simp at this
      exact List.getElem?_set_ne (Ne.symm bS)
     have U2:bB false (ag ((iD.set v (cu dq cr en s.1 dn)).set 2 (bI dq cr en s.1))) aX cr=some AD:=(ch.set (z:=cu dq cr en s.1 dn)).over bu gW
     have U3:bB false (ag ((iD.set v (cu dq cr en s.1 dn)).set 2 (bI dq cr en s.1))) aX en=some Nr:=by
      have a1:c_ (iD.set v (cu dq cr en s.1 dn)) tf en tF:=cd.frame fun id aT=>List.getElem?_set_ne (fun h=>cp (by rw[aT,h]))
      exact a1.over eH gW
     simp only[bB]at U1 U2 U3
     simp only[av,az,aB,ax,an.un,aj.un,ai.un,LT.un]
     have ajR:cE false (ag ((iD.set v (cu dq cr en s.1 dn)).set 2 (bI dq cr en s.1))) (.row gN) (ab.un .slice dq)=some HD:=U1
     have aip:cE false (ag ((iD.set v (cu dq cr en s.1 dn)).set 2 (bI dq cr en s.1))) (.row bN) (ab.un .slice cr)=some AD:=U2
     have ajS:cE false (ag ((iD.set v (cu dq cr en s.1 dn)).set 2 (bI dq cr en s.1))) (.row bN) (ab.un .slice en)=some Nr:=U3
     rw[ajR,Option.bind_some,aip,Option.bind_some,ajS,Option.bind_some]
     rfl
    ·rw[decide_eq_false he,if_neg (by rw[←ld];exact he)]
     simp only[Bool.not_false,cond_true]
     rw[aS cS,aS bm,Option.bind_some,hzero hZ,Option.bind_some,aS (show fg (.aa v 5 4) (.aa 2 4 0)=true from by show(!(Nat.beq v 2))=true;rw[c8 js];rfl),iH hZ,Option.bind_some,Option.bind_some,←ld]
     exact Jj
   by_cases c2:32<e4.length
   ·rw[decide_eq_true (show(32:Int)<(e4.length:Int) by omega),cond_true,yL bJ,Option.bind_some,Option.bind_some]
    refine (tail (m8 e 8) _ rfl ?_ ?_).trans ?_
    ·unfold m8;split<;>omega
    ·unfold m8 rB
     by_cases he:e=0
     ·rw[if_pos he,if_pos he,if_pos (by have:=(bQ he).1.len;omega)]
     ·rw[if_neg he,if_neg he]
    ·split<;>rfl
   ·rw[decide_eq_false (show ¬(32:Int)<(e4.length:Int) by omega),cond_false,Option.bind_some]
    refine (tail e _ (oL bJ).symm (fun h=>h) ?_).trans ?_
    ·unfold rB
     by_cases he:e=0
     ·rw[if_pos he,if_neg (by have:=(bQ he).1.len;omega)];exact he
     ·rw[if_neg he]
    ·split<;>rfl

theorem ZA{xs:List (Int×Int)}(h:g3 xs=0)(aO:b0 xs=0):xs=[]:=by
 obtain⟨aw,aH,aW,bq⟩:=mo h
 cases xs with
 |nil=>rfl
 |cons x xs=>
  have h1:=lI.1 (aW x (by simp))
  have h2:=vB xs fun y aK=>by have:=lI.1 (aW y (by simp[aK]));omega
  unfold b0 at aO h2
  simp only[List.map_cons,List.sum_cons]at aO
  omega
theorem WD{x:bK}{w n:Int}(h:(ky x w n).2.2=0):m0 [x]∧ck x.1=true∧ck n=true∧∃D oA mj,ky x w n=((n,D,w,oA),(x.1,x.2.1-D,x.2.2.1-w,mj),0)∧y1 (x.2.1,x.2.2.1) w=((D,w),(x.2.1-D,x.2.2.1-w),0)∧
  (0≤w∧w≤x.2.2.1)∧(0≤D∧D≤x.2.1)∧(w=0→D=0)∧(w=x.2.2.1→D=x.2.1)∧g3 oA=0∧g3 mj=0∧b0 oA=D∧b0 mj=x.2.1-D∧c4 oA mj=x.2.2.2:=by
 unfold ky at*
 by_cases he:jV [x]=0
 ·rw[if_pos he]at*
  by_cases h1:ck n=true∧0≤w
  ·rw[if_pos h1]at*
   by_cases h2:x.2.2.1<w
   ·rw[if_pos h2]at h;cases h
   ·rw[if_neg h2]at*
    obtain⟨aw,aH,aW,bq,bU,ek,lD⟩:=Pw he h1.2 (show w≤x.2.2.1 by omega)
    have bk:(oR x.2.2.2 (x.2.1*w/x.2.2.1)).2.2=0:=by
     unfold oR
     rw[if_pos aw,if_neg (by omega),if_neg (by omega)]
     split<;>rfl
    obtain⟨t1,t2,t3,ps,t4,t5,t6,t7,t8⟩:=Zs bk
    obtain⟨b8,b2,mi,AP⟩:=mo aw
    have o1:=BJ (Fa t5)
    have aL:=Pt t5 (A5 t1) fun y aK=>by have:=lI.1 (mi y aK);omega
    have aiq:=Qb (g6 x.2.2.2 ps) (g6 x.2.2.2 (pY x.2.2.2 ps))
    rw[aL,BJ t5,t6]at aiq
    refine⟨FB he,lD,h1.1,x.2.1*w/x.2.2.1,g6 x.2.2.2 ps,g6 x.2.2.2 (pY x.2.2.2 ps),by rw[t7], ?_,⟨h1.2,by omega⟩,⟨bq,bU⟩,fun hw=>?_,fun hw=>?_,OX t1 t5,OX t1 (Fa t5),by rw[BJ t5,t6],by omega,aL⟩
    ·unfold y1
     rw[if_pos aH,if_neg (by omega),if_neg (show ¬x.2.2.1<w from h2)]
    ·rw[hw,Int.mul_zero,Int.zero_ediv]
    ·rw[hw,Int.mul_ediv_cancel _ (by omega)]
  ·rw[if_neg h1]at h;cases h
 ·rw[if_neg he]at h;cases h

def Good (xs:List (Int×Int)):Prop:=ku xs∧∀x∈xs,ck x.1=true∧0<x.2
theorem ZB:Good []:=⟨List.Pairwise.nil,fun x h=>by cases h⟩
theorem sb{xs:List (Int×Int)}(h:g3 xs=0):Good xs:=by
 obtain⟨aw,aH,aW,bq⟩:=mo h
 exact ⟨A5 h,fun x hx=>by have:=lI.1 (aW x hx);exact ⟨uf.2 (by omega),by omega⟩⟩
theorem YA(xs ys:List (Int×Int)):(∀x∈xs,ck x.1=true∧0<x.2)→(∀x∈ys,ck x.1=true∧0<x.2)→∀x∈c4 xs ys,ck x.1=true∧0<x.2:=by
 refine q4 (P:=fun xs ys=>(∀x∈xs,ck x.1=true∧0<x.2)→(∀x∈ys,ck x.1=true∧0<x.2)→∀x∈c4 xs ys,ck x.1=true∧0<x.2) (fun ys h1 h2 p aa=>by rw[oK]at aa;exact h2 p aa) (fun xs h1 h2 p aa=>by rw[pJ]at aa;exact h1 p aa) (fun x xs y ys h ih h1 h2 p aa=>?_) (fun x xs y ys h ih h1 h2 p aa=>?_) (fun x xs y ys h ih h1 h2 p aa=>?_) _ xs ys (Nat.le_refl _)
 ·rw[sg h]at aa
  rcases List.mem_cons.1 aa with rfl |aa
  ·exact h1 p (by simp)
  ·exact ih (fun z bH=>h1 z (by simp[bH])) h2 p aa
 ·rw[sh h]at aa
  rcases List.mem_cons.1 aa with rfl |aa
  ·exact h2 p (by simp)
  ·exact ih h1 (fun z bH=>h2 z (by simp[bH])) p aa
 ·rw[si h]at aa
  rcases List.mem_cons.1 aa with rfl |aa
  ·have aw:=h1 x (by simp)
   have aH:=h2 y (by simp)
   exact ⟨aw.1,by simp only;omega⟩
  ·exact ih (fun z bH=>h1 z (by simp[bH])) (fun z bH=>h2 z (by simp[bH])) p aa
theorem YB{xs ys:List (Int×Int)}(h1:Good xs)(h2:Good ys):Good (c4 xs ys):=⟨Iw _ _ h1.1 h2.1,YA _ _ h1.2 h2.2⟩
theorem ZC{l:List bK}(h:m0 l):Good (ff l):=by
 have key:∀(l:List bK) (acc:List (Int×Int)),(∀x∈l,g3 x.2.2.2=0)→Good acc→Good (l.foldl (fun acc x=>c4 acc x.2.2.2) acc):=fun l=>by
  induction l with
  |nil=>intro acc _ h;exact h
  |cons x l ih=>intro acc h1 h2;exact ih _ (fun y aK=>h1 y (by simp[aK])) (YB h2 (sb (h1 x (by simp))))
 exact key l [] (fun x hx=>(h.all x hx).2.2.1) ZB
def ew(f:Int)(l:List bK):Int:=(l.map fun x=>dS f x.2.2.2).sum
theorem YC(f:Int)(l:List bK):dS f (ff l)=ew f l:=by
 have key:∀(l:List bK) (acc:List (Int×Int)),dS f (l.foldl (fun acc x=>c4 acc x.2.2.2) acc)=dS f acc+ew f l:=fun l=>by
  induction l with
  |nil=>intro acc;simp[ew]
  |cons x l ih=>
   intro acc
   rw[List.foldl_cons,ih,Bx]
   simp only[ew,List.map_cons,List.sum_cons]
   omega
 have:=key l []
 rw[q7]at this
 unfold ff
 omega
theorem Ir(f:Int)(a b:List bK):ew f (a++b)=ew f a+ew f b:=by simp[ew]
theorem m0.drop{l:List bK}(h:m0 l)(i:Nat):m0 (l.drop i):=⟨by have:=h.len;rw[List.length_drop];omega,fun x hx=>h.all x (List.mem_of_mem_drop hx)⟩
theorem V9{l:List bK}(aq:l.length≤32)(h:∀i,i<l.length→k6 l i=0):jV l=0:=by
 unfold jV
 rw[if_neg (by omega)]
 rcases q3 (k6 l) l.length with⟨_,e⟩|⟨m,hm,bS,_⟩
 ·exact e
 ·exact absurd (h m hm) bS
theorem YD{l:List bK}{n:Int}(h:(n1 l n).2=0):jV l=0∧m0 l∧(ff l).length≤32∧fL (cW (eZ l))=true∧n1 l n=((n,(cW (eZ l)).1,(cW (eZ l)).2,ff l),0):=by
 unfold n1 at*
 by_cases he:jV l=0
 ·rw[if_pos he]at*
  by_cases aT:ck n=true
  ·rw[if_pos aT]at*
   by_cases c2:32<(ff l).length
   ·rw[if_pos c2]at h;cases h
   ·rw[if_neg c2]at*
    by_cases aa:fL (cW (eZ l))=true
    ·rw[if_pos aa];exact ⟨he,FB he,by omega,aa,rfl⟩
    ·rw[if_neg aa]at h;cases h
  ·rw[if_neg aT]at h;cases h
 ·rw[if_neg he]at h;cases h
theorem aal{l:List bK}{n:Int}(af:m0 l)(c2:(ff l).length≤32)(aa:fL (cW (eZ l))=true)(aO:0<(cW (eZ l)).2):oneOf ((n,(cW (eZ l)).1,(cW (eZ l)).2,ff l):bK)=0:=by
 have ak:=Iq af l.length (Nat.le_refl _)
 rw[List.take_length]at ak
 obtain⟨f1,f2,f3,f4⟩:=ak
 have aQ:=ZC af
 have aE:=mq.1 aa
 refine OY aa (by simp only;omega) (EX c2 (fun x hx=>?_) f1 (by simp only;omega)) f4
 have h1:=uf.1 (aQ.2 x hx).1
 have h2:=(aQ.2 x hx).2
 have h3:=Fm (xs:=eY (ff l)) (x:=x.2) (fun y aK=>by
  obtain⟨z,bH,rfl⟩:=List.mem_map.1 aK
  exact (f3 z bH).1) (List.mem_map.2 ⟨x,hx,rfl⟩)
 have aI:(eY (ff l)).sum=b0 (ff l):=rfl
 exact lI.2 (by omega)
theorem Acc.afB{sl:List Slot}{l:List bK}{s:au}{o:Option Nat}{i:Nat}{x:bK}(h:Acc sl aX l s o)(hx:l[i]? =some x):ah (.agg [.int .i64,.int .i64,.int .i64,.slice]) (ag sl) (V.add s.a (i*4))=some (dY true x):=by
 cases o with
 |none=>obtain⟨rfl,_⟩:=h;cases hx
 |some id=>
  obtain⟨h1,rfl,h3⟩:=h
  simp only[fh,V.add,Nat.zero_add]
  rw[Jt (ls:=aX) (xs:=l) (w:=4) (ms:=[.int .i64,.int .i64,.int .i64,.slice]) h3 rfl rfl rfl (by omega),hx]
  rfl
theorem Acc.ef{sl:List Slot}{l:List bK}{s:au}{o:Option Nat}{i:Nat}{x:bK}(h:Acc sl aX l s o)(hi:i<l.length):∃aC,H.aY (ag sl) (V.add s.a (i*4)) [.int .i64 x.1,.int .i64 x.2.1,.int .i64 x.2.2.1,.slice (ae true aD x.2.2.2).a x.2.2.2.length x.2.2.2.length true]=some (ag aC)∧Acc aC aX (l.set i x) s o∧aC.length=sl.length∧∀j,o≠some j→aC[j]? =sl[j]?:=by
 cases o with
 |none=>obtain⟨rfl,_⟩:=h;simp at hi
 |some id=>
  obtain⟨h1,rfl,h3⟩:=h
  have aT:=(List.getElem?_eq_some_iff.1 h3).1
  refine⟨sl.set id (.own (bx aX (l.set i x)) 4), ?_,⟨by simp;omega, ?_, ?_⟩,by simp,fun j aL=>?_⟩
  ·simp only[fh,V.add,Nat.zero_add]
   exact yA (ls:=aX) (xs:=l) (n:=l.length*aX.length) (i:=i) (w:=4) (x:=x) (e:=4) (vs:=[.int .i64 x.1,.int .i64 x.2.1,.int .i64 x.2.2.1,.slice (ae true aD x.2.2.2).a x.2.2.2.length x.2.2.2.length true]) h3 rfl rfl hi rfl
  ·simp only[fh,List.length_set]
  ·rw[List.getElem?_set_self aT]
   rfl
  ·rw[List.getElem?_set_ne (fun e=>aL (by rw[e]))]
def lW(x:bK):Prop:=fL (x.2.1,x.2.2.1)=true∧x.2.2.1≠0∧g3 x.2.2.2=0∧b0 x.2.2.2=x.2.1
structure rk(xs:List bK):Prop where
 sort:p0 xs
 all:∀x∈xs,ck x.1=true∧lW x
theorem vE{ys:List (Int×Int)}(h:g3 ys=0):ys.length≤32:=(mo h).1
theorem nC(f:Int)(x:bK)(xs:List bK):ew f (x::xs)=dS f x.2.2.2+ew f xs:=by simp[ew]
theorem BV{z:bK}(f:Int):∀{xs:List bK},p0 xs→(∀x∈xs,x.1=z.1→z.2.2.1≠0→ew f (e7 z xs)+dS f x.2.2.2=ew f xs+dS f z.2.2.2)∧(∀x∈xs,x.1=z.1→z.2.2.1=0→ew f (e7 z xs)+dS f x.2.2.2=ew f xs)∧((∀x∈xs,x.1≠z.1)→0<z.2.2.1→ew f (e7 z xs)=ew f xs+dS f z.2.2.2)
 |[],_=>by
  refine⟨(fun x hx=>by cases hx),(fun x hx=>by cases hx),fun _ h=>?_⟩
  simp only[e7]
  rw[if_pos h]
  simp[ew]
 |y::ys,ad=>by
  have g9:=List.pairwise_cons.1 ad
  obtain⟨i1,i2,i3⟩:=BV f (z:=z) (xs:=ys) g9.2
  refine⟨fun x hx he hm=>?_,fun x hx he hm=>?_,fun aM hm=>?_⟩
  ·simp only[e7]
   rcases List.mem_cons.1 hx with rfl |hx
   ·rw[if_neg (by omega),if_pos he,if_neg hm,nC,nC];omega
   ·have bn:=g9.1 x hx
    rw[if_pos (by omega),nC,nC]
    have:=i1 x hx he hm
    omega
  ·simp only[e7]
   rcases List.mem_cons.1 hx with rfl |hx
   ·rw[if_neg (by omega),if_pos he,if_pos hm,nC];omega
   ·have bn:=g9.1 x hx
    rw[if_pos (by omega),nC,nC]
    have:=i2 x hx he hm
    omega
  ·simp only[e7]
   have aK:=aM y (by simp)
   by_cases h1:y.1<z.1
   ·rw[if_pos h1,nC,nC,i3 (fun x hx=>aM x (by simp[hx])) hm];omega
   ·rw[if_neg h1,if_neg aK,if_pos hm,nC,nC];omega
theorem JU{z:bK}{xs:List bK}(h:rk xs)(bH:ck z.1=true)(a8:z.2.2.1=0∨lW z):rk (e7 z xs):=by
 refine⟨IK h.sort,fun x hx=>?_⟩
 by_cases aO:z.2.2.1=0
 ·
  have key:∀{xs:List bK},x∈e7 z xs→x∈xs:=fun{xs}=>by
   induction xs with
   |nil=>intro hx;simp only[e7]at hx;rw[if_neg (by omega)]at hx;exact hx
   |cons y ys ih=>
    intro hx
    simp only[e7]at hx
    split at hx
    ·rcases List.mem_cons.1 hx with rfl |hx
     ·simp
     ·simp[ih hx]
    ·split at hx
     ·simp[hx]
     ·rw[if_neg (by omega)]at hx;exact hx
  exact h.all x (key hx)
 ·rcases ug hx with rfl |hx
  ·exact ⟨bH,a8.resolve_left aO⟩
  ·exact h.all x hx
theorem Pz{xs:List bK}{n:Int}(h:(cL xs n).2≠true):∀x∈xs,x.1≠n:=by
 unfold cL at h
 cases ak:xs.find? fun y=>decide (y.1=n)with
 |none=>exact fun x hx e=>by have:=List.find?_eq_none.1 ak x hx;simp at this;exact this e
 |some x=>rw[ak]at h;exact absurd rfl h
theorem I1{xs:List bK}{to a m:Int}{y:List (Int×Int)}(h:rk xs)(nk:ck to=true)(bH:lW (to,a,m,y))(he:(gf xs to a m y).2=0):
  rk (gf xs to a m y).1∧(∀f,ew f (gf xs to a m y).1=ew f xs+dS f y)∧∀x∈(gf xs to a m y).1,∀s∈x.2.2.2,(∃fm∈xs,∃bc∈fm.2.2.2,bc.1=s.1)∨∃bc∈y,bc.1=s.1:=by
 have hm:0<m:=by
  have:=mq.1 bH.1
  have h2:m≠0:=bH.2.1
  simp only at this
  omega
 unfold gf at he⊢
 by_cases ak:(cL xs to).2=true
 ·rw[if_pos ak]at he⊢
  by_cases aU:(n1 [(1,a,m,y),(2,(cL xs to).1.2)] to).2=0
  ·rw[if_pos aU]at he⊢
   obtain⟨fo,jy⟩:=sd ak
   obtain⟨v1,v2,v3,v4,v5⟩:=YD aU
   have ji:=aal (n:=to) v2 v3 v4 (by
    have hx:=v2.all (1,a,m,y) (by simp)
    have kH:=v2.all (2,(cL xs to).1.2) (by simp)
    have cH:=mq.1 kH.1
    simp only[cW,eZ,List.map_cons,List.map_nil,List.sum_cons,List.sum_nil]at cH⊢
    omega)
   rw[v5]
   simp only
   have H4:lW (to,(cW (eZ [(1,a,m,y),(2,(cL xs to).1.2)])).1,(cW (eZ [(1,a,m,y),(2,(cL xs to).1.2)])).2,ff [(1,a,m,y),(2,(cL xs to).1.2)]):=IH ji
   refine⟨JU h nk (.inr H4),fun f=>?_,fun x hx s ad=>?_⟩
   ·have aa:=(BV f (z:=(to,(cW (eZ [(1,a,m,y),(2,(cL xs to).1.2)])).1,(cW (eZ [(1,a,m,y),(2,(cL xs to).1.2)])).2,ff [(1,a,m,y),(2,(cL xs to).1.2)])) h.sort).1 _ fo jy H4.2.1
    have bD:dS f (ff [(1,a,m,y),(2,(cL xs to).1.2)])=dS f y+dS f (cL xs to).1.2.2.2:=by
     rw[YC]
     simp[ew]
    simp only at aa
    rw[bD]at aa
    omega
   ·rcases ug hx with rfl |hx
    ·have aL:ff [(1,a,m,y),(2,(cL xs to).1.2)]=c4 (c4 [] y) (cL xs to).1.2.2.2:=rfl
     simp only at ad
     rw[aL,oK]at ad
     rcases Fo _ _ s ad with⟨q,aV,e⟩|⟨q,aV,e⟩
     ·exact .inr ⟨q,aV,e⟩
     ·exact .inl ⟨_,fo,q,aV,e⟩
    ·exact .inl ⟨x,hx,s,ad,rfl⟩
  ·rw[if_neg aU]at he
   exact absurd he aU
 ·rw[if_neg ak]at he⊢
  have aM:=Pz ak
  refine⟨JU h nk (.inr bH),fun f=>(BV f (z:=(to,a,m,y)) h.sort).2.2 aM hm,fun x hx s ad=>?_⟩
  rcases ug hx with rfl |hx
  ·exact .inr ⟨s,ad,rfl⟩
  ·exact .inl ⟨x,hx,s,ad,rfl⟩
theorem O0{xs:List bK}{n w k:Int}(h:rk xs)(hw:1≤w)(he:(ed xs n w k).2.2=0):
  rk (ed xs n w k).1∧lW (ed xs n w k).2.1∧(∀f,ew f (ed xs n w k).1+dS f (ed xs n w k).2.1.2.2.2=ew f xs)∧(∀x∈(ed xs n w k).1,∀s∈x.2.2.2,∃fm∈xs,∃bc∈fm.2.2.2,bc.1=s.1)∧∀s∈(ed xs n w k).2.1.2.2.2,∃fm∈xs,∃bc∈fm.2.2.2,bc.1=s.1:=by
 unfold ed at he⊢
 by_cases ak:(cL xs n).2=true
 ·rw[if_pos ak]at he⊢
  by_cases bF:(ky (cL xs n).1 w k).2.2=0
  ·rw[if_pos bF]at he⊢
   obtain⟨fo,jy⟩:=sd ak
   generalize hx:(cL xs n).1=x at fo jy bF⊢
   obtain⟨bw,bJ,ch,D,oA,mj,aG,e2,⟨b8,b2⟩,⟨mi,AP⟩,NO,UX,bL,a_,cY,bI,kT⟩:=WD bF
   rw[aG]
   simp only
   have H4:=bw.all x (by simp)
   have aa:=mq.1 H4.1
   simp only at aa
   have Ns:lW (k,D,w,oA):=⟨mq.2 (by simp only;omega),by simp only;omega,bL,cY⟩
   have y_:x.2.2.1-w=0∨lW (x.1,x.2.1-D,x.2.2.1-w,mj):=by
    by_cases aO:x.2.2.1-w=0
    ·exact .inl aO
    ·exact .inr ⟨mq.2 (by simp only;omega),aO,a_,bI⟩
   have Hv:∀s∈oA,∃bc∈x.2.2.2,bc.1=s.1:=fun s ad=>by
    have h1:dS s.1 oA=s.2:=yq (sb bL).1 ad
    have h2:=((sb bL).2 s ad).2
    have h3:=Bx s.1 oA mj
    rw[kT]at h3
    have aI:0≤dS s.1 mj:=by
     by_cases hh:∃t∈mj,t.1=s.1
     ·obtain⟨t,bk,e⟩:=hh
      have:=yq (sb a_).1 bk
      rw[e]at this
      have:=((sb a_).2 t bk).2
      omega
     ·rw[yk fun t bk e=>hh ⟨t,bk,e⟩];exact Int.le_refl _
    by_cases hh:∃bc∈x.2.2.2,bc.1=s.1
    ·exact hh
    ·rw[yk (xs:=x.2.2.2) fun t bk e=>hh ⟨t,bk,e⟩]at h3;omega
   have Ek:∀s∈mj,∃bc∈x.2.2.2,bc.1=s.1:=fun s ad=>by
    have h1:dS s.1 mj=s.2:=yq (sb a_).1 ad
    have h2:=((sb a_).2 s ad).2
    have h3:=Bx s.1 oA mj
    rw[kT]at h3
    have aI:0≤dS s.1 oA:=by
     by_cases hh:∃t∈oA,t.1=s.1
     ·obtain⟨t,bk,e⟩:=hh
      have:=yq (sb bL).1 bk
      rw[e]at this
      have:=((sb bL).2 t bk).2
      omega
     ·rw[yk fun t bk e=>hh ⟨t,bk,e⟩];exact Int.le_refl _
    by_cases hh:∃bc∈x.2.2.2,bc.1=s.1
    ·exact hh
    ·rw[yk (xs:=x.2.2.2) fun t bk e=>hh ⟨t,bk,e⟩]at h3;omega
   refine⟨JU h bJ y_,Ns,fun f=>?_,fun z bH s ad=>?_,fun s ad=>?_⟩
   ·have h3:=Bx f oA mj
    rw[kT]at h3
    by_cases aO:x.2.2.1-w=0
    ·have xi:=(BV f (z:=(x.1,x.2.1-D,x.2.2.1-w,mj)) h.sort).2.1 x fo rfl aO
     have:mj=[]:=ZA a_ (by have:=UX (by omega);omega)
     subst this
     rw[q7]at h3
     omega
    ·have xi:=(BV f (z:=(x.1,x.2.1-D,x.2.2.1-w,mj)) h.sort).1 x fo rfl aO
     simp only at xi
     omega
   ·rcases ug bH with rfl |bH
    ·obtain⟨bc,aw,aH⟩:=Ek s ad
     exact ⟨x,fo,bc,aw,aH⟩
    ·exact ⟨z,bH,s,ad,rfl⟩
   ·obtain⟨bc,aw,aH⟩:=Hv s ad
    exact ⟨x,fo,bc,aw,aH⟩
  ·rw[if_neg bF]at he
   exact absurd he bF
 ·rw[if_neg ak]at he
  simp at he
def filled (f:Int)(l:List dK):Int:=((l.filter fun s=>decide (s.2.1=1∧(b_ s).1=f)).map fun s=>s.2.2.2.2.1).sum
def n_(l:List dK):List Int:=(l.filter fun s=>decide (s.2.1=1)).map fun s=>(b_ s).1
theorem Fb(f:Int)(l:List dK)(s:dK):filled f (l++[s])=filled f l+if s.2.1=1∧(b_ s).1=f then s.2.2.2.2.1 else 0:=by
 unfold filled
 rw[List.filter_append,List.map_append,List.sum_append]
 by_cases h:s.2.1=1∧(b_ s).1=f
 ·rw[if_pos h,List.filter_cons,if_pos (decide_eq_true h)];simp
 ·rw[if_neg h,List.filter_cons,if_neg (by simpa using h)];simp
theorem FF(l:List dK)(s:dK):n_ (l++[s])=n_ l++if s.2.1=1 then[(b_ s).1]else []:=by
 unfold n_
 rw[List.filter_append,List.map_append]
 by_cases h:s.2.1=1
 ·rw[if_pos h,List.filter_cons,if_pos (decide_eq_true h)];simp
 ·rw[if_neg h,List.filter_cons,if_neg (by simpa using h)];simp
structure Inv(c:e3)(l:List dK):Prop where
 p1:(c.1.map (·.1)).Pairwise (· <·)
 ph:∀f∈c.1,jY f=true∧lx f
 j5:rk c.2.1
 pj:c.2.1.length≤32
 rem:∀x∈c.2.2.1,lW x
 L4:c.2.2.1.length≤l.length
 L5:c.1.length≤l.length
 has:∀x,x∈c.2.1∨x∈c.2.2.1→∀s∈x.2.2.2,∃f∈c.1,f.1=s.1
 Et:∀f,ew f c.2.1+ew f c.2.2.1=filled f l
 perm:(c.1.map (·.1)).Perm (n_ l)
theorem Inv.none:Inv jD []:=⟨List.Pairwise.nil,(fun f h=>by cases h),⟨List.Pairwise.nil,(fun x h=>by cases h)⟩,by simp,(fun x h=>by cases h),by simp,by simp,(fun x h=>by rcases h with h|h<;>cases h),(fun f=>by simp[ew,filled]),by simp[n_]⟩
theorem Inv.Uy{c:e3}{l:List dK}(h:Inv c l)(aq:l.length≤64):HA c:=by
 have h1:=h.L4
 have h2:=h.L5
 have h3:=h.pj
 refine⟨h.p1,fun f ak=>(vz (h.ph f ak).1).2.1,by omega,fun f ak=>(h.ph f ak).2.2.2,h.j5.sort,fun x hx=>(h.j5.all x hx).1,by omega,fun x hx=>?_,by omega,fun x hx=>?_⟩
 ·have:=vE (h.j5.all x hx).2.2.2.1
  unfold pS;omega
 ·have:=vE (h.rem x hx).2.2.1
  unfold pS;omega
theorem YE{n:Nat}{e:Int}(h:rB n e=0):e=0∧n≤32:=by
 unfold rB at h
 split at h
 ·rename_i he
  split at h
  ·simp at h
  ·exact ⟨he,by omega⟩
 ·rename_i he
  exact absurd h he
theorem FN{β:Type}{x y:Int×β}{ys:List (Int×β)}:y∈j4 x ys↔y=x∨y∈ys:=by
 rw[(ud x ys).mem_iff,List.mem_cons]
theorem YF(f a b:Int):dS f [(a,b)]=if a=f then b else 0:=by
 rw[mT,q7];omega
theorem Inv.apply{c:e3}{l:List dK}{s:dK}(h:Inv c l)(bk:lx (b_ s))(he:(gC c s).2=0):Inv (gC c s).1 (l++[s]):=by
 unfold gC at he⊢
 by_cases ak:ru s=true
 case neg=>rw[if_neg ak]at he;simp at he
 rw[if_pos ak]at he⊢
 by_cases a8:s.1≤c.2.2.2
 ·rw[if_pos a8]at he;simp at he
 rw[if_neg a8]at he⊢
 by_cases bH:rB (fW c s).2.1.length (fW c s).2.2.2=0
 case neg=>rw[if_neg bH]at he;exact absurd he bH
 rw[if_pos bH]at he⊢
 obtain⟨eG,gq⟩:=YE bH
 obtain⟨_,qB,iq,aN⟩:=IL ak
 have R6:∀a:Int,0≤a→a≤10737418240000→fL (a,s.2.2.2.2.2.1)=true:=fun a h1 h2=>mq.2 (by simp only;omega)
 have rK:=h.L4
 have lk:=h.L5
 rcases aN with⟨k,h2,h3,aI,ba,bp⟩|⟨k,h2,h3,aI⟩|⟨k,h2,h3,aI,ba⟩|⟨k,h2,h3,aI⟩
 ·have a6:fW c s=(j4 (b_ s) c.1,(gf c.2.1 s.2.2.2.1 s.2.2.2.2.1 s.2.2.2.2.2.1 [((b_ s).1,s.2.2.2.2.1)]).1,c.2.2.1,pZ (c.1.any fun g=>decide (g.1=(b_ s).1)) c.1.length (gf c.2.1 s.2.2.2.1 s.2.2.2.2.1 s.2.2.2.2.2.1 [((b_ s).1,s.2.2.2.2.1)]).2):=by unfold fW;rw[if_pos k]
  rw[a6]at eG gq⊢
  simp only at eG gq⊢
  obtain⟨_,f2,_⟩:=vz bp
  have ou:(c.1.any fun g=>decide (g.1=(b_ s).1))=false∧(gf c.2.1 s.2.2.2.1 s.2.2.2.2.1 s.2.2.2.2.2.1 [((b_ s).1,s.2.2.2.2.1)]).2=0:=by
   unfold pZ at eG
   split at eG
   ·simp at eG
   ·rename_i aM
    refine⟨Bool.eq_false_iff.2 aM, ?_⟩
    split at eG
    ·unfold m8 at eG
     split at eG
     ·simp at eG
     ·assumption
    ·exact eG
  have aT:=uf.1 f2
  have ji:lW (s.2.2.2.1,s.2.2.2.2.1,s.2.2.2.2.2.1,[((b_ s).1,s.2.2.2.2.1)]):=by
   refine⟨R6 s.2.2.2.2.1 (by omega) ba,by simp only;omega,EX (by simp) (fun x hx=>?_) (by simp) ?_,by simp[b0]⟩
   ·have:x=((b_ s).1,s.2.2.2.2.1):=by simpa using hx
    subst this
    exact lI.2 (by simp only;omega)
   ·simp[b0];exact ba
  obtain⟨cy,dd,dF⟩:=I1 h.j5 h3 ji ou.2
  have p6:∀y∈c.1,y.1≠(b_ s).1:=fun y aK e=>by
   have:=List.any_eq_false.1 ou.1 y aK
   simp at this
   exact this e
  refine⟨IJ h.p1 p6,fun f ak=>?_,cy,gq,h.rem,by simp;omega,by rw[(ud _ _).length_eq];simp;omega,fun x hx t jH=>?_,fun f=>?_, ?_⟩
  ·rcases FN.1 ak with rfl |ak
   ·exact ⟨bp,bk⟩
   ·exact h.ph f ak
  ·have sub:∀t:Int×Int,(∃f∈c.1,f.1=t.1)→∃f∈j4 (b_ s) c.1,f.1=t.1:=fun t ⟨f,ak,e⟩=>⟨f,FN.2 (.inr ak),e⟩
   rcases hx with hx |hx
   ·rcases dF x hx t jH with⟨fm,w6,bc,g9,e⟩|⟨bc,g9,e⟩
    ·obtain⟨f,ak,e2⟩:=h.has fm (.inl w6) bc g9
     exact ⟨f,FN.2 (.inr ak),by rw[e2,e]⟩
    ·have:bc=((b_ s).1,s.2.2.2.2.1):=by simpa using g9
     subst this
     exact ⟨b_ s,FN.2 (.inl rfl),e⟩
   ·exact sub t (h.has x (.inr hx) t jH)
  ·show ew f _+ew f c.2.2.1=_
   rw[dd f,Fb,YF]
   have:=h.Et f
   by_cases HG:(b_ s).1=f
   ·rw[if_pos HG,if_pos ⟨k,HG⟩];omega
   ·rw[if_neg HG,if_neg (fun hh=>HG hh.2)];omega
  ·rw[FF,if_pos k]
   refine ((ud (b_ s) c.1).map _).trans ?_
   rw[List.map_cons]
   exact (h.perm.cons _).trans (List.perm_append_singleton _ _).symm
 ·have a6:fW c s=(c.1,(gf c.2.1 s.2.2.2.1 0 s.2.2.2.2.2.1 []).1,c.2.2.1,(gf c.2.1 s.2.2.2.1 0 s.2.2.2.2.2.1 []).2):=by unfold fW;rw[if_neg (by omega),if_pos k]
  rw[a6]at eG gq⊢
  simp only at eG gq⊢
  have ji:lW (s.2.2.2.1,0,s.2.2.2.2.2.1,[]):=⟨R6 0 (by omega) (by omega),by simp only;omega,EX (by simp) (fun x hx=>by cases hx) (by simp) (by simp[b0]),by simp[b0]⟩
  obtain⟨cy,dd,dF⟩:=I1 h.j5 h3 ji eG
  refine⟨h.p1,h.ph,cy,gq,h.rem,by simp;omega,by simp;omega,fun x hx t jH=>?_,fun f=>?_, ?_⟩
  ·rcases hx with hx |hx
   ·rcases dF x hx t jH with⟨fm,w6,bc,g9,e⟩|⟨bc,g9,e⟩
    ·obtain⟨f,ak,e2⟩:=h.has fm (.inl w6) bc g9
     exact ⟨f,ak,by rw[e2,e]⟩
    ·cases g9
   ·exact h.has x (.inr hx) t jH
  ·show ew f _+ew f c.2.2.1=_
   rw[dd f,Fb,q7,if_neg (by omega)]
   have:=h.Et f
   omega
  ·rw[FF,if_neg (by omega),List.append_nil];exact h.perm
 ·have a6:fW c s=(c.1,(rp c.2.1 s.2.2.1 s.2.2.2.2.2.1 s.2.2.2.1).1,c.2.2.1,(rp c.2.1 s.2.2.1 s.2.2.2.2.2.1 s.2.2.2.1).2):=by unfold fW;rw[if_neg (by omega),if_neg (by omega),if_pos k]
  rw[a6]at eG gq⊢
  simp only at eG gq⊢
  unfold rp at eG gq⊢
  by_cases bF:(ed c.2.1 s.2.2.1 s.2.2.2.2.2.1 s.2.2.2.1).2.2=0
  case neg=>rw[if_neg bF]at eG;exact absurd eG bF
  rw[if_pos bF]at eG gq⊢
  obtain⟨d1,d2,d3,d4,d5⟩:=O0 h.j5 qB bF
  have ji:lW (s.2.2.2.1,(ed c.2.1 s.2.2.1 s.2.2.2.2.2.1 s.2.2.2.1).2.1.2.1,(ed c.2.1 s.2.2.1 s.2.2.2.2.2.1 s.2.2.2.1).2.1.2.2.1,(ed c.2.1 s.2.2.1 s.2.2.2.2.2.1 s.2.2.2.1).2.1.2.2.2):=d2
  obtain⟨cy,dd,dF⟩:=I1 d1 h3 ji eG
  refine⟨h.p1,h.ph,cy,gq,h.rem,by simp;omega,by simp;omega,fun x hx t jH=>?_,fun f=>?_, ?_⟩
  ·rcases hx with hx |hx
   ·rcases dF x hx t jH with⟨fm,w6,bc,g9,e⟩|⟨bc,g9,e⟩
    ·obtain⟨b5,kH,s2,fi,e2⟩:=d4 fm w6 bc g9
     obtain⟨f,ak,bP⟩:=h.has b5 (.inl kH) s2 fi
     exact ⟨f,ak,by rw[bP,e2,e]⟩
    ·obtain⟨b5,kH,s2,fi,e2⟩:=d5 bc g9
     obtain⟨f,ak,bP⟩:=h.has b5 (.inl kH) s2 fi
     exact ⟨f,ak,by rw[bP,e2,e]⟩
   ·exact h.has x (.inr hx) t jH
  ·show ew f _+ew f c.2.2.1=_
   rw[dd f,Fb,if_neg (by omega)]
   have:=h.Et f
   have:=d3 f
   omega
  ·rw[FF,if_neg (by omega),List.append_nil];exact h.perm
 ·have a6:fW c s=(c.1,(ed c.2.1 s.2.2.1 s.2.2.2.2.2.1 s.1).1,c.2.2.1++[(ed c.2.1 s.2.2.1 s.2.2.2.2.2.1 s.1).2.1],(ed c.2.1 s.2.2.1 s.2.2.2.2.2.1 s.1).2.2):=by unfold fW;rw[if_neg (by omega),if_neg (by omega),if_neg (by omega)]
  rw[a6]at eG gq⊢
  simp only at eG gq⊢
  obtain⟨d1,d2,d3,d4,d5⟩:=O0 h.j5 qB eG
  refine⟨h.p1,h.ph,d1,gq,fun x hx=>?_,by simp;omega,by simp;omega,fun x hx t jH=>?_,fun f=>?_, ?_⟩
  ·rcases List.mem_append.1 hx with hx |hx
   ·exact h.rem x hx
   ·have:=List.mem_singleton.1 hx
    rw[this];exact d2
  ·rcases hx with hx |hx
   ·obtain⟨b5,kH,s2,fi,e2⟩:=d4 x hx t jH
    obtain⟨f,ak,bP⟩:=h.has b5 (.inl kH) s2 fi
    exact ⟨f,ak,by rw[bP,e2]⟩
   ·rcases List.mem_append.1 hx with hx |hx
    ·exact h.has x (.inr hx) t jH
    ·have:=List.mem_singleton.1 hx
     rw[this]at jH
     obtain⟨b5,kH,s2,fi,e2⟩:=d5 t jH
     obtain⟨f,ak,bP⟩:=h.has b5 (.inl kH) s2 fi
     exact ⟨f,ak,by rw[bP,e2]⟩
  ·show ew f (ed c.2.1 s.2.2.1 s.2.2.2.2.2.1 s.1).1+ew f (c.2.2.1++_)=_
   rw[Ir,Fb,if_neg (by omega)]
   have:=h.Et f
   have:=d3 f
   rw[nC,show ew f []=0 from rfl]
   omega
  ·rw[FF,if_neg (by omega),List.append_nil];exact h.perm
def okB(c:e3)(f:dV):Bool:=decide (((((c.1.map (·.1)).Pairwise (· <·)∧p0 c.2.1)∧((∀g∈c.1,ck g.1=true)∧∀x∈c.2.1,ck x.1=true))∧((∀x∈c.2.1++c.2.2.1,x.2.2.2.length≤2^20)∧∀g∈c.1,g.2.2.2.2.length≤2^19))∧((c.1.length≤2^18∧c.2.1.length≤2^18∧c.2.2.1.length≤2^18)∧f.2.2.2.1.size<2^60∧(∀a∈f.2.2.2.2,a.size<2^60)∧f.2.2.2.2.length≤2^19))
noncomputable def Ki (c:e3) (s:dK):Option (e3×Int):=if okB c (b_ s)=true then some (gC c s)else uv c s
theorem Qi(c:e3)(s:dK):Ki c s=uv c s:=by
 unfold Ki
 split
 ·rename_i h
  obtain⟨⟨⟨⟨a,b⟩,d,e⟩,f,g⟩,⟨i,j,k⟩,l⟩:=of_decide_eq_true h
  exact (QX c s ⟨a,d,i,g,b,e,j,fun x hx=>f x (List.mem_append_left _ hx),k,fun x hx=>f x (List.mem_append_right _ hx)⟩ l).symm
 ·rfl
noncomputable def mV (T:Table) (a0:au×au×au×Int) (a1:Int×Int×Int×Int×Int×Int×Int×Int×Int×ByteArray×au) (h:H):Option (((au×au×au×Int)×Int)×H):=
 (bB true h gN a0.1).bind fun fs=>(bB true h bN a0.2.1).bind fun ls=>(bB true h bN a0.2.2.1).bind fun rs=>(bB true h [.str] a1.2.2.2.2.2.2.2.2.2.2).bind fun al=>
  (Ki (fs,ls,rs,a0.2.2.2) (a1.1,a1.2.1,a1.2.2.1,a1.2.2.2.1,a1.2.2.2.2.1,a1.2.2.2.2.2.1,a1.2.2.2.2.2.2.1,a1.2.2.2.2.2.2.2.1,a1.2.2.2.2.2.2.2.2.1,a1.2.2.2.2.2.2.2.2.2.1,al)).bind fun p=>
   some (((ae true gN p.1.1,ae true bN p.1.2.1,ae true bN p.1.2.2.1,p.1.2.2.2),p.2),h)
noncomputable def mV.e (T:Table):Entry:=e8 [.agg zP,.agg Dn] (.many [.agg zP,.leaf (.int .i64)]) fun x h=>mV T x.1 x.2 h
theorem mV.ok(T:Table)(bt:jC Tryz.prog T):eR Tryz.prog 34 (mV.e T):=by
 refine yW fun x h r ar hx=>?_
 simp only[mV,Qi,Option.bind_eq_some_iff,Option.some.injEq,Prod.mk.injEq]at hx
 obtain⟨fs,h1,ls,h2,rs,h3,al,aI,p,ba,rfl,rfl⟩:=hx
 obtain⟨⟨a,b,c,d⟩,s⟩:=x
 refine ((uv.p.ok _ h).2 _ h ?_).2
 simp only[uv.p,cF.low,mE,yz,az,aB,aj.un,ai.un,LT.un,ax]
 have kl:∀n:Int,cE true h (.int .i64) (ab.un (.int .i64) n)=some n:=fun n=>rfl
 have bh:∀n:ByteArray,cE true h .str (ab.un .str n)=some n:=fun n=>rfl
 have bu:cE true h (.row gN) (ab.un .slice a)=some fs:=h1
 have bs:cE true h (.row bN) (ab.un .slice b)=some ls:=h2
 have b6:cE true h (.row bN) (ab.un .slice c)=some rs:=h3
 have cd:cE true h (.row [.str]) (ab.un .slice s.2.2.2.2.2.2.2.2.2.2)=some al:=aI
 simp only[bu,bs,b6,cd,kl,bh,Option.bind_some]
 rw[ba]
 rfl
noncomputable def mV.p (T:cq):bj:=⟨34,mV.e T.t,mV.ok T.t T.ok⟩
noncomputable def kp.tb:cq:=bf [] [] bC
noncomputable def kp.fc:cq:=bf [mV.p kp.tb] [] kp.tb
noncomputable def kp.aZ (h:H) (a0:au) (h1:H):(Int)×H→Option (ca ((Int)×H) (bG (Unit) ((au×au×au×Int)×Int×Int)×H)):=fun(mN,bE)=>
(bif (decide (mN<((a0.len:Nat):Int)))then(aJ (0≤mN∧mN<((a0.len:Nat):Int)) ((ah (.agg [.int .i64,.int .i64,.int .i64,.int .i64,.int .i64,.int .i64,.int .i64,.int .i64,.int .i64,.str,.slice]) bE (V.add a0.a (Int.toNat mN*11))).bind fun(sQ,sR,wA,wB,afC,afD,afE,afF,afG,afH,Gr)=>
(let h9:H:=H.new bE [.int .i64 0,.int .i64 0,.int .i64 0,.int .i64 0,.int .i64 0,.int .i64 0,.int .i64 0,.int .i64 0,.int .i64 0,.str (⟨#[]⟩:ByteArray),.slice .nil 0 0 false] 11
((H.aY h9 (.aa bE.next 11 0) [.int .i64 sQ,.int .i64 sR,.int .i64 wA,.int .i64 wB,.int .i64 afC,.int .i64 afD,.int .i64 afE,.int .i64 afF,.int .i64 afG,.str afH,.slice Gr.a Gr.len Gr.cap Gr.tail]).bind fun c5=>
((ah (.agg [.slice,.slice,.slice,.int .i64]) c5 (.aa h1.next 4 0)).bind fun(mz,mA,nY,lP)=>
((ah (.agg [.int .i64,.int .i64,.int .i64,.int .i64,.int .i64,.int .i64,.int .i64,.int .i64,.int .i64,.str,.slice]) c5 (.aa bE.next 11 0)).bind fun(k9,k_,pU,la,acV,acW,acX,acY,acZ,ac0,aa1)=>
((mV kp.tb.t (mz,mA,nY,lP) (k9,k_,pU,la,acV,acW,acX,acY,acZ,ac0,aa1) c5).bind fun(((zu,zv,zw,CK),kI),cD)=>
(let dU:H:=H.new cD [.slice .nil 0 0 false,.slice .nil 0 0 false,.slice .nil 0 0 false,.int .i64 0] 4
((H.aY dU (.aa cD.next 4 0) [.slice zu.a zu.len zu.cap zu.tail,.slice zv.a zv.len zv.cap zv.tail,.slice zw.a zw.len zw.cap zw.tail,.int .i64 CK]).bind fun d_=>
(bif (!(decide (kI=0)))then((H.aY d_ (.aa h.next 4 0) [.slice .nil 0 0 false,.slice .nil 0 0 false,.slice .nil 0 0 false,.int .i64 0]).bind fun eN=>
((ah (.agg [.slice,.slice,.slice,.int .i64]) eN (.aa h.next 4 0:V)).bind fun(CF,CG,CH,uF)=>
(some (.done (.ret ((CF,CG,CH,uF),mN,kI),eN)))))else ((ah (.agg [.slice,.slice,.slice,.int .i64]) d_ (.aa cD.next 4 0)).bind fun(zD,zE,zF,KS)=>
((H.aY d_ (.aa h1.next 4 0) [.slice zD.a zD.len zD.cap zD.tail,.slice zE.a zE.len zE.cap zE.tail,.slice zF.a zF.len zF.cap zF.tail,.int .i64 KS]).bind fun et=>
(some (.more ((IntKind.wrap .i64 (mN+1)),et)))))))))))))))else (some (.done (.aP (),bE))))
noncomputable def kp (a0:au) (h:H):Option (((au×au×au×Int)×Int×Int)×H):=
(let h1:H:=H.new h [.slice .nil 0 0 false,.slice .nil 0 0 false,.slice .nil 0 0 false,.int .i64 0] 4
(bif (decide ((64:Int)<((a0.len:Nat):Int)))then((H.aY h1 (.aa h.next 4 0) [.slice .nil 0 0 false,.slice .nil 0 0 false,.slice .nil 0 0 false,.int .i64 0]).bind fun h2=>
((ah (.agg [.slice,.slice,.slice,.int .i64]) h2 (.aa h.next 4 0:V)).bind fun(lf,lg,s6,s7)=>
(some (((lf,lg,s6,s7),(-1),8),h2))))else (let aI:H:=H.new h1 [.slice .nil 0 0 false,.slice .nil 0 0 false,.slice .nil 0 0 false,.int .i64 0] 4
((H.aY aI (.aa h1.next 4 0) [.slice .nil 0 0 false,.slice .nil 0 0 false,.slice .nil 0 0 false,.int .i64 0]).bind fun ba=>
((iter bd (kp.aZ h a0 h1) (0,ba)).bind fun(Dl,gV)=>match Dl with
|.next _=>none
|.ret Dm=>(some (Dm,gV))
|.aP _=>
((ah (.agg [.slice,.slice,.slice,.int .i64]) gV (.aa h1.next 4 0)).bind fun(zd,ze,zf,KB)=>
((H.aY gV (.aa h.next 4 0) [.slice zd.a zd.len zd.cap zd.tail,.slice ze.a ze.len ze.cap ze.tail,.slice zf.a zf.len zf.cap zf.tail,.int .i64 KB]).bind fun jK=>
((ah (.agg [.slice,.slice,.slice,.int .i64]) jK (.aa h.next 4 0:V)).bind fun(CA,CB,KL,zx)=>
(some (((CA,CB,KL,zx),(-1),0),jK)))))
|.bW _=>none)))))
noncomputable def kp.x:=cQ kp.fc (br [] [(5,[17],[.leaf (.int .i64)],[],[],some 0,none)]) Tryz.func7 [.leaf .slice] (.many [.agg [.slice,.slice,.slice,.int .i64],.leaf (.int .i64),.leaf (.int .i64)]) (fun x h=>kp x h) fun _ _=>by kernel_rfl
noncomputable def q1 (a0:(List (Int×Int×Int×Int×Int×Int×Int×Int×Int×ByteArray×(List (ByteArray))))):Option (((List (Int×Int×Int×ByteArray×(List (ByteArray))))×(List (Int×Int×Int×(List (Int×Int))))×(List (Int×Int×Int×(List (Int×Int))))×Int)×Int×Int):=(kp (ae false [.int .i64,.int .i64,.int .i64,.int .i64,.int .i64,.int .i64,.int .i64,.int .i64,.int .i64,.str,.row [.str]] a0) H.empty).bind fun p=>av false p.2 (.many [.agg [.row [.int .i64,.int .i64,.int .i64,.str,.row [.str]],.row [.int .i64,.int .i64,.int .i64,.row [.int .i64,.int .i64]],.row [.int .i64,.int .i64,.int .i64,.row [.int .i64,.int .i64]],.int .i64],.leaf (.int .i64),.leaf (.int .i64)]) (an.un (.many [.agg [.slice,.slice,.slice,.int .i64],.leaf (.int .i64),.leaf (.int .i64)]) p.1)
noncomputable def q1.p:bj:=cF.low [.leaf (.row [.int .i64,.int .i64,.int .i64,.int .i64,.int .i64,.int .i64,.int .i64,.int .i64,.int .i64,.str,.row [.str]])] kp.x (.many [.agg [.row [.int .i64,.int .i64,.int .i64,.str,.row [.str]],.row [.int .i64,.int .i64,.int .i64,.row [.int .i64,.int .i64]],.row [.int .i64,.int .i64,.int .i64,.row [.int .i64,.int .i64]],.int .i64],.leaf (.int .i64),.leaf (.int .i64)]) (fun x=>q1 x) fun _=>by kernel_rfl
noncomputable def fU.tb:cq:=bf [oH.p] [] bC
noncomputable def fU.fc:cq:=bf [mV.p fU.tb] [] fU.tb
noncomputable def fU.aZ (h:H) (h8:H) (e9:au):(Int)×H→Option (ca ((Int)×H) (bG (Unit) (Option Nat×Bool)×H)):=fun(df,cX)=>
(bif (decide (df<((e9.len:Nat):Int)))then(aJ (0≤df∧df<((e9.len:Nat):Int)) ((ah (.agg [.int .i64,.int .i64,.int .i64,.str,.slice]) cX (V.add e9.a (Int.toNat df*5))).bind fun(sz,sA,ac1,ac2,Gs)=>
(let cO:H:=H.new cX [.int .i64 0,.int .i64 0,.int .i64 0,.str (⟨#[]⟩:ByteArray),.slice .nil 0 0 false] 5
((H.aY cO (.aa cX.next 5 0) [.int .i64 sz,.int .i64 sA,.int .i64 ac1,.str ac2,.slice Gs.a Gs.len Gs.cap Gs.tail]).bind fun cD=>
((ah (.agg [.int .i64,.int .i64,.int .i64,.str,.slice]) cD (.aa cX.next 5 0)).bind fun(sx,sy,CI,CJ,zn)=>
((mV fU.tb.t (⟨.nil,0,0,false⟩,⟨.nil,0,0,false⟩,⟨.nil,0,0,false⟩,0) (1,1,0,1,1,1,sx,sy,CI,CJ,zn) cD).bind fun(((Gt,Gu,Gv,ac3),rM),eO)=>
(let dy:H:=H.new eO [.slice .nil 0 0 false,.slice .nil 0 0 false,.slice .nil 0 0 false,.int .i64 0] 4
((H.aY dy (.aa eO.next 4 0) [.slice Gt.a Gt.len Gt.cap Gt.tail,.slice Gu.a Gu.len Gu.cap Gu.tail,.slice Gv.a Gv.len Gv.cap Gv.tail,.int .i64 ac3]).bind fun et=>
(((let gV:H:=H.de et 0
(bif !(!(decide (rM=0)))then(bif (decide ((0:Int)<df))then((ah (.leaf .slice) gV (.aa h.next 4 0)).bind fun oi=>
(aJ (0≤(IntKind.wrap .i64 (df-1))∧(IntKind.wrap .i64 (df-1))<((oi.len:Nat):Int)) (aJ (V.bm ((V.add oi.a (Int.toNat (IntKind.wrap .i64 (df-1))*5)):V)=true) ((ah (.leaf (.int .i64)) gV (V.add (V.add oi.a (Int.toNat (IntKind.wrap .i64 (df-1))*5)) 0)).bind fun lq=>
((ah (.leaf (.int .i64)) gV (.aa cX.next 5 0)).bind fun mI=>
(some ((decide (mI≤lq)),gV)))))))else (some (false,gV)))else (some (true,gV))))).bind fun(mH,gT)=>
(bif mH then(some (.done (.ret (none,false),gT)))else ((ah (.leaf (.int .i64)) gT (.aa cX.next 5 0)).bind fun qt=>
((ah (.agg [.int .i64,.int .i64,.int .i64,.str,.slice]) gT (.aa cX.next 5 0)).bind fun(wb,wc,CL,CM,zG)=>
((p3 gT h8.next (.leaf (.int .i64)) (.agg [.int .i64,.int .i64,.int .i64,.str,.slice]) qt (wb,wc,CL,CM,zG)).bind fun hB=>
(some (.more ((IntKind.wrap .i64 (df+1)),hB))))))))))))))))else (some (.done (.aP (),cX))))
noncomputable def fU.cl (h8:H) (tt:au):(Int)×H→Option (ca ((Int)×H) (bG (Unit) (Option Nat×Bool)×H)):=fun(tx,l5)=>
(bif (decide (tx<((tt.len:Nat):Int)))then(aJ (0≤tx∧tx<((tt.len:Nat):Int)) ((ah (.agg [.int .i64,.int .i64]) l5 (V.add tt.a (Int.toNat tx*2))).bind fun(Kz,KA)=>
(let Ak:H:=H.new l5 [.int .i64 0,.int .i64 0] 2
((H.aY Ak (.aa l5.next 2 0) [.int .i64 Kz,.int .i64 KA]).bind fun tv=>
((ah (.leaf (.int .i64)) tv (.aa l5.next 2 0)).bind fun air=>
((my tv h8.next (.leaf (.int .i64)) (.agg [.int .i64,.int .i64,.int .i64,.str,.slice]) (0,0,0,(⟨#[]⟩:ByteArray),⟨.nil,0,0,false⟩) air).bind fun((KT,KU,KV,KW,zH),ais)=>
(let l6:H:=H.new tv [.int .i64 0,.int .i64 0,.int .i64 0,.str (⟨#[]⟩:ByteArray),.slice .nil 0 0 false] 5
((H.aY l6 (.aa tv.next 5 0) [.int .i64 KT,.int .i64 KU,.int .i64 KV,.str KW,.slice zH.a zH.len zH.cap zH.tail]).bind fun Uz=>
(bif (!ais)then(some (.done (.ret (none,false),Uz)))else (some (.more ((IntKind.wrap .i64 (tx+1)),Uz))))))))))))else (some (.done (.aP (),l5))))
noncomputable def fU.fM (h8:H) (jJ:au):(Int)×H→Option (ca ((Int)×H) (bG (Unit) (Option Nat×Bool)×H)):=fun(Eu,rO)=>
(bif (decide (Eu<((jJ.len:Nat):Int)))then(aJ (0≤Eu∧Eu<((jJ.len:Nat):Int)) ((ah (.agg [.int .i64,.int .i64,.int .i64,.slice]) rO (V.add jJ.a (Int.toNat Eu*4))).bind fun(ac4,ac5,ac6,Gw)=>
(let kb:H:=H.new rO [.int .i64 0,.int .i64 0,.int .i64 0,.slice .nil 0 0 false] 4
((H.aY kb (.aa rO.next 4 0) [.int .i64 ac4,.int .i64 ac5,.int .i64 ac6,.slice Gw.a Gw.len Gw.cap Gw.tail]).bind fun o_=>
((ah (.leaf .slice) o_ (.aa rO.next 4 3)).bind fun tt=>
((iter bd (fU.cl h8 tt) (0,o_)).bind fun(afI,pb)=>match afI with
|.next _=>none
|.ret Lt=>(some (.done (.ret Lt,pb)))
|.aP _=>
(some (.more ((IntKind.wrap .i64 (Eu+1)),pb)))
|.bW _=>none))))))else (some (.done (.aP (),rO))))
noncomputable def fU (a0:(au×au×au×Int)) (h:H):Option ((Option Nat×Bool)×H):=
(match a0 with
|(cz,cA,cT,dZ)=>
(let h1:H:=H.new h [.slice cz.a cz.len cz.cap cz.tail,.slice cA.a cA.len cA.cap cA.tail,.slice cT.a cT.len cT.cap cT.tail,.int .i64 dZ] 4
((ah (.leaf .slice) h1 (.aa h.next 4 1)).bind fun b5=>
((bB true h1 [.int .i64,.int .i64,.int .i64,.row [.int .i64,.int .i64]] b5).bind fun ee=>
((oH ee).bind fun(ch,bQ)=>
(((bif !(!(decide (bQ=0)))then((ah (.leaf .slice) h1 (.aa h.next 4 0)).bind fun hc=>
(some ((decide ((64:Int)<((hc.len:Nat):Int))),h1)))else (some (true,h1)))).bind fun(eX,h8)=>
(bif eX then(some ((none,false),h8))else (let h9:H:=H.hP h8 (.cZ [])
((ah (.leaf .slice) h9 (.aa h.next 4 0)).bind fun e9=>
((iter bd (fU.aZ h h8 e9) (0,h9)).bind fun(afJ,kc)=>match afJ with
|.next _=>none
|.ret afK=>(some (afK,kc))
|.aP _=>
((ah (.leaf .slice) kc (.aa h.next 4 1)).bind fun jJ=>
((iter bd (fU.fM h8 jJ) (0,kc)).bind fun(Da,uX)=>match Da with
|.next _=>none
|.ret Db=>(some (Db,uX))
|.aP _=>
(some (((some h8.next),true),uX))
|.bW _=>none))
|.bW _=>none))))))))))
noncomputable def fU.p:bj:=eu fU.fc {br [] [(6,[35],[.leaf (.int .i64)],[],[],some 0,none),(17,[80],[.leaf (.int .i64)],[],[],some 4,none),(14,[73],[.leaf (.int .i64)],[],[],some 2,none)]with dB:=[(2,[30],[.leaf .bool]),(9,[64],[.leaf .bool])]} Tryz.func132 [.agg [.slice,.slice,.slice,.int .i64]] (.many [.leaf .map,.leaf .bool]) (fun x h=>fU x h) fun _ _=>by kernel_rfl
noncomputable def mW.aZ (bQ:Option Nat) (iM:au):(au×Int)×H→Option (ca ((au×Int)×H) (bG (au) ((Int×Int×Int×au)×au×Int)×H)):=fun((rN,om),eP)=>
(bif (decide (om<((iM.len:Nat):Int)))then(aJ (0≤om∧om<((iM.len:Nat):Int)) ((ah (.agg [.int .i64,.int .i64]) eP (V.add iM.a (Int.toNat om*2))).bind fun(Cr,Cs)=>
(let gW:H:=H.new eP [.int .i64 0,.int .i64 0] 2
((H.aY gW (.aa eP.next 2 0) [.int .i64 Cr,.int .i64 Cs]).bind fun jK=>
((ah (.leaf (.int .i64)) jK (.aa eP.next 2 0)).bind fun MR=>
((bQ:Option Nat).bind fun TH=>((my jK TH (.leaf (.int .i64)) (.agg [.int .i64,.int .i64,.int .i64,.str,.slice]) (0,0,0,(⟨#[]⟩:ByteArray),⟨.nil,0,0,false⟩) MR).bind fun((wb,wc,CL,CM,zG),akS)=>
((c7 jK none 5 64 rN [.int .i64 wb,.int .i64 wc,.int .i64 CL,.str CM,.slice zG.a zG.len zG.cap zG.tail] 1).bind fun(Ei,c2)=>
(some (.more ((Ei,(IntKind.wrap .i64 (om+1))),c2)))))))))))else (some (.done (.aP rN,eP))))
noncomputable def mW (a0:(au×au×au×Int)) (a1:Int) (h:H):Option (((Int×Int×Int×au)×au×Int)×H):=
(match a0 with
|(cz,cA,cT,dZ)=>
(let h1:H:=H.new h [.slice cz.a cz.len cz.cap cz.tail,.slice cA.a cA.len cA.cap cA.tail,.slice cT.a cT.len cT.cap cT.tail,.int .i64 dZ] 4
(let h2:H:=H.new h1 [.int .i64 0,.int .i64 0,.int .i64 0,.slice .nil 0 0 false] 4
((ah (.agg [.slice,.slice,.slice,.int .i64]) h2 (.aa h.next 4 0)).bind fun(lf,lg,s6,s7)=>
((fU (lf,lg,s6,s7) h2).bind fun((bQ,di),bp)=>
(bif (!di)then((H.aY bp (.aa h1.next 4 0) [.int .i64 0,.int .i64 0,.int .i64 0,.slice .nil 0 0 false]).bind fun bE=>
((ah (.agg [.int .i64,.int .i64,.int .i64,.slice]) bE (.aa h1.next 4 0:V)).bind fun(sQ,sR,wA,wB)=>
(some (((sQ,sR,wA,wB),⟨.nil,0,0,false⟩,1),bE))))else ((ah (.leaf .slice) bp (.aa h.next 4 1)).bind fun fT=>
((bB true bp [.int .i64,.int .i64,.int .i64,.row [.int .i64,.int .i64]] fT).bind fun tw=>
((lH tw a1).bind fun((ac7,ac8,ac9,KX),og)=>
(let cM:H:=H.new bp [.int .i64 0,.int .i64 0,.int .i64 0,.slice .nil 0 0 false] 4
((H.aY cM (.aa bp.next 4 0) [.int .i64 ac7,.int .i64 ac8,.int .i64 ac9,.slice ((ae true [.int .i64,.int .i64] KX).a) KX.length KX.length true]).bind fun cO=>
(bif (!og)then((H.aY cO (.aa h1.next 4 0) [.int .i64 0,.int .i64 0,.int .i64 0,.slice .nil 0 0 false]).bind fun cD=>
((ah (.agg [.int .i64,.int .i64,.int .i64,.slice]) cD (.aa h1.next 4 0:V)).bind fun(sx,sy,CI,CJ)=>
(some (((sx,sy,CI,CJ),⟨.nil,0,0,false⟩,7),cD))))else ((ah (.leaf .slice) cO (.aa bp.next 4 3)).bind fun gH=>
(bif (decide (((gH.len:Nat):Int)=0))then((H.aY cO (.aa h1.next 4 0) [.int .i64 0,.int .i64 0,.int .i64 0,.slice .nil 0 0 false]).bind fun eN=>
((ah (.agg [.int .i64,.int .i64,.int .i64,.slice]) eN (.aa h1.next 4 0:V)).bind fun(CF,CG,CH,uF)=>
(some (((CF,CG,CH,uF),⟨.nil,0,0,false⟩,9),eN))))else ((ah (.leaf .slice) cO (.aa bp.next 4 3)).bind fun iM=>
((iter bd (mW.aZ bQ iM) ((⟨.nil,0,0,false⟩,0),cO)).bind fun(Du,lv)=>match Du with
|.next _=>none
|.ret Dv=>(some (Dv,lv))
|.aP xa=>
((ah (.agg [.int .i64,.int .i64,.int .i64,.slice]) lv (.aa bp.next 4 0)).bind fun(Ct,Cu,KY,sG)=>
((H.aY lv (.aa h1.next 4 0) [.int .i64 Ct,.int .i64 Cu,.int .i64 KY,.slice sG.a sG.len sG.cap sG.tail]).bind fun kK=>
((ah (.agg [.int .i64,.int .i64,.int .i64,.slice]) kK (.aa h1.next 4 0:V)).bind fun(vZ,v7,Co,Cp)=>
(some (((vZ,v7,Co,Cp),xa,0),kK)))))
|.bW _=>none))))))))))))))))
noncomputable def mW.p:bj:=eu (bf [lH.p,fU.p] [] bC) (br [] [(11,[11,42],[.leaf .slice,.leaf (.int .i64)],[11],[.leaf .slice],some 1,none)]) Tryz.func93 [.agg [.slice,.slice,.slice,.int .i64],.leaf (.int .i64)] (.many [.agg [.int .i64,.int .i64,.int .i64,.slice],.leaf .slice,.leaf (.int .i64)]) (fun x h=>mW x.1 x.2 h) fun _ _=>by kernel_rfl
noncomputable def x8 (a0:(au×au×au×Int)) (a1:Int) (h:H):Option (((Int×Int×Int×ByteArray×au)×Int)×H):=
(match a0 with
|(cz,cA,cT,dZ)=>
(let h1:H:=H.new h [.slice cz.a cz.len cz.cap cz.tail,.slice cA.a cA.len cA.cap cA.tail,.slice cT.a cT.len cT.cap cT.tail,.int .i64 dZ] 4
(let h2:H:=H.new h1 [.int .i64 0,.int .i64 0,.int .i64 0,.str (⟨#[]⟩:ByteArray),.slice .nil 0 0 false] 5
((ah (.agg [.slice,.slice,.slice,.int .i64]) h2 (.aa h.next 4 0)).bind fun(lf,lg,s6,s7)=>
((mW (lf,lg,s6,s7) a1 h2).bind fun(((s4,s5,Dw,zS),di,b4),bE)=>
(let h8:H:=H.new bE [.int .i64 0,.int .i64 0,.int .i64 0,.slice .nil 0 0 false] 4
((H.aY h8 (.aa bE.next 4 0) [.int .i64 s4,.int .i64 s5,.int .i64 Dw,.slice zS.a zS.len zS.cap zS.tail]).bind fun h9=>
(bif (!(decide (b4=0)))then((H.aY h9 (.aa h1.next 5 0) [.int .i64 0,.int .i64 0,.int .i64 0,.str (⟨#[]⟩:ByteArray),.slice .nil 0 0 false]).bind fun c5=>
((ah (.agg [.int .i64,.int .i64,.int .i64,.str,.slice]) c5 (.aa h1.next 5 0:V)).bind fun(mz,mA,nY,lP,zc)=>
(some (((mz,mA,nY,lP,zc),b4),c5))))else ((ny di h9).bind fun((CC,CD,CE,sC,Gx),cM)=>
(let cO:H:=H.new cM [.int .i64 0,.int .i64 0,.int .i64 0,.str (⟨#[]⟩:ByteArray),.slice .nil 0 0 false] 5
((H.aY cO (.aa cM.next 5 0) [.int .i64 CC,.int .i64 CD,.int .i64 CE,.str sC,.slice Gx.a Gx.len Gx.cap Gx.tail]).bind fun cD=>
((ah (.leaf .slice) cD (.aa cM.next 5 4)).bind fun hp=>
((bB true cD [.str] hp).bind fun ait=>
((k4 16 ait).bind fun tz=>
((H.aY cD (.aa cM.next 5 4) [.slice ((ae true [.str] tz).a) tz.length tz.length true]).bind fun eO=>
((ah (.agg [.int .i64,.int .i64,.int .i64,.str,.slice]) eO (.aa cM.next 5 0)).bind fun(zD,zE,zF,KS,Gy)=>
((H.aY eO (.aa h1.next 5 0) [.int .i64 zD,.int .i64 zE,.int .i64 zF,.str KS,.slice Gy.a Gy.len Gy.cap Gy.tail]).bind fun et=>
((ah (.agg [.int .i64,.int .i64,.int .i64,.str,.slice]) et (.aa h1.next 5 0:V)).bind fun(v8,v_,Cq,uD,ada)=>
(some (((v8,v_,Cq,uD,ada),0),et))))))))))))))))))))
noncomputable def x8.x:=cQ (bf [mW.p,ny.p,H9.p] [] bC) (br [] []) Tryz.func41 [.agg [.slice,.slice,.slice,.int .i64],.leaf (.int .i64)] (.many [.agg [.int .i64,.int .i64,.int .i64,.str,.slice],.leaf (.int .i64)]) (fun x h=>x8 x.1 x.2 h) fun _ _=>by kernel_rfl
noncomputable def tX (a0:((List (Int×Int×Int×ByteArray×(List (ByteArray))))×(List (Int×Int×Int×(List (Int×Int))))×(List (Int×Int×Int×(List (Int×Int))))×Int)) (a1:Int):Option ((Int×Int×Int×ByteArray×(List (ByteArray)))×Int):=(x8 (ae false [.int .i64,.int .i64,.int .i64,.str,.row [.str]] a0.1,ae false [.int .i64,.int .i64,.int .i64,.row [.int .i64,.int .i64]] a0.2.1,ae false [.int .i64,.int .i64,.int .i64,.row [.int .i64,.int .i64]] a0.2.2.1,a0.2.2.2) a1 H.empty).bind fun p=>av false p.2 (.many [.agg [.int .i64,.int .i64,.int .i64,.str,.row [.str]],.leaf (.int .i64)]) (an.un (.many [.agg [.int .i64,.int .i64,.int .i64,.str,.slice],.leaf (.int .i64)]) p.1)
noncomputable def tX.p:bj:=cF.low [.agg [.row [.int .i64,.int .i64,.int .i64,.str,.row [.str]],.row [.int .i64,.int .i64,.int .i64,.row [.int .i64,.int .i64]],.row [.int .i64,.int .i64,.int .i64,.row [.int .i64,.int .i64]],.int .i64],.leaf (.int .i64)] x8.x (.many [.agg [.int .i64,.int .i64,.int .i64,.str,.row [.str]],.leaf (.int .i64)]) (fun x=>tX x.1 x.2) fun _=>by kernel_rfl
noncomputable def BK (a0:(au×au×au×Int)) (a1:Int) (a2:Int) (h:H):Option ((Int×Int)×H):=
(match a0 with
|(cz,cA,cT,dZ)=>
(let h1:H:=H.new h [.slice cz.a cz.len cz.cap cz.tail,.slice cA.a cA.len cA.cap cA.tail,.slice cT.a cT.len cT.cap cT.tail,.int .i64 dZ] 4
((ah (.agg [.slice,.slice,.slice,.int .i64]) h1 (.aa h.next 4 0)).bind fun(sS,sU,Dx,Dy)=>
((bB true h1 [.int .i64,.int .i64,.int .i64,.str,.row [.str]] sS).bind fun ee=>
((bB true h1 [.int .i64,.int .i64,.int .i64,.row [.int .i64,.int .i64]] sU).bind fun mO=>
((bB true h1 [.int .i64,.int .i64,.int .i64,.row [.int .i64,.int .i64]] Dx).bind fun qH=>
((tX (ee,mO,qH,Dy) a1).bind fun((sV,sW,wM,m_,L6),bQ)=>
(let h8:H:=H.new h1 [.int .i64 0,.int .i64 0,.int .i64 0,.str (⟨#[]⟩:ByteArray),.slice .nil 0 0 false] 5
((H.aY h8 (.aa h1.next 5 0) [.int .i64 sV,.int .i64 sW,.int .i64 wM,.str m_,.slice ((ae true [.str] L6).a) L6.length L6.length true]).bind fun h9=>
(bif (!(decide (bQ=0)))then(some ((0,bQ),h9))else ((ah (.agg [.int .i64,.int .i64,.int .i64,.str,.slice]) h9 (.aa h1.next 5 0)).bind fun(nV,nW,nX,jW,uE)=>
((bB true h9 [.str] uE).bind fun tw=>
((um (nV,nW,nX,jW,tw) a2).bind fun og=>
(bif (!(decide (og=0)))then(some ((0,og),h9))else ((ah (.leaf (.int .i64)) h9 (.aa h1.next 5 2)).bind fun jo=>
((vp jo a2).bind fun(kI,tr)=>
(some ((kI,tr),h9))))))))))))))))))
noncomputable def BK.x:=cQ (bf [tX.p,um.p,vp.p] [] bC) (br [] []) Tryz.func13 [.agg [.slice,.slice,.slice,.int .i64],.leaf (.int .i64),.leaf (.int .i64)] (.many [.leaf (.int .i64),.leaf (.int .i64)]) (fun x h=>BK x.1 x.2.1 x.2.2 h) fun _ _=>by kernel_rfl
noncomputable def mr (a0:((List (Int×Int×Int×ByteArray×(List (ByteArray))))×(List (Int×Int×Int×(List (Int×Int))))×(List (Int×Int×Int×(List (Int×Int))))×Int)) (a1:Int) (a2:Int):Option (Int×Int):=(BK (ae false [.int .i64,.int .i64,.int .i64,.str,.row [.str]] a0.1,ae false [.int .i64,.int .i64,.int .i64,.row [.int .i64,.int .i64]] a0.2.1,ae false [.int .i64,.int .i64,.int .i64,.row [.int .i64,.int .i64]] a0.2.2.1,a0.2.2.2) a1 a2 H.empty).bind fun p=>av false p.2 (.many [.leaf (.int .i64),.leaf (.int .i64)]) (an.un (.many [.leaf (.int .i64),.leaf (.int .i64)]) p.1)
noncomputable def mr.p:bj:=cF.low [.agg [.row [.int .i64,.int .i64,.int .i64,.str,.row [.str]],.row [.int .i64,.int .i64,.int .i64,.row [.int .i64,.int .i64]],.row [.int .i64,.int .i64,.int .i64,.row [.int .i64,.int .i64]],.int .i64],.leaf (.int .i64),.leaf (.int .i64)] BK.x (.many [.leaf (.int .i64),.leaf (.int .i64)]) (fun x=>mr x.1 x.2.1 x.2.2) fun _=>by kernel_rfl
noncomputable def pO.aZ (h:H) (a1:Int) (a2:Int) (gM:au):(au×Int)×H→Option (ca ((au×Int)×H) (bG (au) (au×Int)×H)):=fun((g1,fj),cJ)=>
(bif (decide (fj<((gM.len:Nat):Int)))then(aJ (0≤fj∧fj<((gM.len:Nat):Int)) ((ah (.agg [.int .i64,.int .i64,.int .i64,.slice]) cJ (V.add gM.a (Int.toNat fj*4))).bind fun(k9,k_,pU,la)=>
(let cM:H:=H.new cJ [.int .i64 0,.int .i64 0,.int .i64 0,.slice .nil 0 0 false] 4
((H.aY cM (.aa cJ.next 4 0) [.int .i64 k9,.int .i64 k_,.int .i64 pU,.slice la.a la.len la.cap la.tail]).bind fun cO=>
((ah (.agg [.slice,.slice,.slice,.int .i64]) cO (.aa h.next 4 0)).bind fun(Cv,Cw,Cx,Cy)=>
((ah (.leaf (.int .i64)) cO (.aa cJ.next 4 0)).bind fun hp=>
((bB true cO [.int .i64,.int .i64,.int .i64,.str,.row [.str]] Cv).bind fun aiu=>
((bB true cO [.int .i64,.int .i64,.int .i64,.row [.int .i64,.int .i64]] Cw).bind fun l4=>
((bB true cO [.int .i64,.int .i64,.int .i64,.row [.int .i64,.int .i64]] Cx).bind fun MQ=>
((mr (aiu,l4,MQ,Cy) hp a2).bind fun(tz,rM)=>
(((bif (decide (rM=0))then(some ((decide (a1≤tz)),cO))else (some (false,cO)))).bind fun(om,eP)=>
((bif om then((ah (.leaf (.int .i64)) eP (.aa cJ.next 4 0)).bind fun lq=>
((c7 eP none 1 8 g1 [.int .i64 lq] 1).bind fun(aiv,jK)=>
(some (.next aiv,jK))))else (some (.next g1,eP)):Option (bG (au) (au×Int)×H)).bind fun(LS,h0)=>match LS with
|.next aiw=>
(some (.more ((aiw,(IntKind.wrap .i64 (fj+1))),h0)))
|.ret Dc=>(some (.done (.ret Dc,h0)))
|.aP _=>none
|.bW _=>none))))))))))))else (some (.done (.aP g1,cJ))))
noncomputable def pO (a0:(au×au×au×Int)) (a1:Int) (a2:Int) (h:H):Option ((au×Int)×H):=
(match a0 with
|(cz,cA,cT,dZ)=>
(let h1:H:=H.new h [.slice cz.a cz.len cz.cap cz.tail,.slice cA.a cA.len cA.cap cA.tail,.slice cT.a cT.len cT.cap cT.tail,.int .i64 dZ] 4
((ah (.agg [.slice,.slice,.slice,.int .i64]) h1 (.aa h.next 4 0)).bind fun(sS,sU,Dx,Dy)=>
((fU (sS,sU,Dx,Dy) h1).bind fun((ch,bQ),ba)=>
(bif (!bQ)then(some ((⟨.nil,0,0,false⟩,1),ba))else (((bif !(decide (a1<0))then(bif !(decide ((300:Int)<a1))then(bif !(decide (a2<0))then(some ((decide ((100000:Int)<a2)),ba))else (some (true,ba)))else (some (true,ba)))else (some (true,ba)))).bind fun(mN,bE)=>
(bif mN then(some ((⟨.nil,0,0,false⟩,2),bE))else ((ah (.leaf .slice) bE (.aa h.next 4 1)).bind fun gM=>
((iter bd (pO.aZ h a1 a2 gM) ((⟨.nil,0,0,false⟩,0),bE)).bind fun(LI,jr)=>match LI with
|.next _=>none
|.ret LJ=>(some (LJ,jr))
|.aP aix=>
(some ((aix,0),jr))
|.bW _=>none)))))))))
noncomputable def pO.x:=cQ (bf [mr.p,fU.p] [] bC) {br [(59,[10],[.leaf .slice],none,none)] [(8,[10,41],[.leaf .slice,.leaf (.int .i64)],[10],[.leaf .slice],some 1,none)]with dB:=[(4,[23],[.leaf .bool]),(11,[59],[.leaf .bool])]} Tryz.func88 [.agg [.slice,.slice,.slice,.int .i64],.leaf (.int .i64),.leaf (.int .i64)] (.many [.leaf .slice,.leaf (.int .i64)]) (fun x h=>pO x.1 x.2.1 x.2.2 h) fun _ _=>by kernel_rfl
noncomputable def vG (a0:((List (Int×Int×Int×ByteArray×(List (ByteArray))))×(List (Int×Int×Int×(List (Int×Int))))×(List (Int×Int×Int×(List (Int×Int))))×Int)) (a1:Int) (a2:Int):Option ((List (Int))×Int):=(pO (ae false [.int .i64,.int .i64,.int .i64,.str,.row [.str]] a0.1,ae false [.int .i64,.int .i64,.int .i64,.row [.int .i64,.int .i64]] a0.2.1,ae false [.int .i64,.int .i64,.int .i64,.row [.int .i64,.int .i64]] a0.2.2.1,a0.2.2.2) a1 a2 H.empty).bind fun p=>av false p.2 (.many [.leaf (.row [.int .i64]),.leaf (.int .i64)]) (an.un (.many [.leaf .slice,.leaf (.int .i64)]) p.1)
noncomputable def vG.p:bj:=cF.low [.agg [.row [.int .i64,.int .i64,.int .i64,.str,.row [.str]],.row [.int .i64,.int .i64,.int .i64,.row [.int .i64,.int .i64]],.row [.int .i64,.int .i64,.int .i64,.row [.int .i64,.int .i64]],.int .i64],.leaf (.int .i64),.leaf (.int .i64)] pO.x (.many [.leaf (.row [.int .i64]),.leaf (.int .i64)]) (fun x=>vG x.1 x.2.1 x.2.2) fun _=>by kernel_rfl
noncomputable def ja.tb:cq:=bf [lH.p,vG.p] [vu.p] bC
noncomputable def ja.fc:cq:=bf [nw.p ja.tb] [] ja.tb
noncomputable def ja.aZ (h:H) (gu:au):(au×Int)×H→Option (ca ((au×Int)×H) (bG (au) ((Int×Int×Int×au)×au×Int)×H)):=fun((UA,rN),gV)=>
(bif (decide (rN<((gu.len:Nat):Int)))then(aJ (0≤rN∧rN<((gu.len:Nat):Int)) ((ah (.agg [.int .i64,.int .i64]) gV (V.add gu.a (Int.toNat rN*2))).bind fun(nP,nQ)=>
(let hZ:H:=H.new gV [.int .i64 0,.int .i64 0] 2
((H.aY hZ (.aa gV.next 2 0) [.int .i64 nP,.int .i64 nQ]).bind fun gW=>
((ah (.leaf .slice) gW (.aa h.next 4 0)).bind fun D7=>
((nw ja.tb.t D7 (.func 89 [.aa gV.next 2 0]:V) gW).bind fun(pc,gU)=>
((ah (.leaf .slice) gU (.aa h.next 4 0)).bind fun rL=>
(aJ (0≤pc∧pc<((rL.len:Nat):Int)) ((ah (.agg [.int .i64,.int .i64,.int .i64,.str,.slice]) gU (V.add rL.a (Int.toNat pc*5))).bind fun(KE,KF,KG,adb,Gz)=>
((c7 gU none 5 64 UA [.int .i64 KE,.int .i64 KF,.int .i64 KG,.str adb,.slice Gz.a Gz.len Gz.cap Gz.tail] 1).bind fun(Ei,c2)=>
(some (.more ((Ei,(IntKind.wrap .i64 (rN+1))),c2)))))))))))))else (some (.done (.aP UA,gV))))
noncomputable def ja (a0:(au×au×au×Int)) (a1:Int) (h:H):Option (((Int×Int×Int×au)×au×Int)×H):=
(match a0 with
|(cz,cA,cT,dZ)=>
(let h1:H:=H.new h [.slice cz.a cz.len cz.cap cz.tail,.slice cA.a cA.len cA.cap cA.tail,.slice cT.a cT.len cT.cap cT.tail,.int .i64 dZ] 4
(let h2:H:=H.new h1 [.int .i64 0,.int .i64 0,.int .i64 0,.slice .nil 0 0 false] 4
((ah (.agg [.slice,.slice,.slice,.int .i64]) h2 (.aa h.next 4 0)).bind fun(lf,lg,s6,s7)=>
((bB true h2 [.int .i64,.int .i64,.int .i64,.str,.row [.str]] lf).bind fun mO=>
((bB true h2 [.int .i64,.int .i64,.int .i64,.row [.int .i64,.int .i64]] lg).bind fun qH=>
((bB true h2 [.int .i64,.int .i64,.int .i64,.row [.int .i64,.int .i64]] s6).bind fun ajT=>
((vG (mO,qH,ajT,s7) 0 0).bind fun(bQ,di)=>
(bif (!(decide (di=0)))then((H.aY h2 (.aa h1.next 4 0) [.int .i64 0,.int .i64 0,.int .i64 0,.slice .nil 0 0 false]).bind fun h9=>
((ah (.agg [.int .i64,.int .i64,.int .i64,.slice]) h9 (.aa h1.next 4 0:V)).bind fun(nV,nW,nX,jW)=>
(some (((nV,nW,nX,jW),⟨.nil,0,0,false⟩,1),h9))))else ((ah (.leaf .slice) h2 (.aa h.next 4 1)).bind fun iv=>
((bB true h2 [.int .i64,.int .i64,.int .i64,.row [.int .i64,.int .i64]] iv).bind fun M9=>
((lH M9 a1).bind fun((CC,CD,CE,sC),xc)=>
(let cD:H:=H.new h2 [.int .i64 0,.int .i64 0,.int .i64 0,.slice .nil 0 0 false] 4
((H.aY cD (.aa h2.next 4 0) [.int .i64 CC,.int .i64 CD,.int .i64 CE,.slice ((ae true [.int .i64,.int .i64] sC).a) sC.length sC.length true]).bind fun dU=>
(bif (!xc)then((H.aY dU (.aa h1.next 4 0) [.int .i64 0,.int .i64 0,.int .i64 0,.slice .nil 0 0 false]).bind fun d_=>
((ah (.agg [.int .i64,.int .i64,.int .i64,.slice]) d_ (.aa h1.next 4 0:V)).bind fun(nS,nT,sB,oY)=>
(some (((nS,nT,sB,oY),⟨.nil,0,0,false⟩,7),d_))))else ((ah (.leaf .slice) dU (.aa h2.next 4 3)).bind fun gu=>
((iter bd (ja.aZ h gu) ((⟨.nil,0,0,false⟩,0),dU)).bind fun(Du,lv)=>match Du with
|.next _=>none
|.ret Dv=>(some (Dv,lv))
|.aP xa=>
((ah (.agg [.int .i64,.int .i64,.int .i64,.slice]) lv (.aa h2.next 4 0)).bind fun(Ct,Cu,KY,sG)=>
((H.aY lv (.aa h1.next 4 0) [.int .i64 Ct,.int .i64 Cu,.int .i64 KY,.slice sG.a sG.len sG.cap sG.tail]).bind fun kK=>
((ah (.agg [.int .i64,.int .i64,.int .i64,.slice]) kK (.aa h1.next 4 0:V)).bind fun(vZ,v7,Co,Cp)=>
(some (((vZ,v7,Co,Cp),xa,0),kK)))))
|.bW _=>none)))))))))))))))))
noncomputable def ja.p:bj:=eu ja.fc (br [] [(9,[11,36],[.leaf .slice,.leaf (.int .i64)],[11],[.leaf .slice],some 0,none)]) Tryz.func38 [.agg [.slice,.slice,.slice,.int .i64],.leaf (.int .i64)] (.many [.agg [.int .i64,.int .i64,.int .i64,.slice],.leaf .slice,.leaf (.int .i64)]) (fun x h=>ja x.1 x.2 h) fun _ _=>by kernel_rfl
noncomputable def V_.p:bj:=fB (bf [mr.p,r5.p,ja.p,x4.p] [] bC) {br [] []with dB:=[(3,[30],[.leaf .bool]),(9,[46],[.leaf .bool])]} Tryz.func66 (.one (.leaf (.int .i64))) [.leaf (.row [.int .i64,.int .i64]),.agg [.row [.int .i64,.int .i64,.int .i64,.str,.row [.str]],.row [.int .i64,.int .i64,.int .i64,.row [.int .i64,.int .i64]],.row [.int .i64,.int .i64,.int .i64,.row [.int .i64,.int .i64]],.int .i64],.leaf (.int .i64),.leaf (.int .i64),.leaf (.int .i64)] (.one (.leaf (.int .i64)))
noncomputable def U6.p:bj:=wx (bf [] [zj.p] bC) (br [] []) Tryz.func113 [.leaf .map] (.one (.leaf .dyn))
noncomputable def Vd.p:bj:=fB (bf [ja.p,nz.p,U6.p] [] bC) (br [] [(9,[34],[.leaf (.int .i64)],[],[],some 2,none),(6,[27],[.leaf (.int .i64)],[],[],some 0,none)]) Tryz.func67 (.many [.leaf .slice,.leaf (.int .i64)]) [.agg [.row [.int .i64,.int .i64,.int .i64,.str,.row [.str]],.row [.int .i64,.int .i64,.int .i64,.row [.int .i64,.int .i64]],.row [.int .i64,.int .i64,.int .i64,.row [.int .i64,.int .i64]],.int .i64],.leaf (.int .i64)] (.many [.leaf (.row [.str]),.leaf (.int .i64)])
noncomputable def AV (a0:Option Nat) (h:H):Option ((V)×H):=
(let h1:H:=H.new h [.map a0] 1
(some ((.func 92 [.aa h.next 1 0]:V),h1)))
noncomputable def AV.p:bj:=eu (bf [] [zk.p] bC) (br [] []) Tryz.func40 [.leaf .map] (.one (.leaf .dyn)) (fun x h=>AV x h) fun _ _=>by kernel_rfl
noncomputable def kW.aZ (bQ:au) (h8:H) (e9:au):(Int)×H→Option (ca ((Int)×H) (bG (Unit) (au×au×Int)×H)):=fun(df,cX)=>
(bif (decide (df<((e9.len:Nat):Int)))then(aJ (0≤df∧df<((e9.len:Nat):Int)) ((ah (.agg [.int .i64,.int .i64]) cX (V.add e9.a (Int.toNat df*2))).bind fun(sz,sA)=>
(let cO:H:=H.new cX [.int .i64 0,.int .i64 0] 2
((H.aY cO (.aa cX.next 2 0) [.int .i64 sz,.int .i64 sA]).bind fun cD=>
(let dU:H:=H.de cD 0
(aJ (0≤df∧df<((bQ.len:Nat):Int)) (aJ (V.bm ((V.add bQ.a (Int.toNat df*5)):V)=true) ((ah (.leaf .str) dU (V.add (V.add bQ.a (Int.toNat df*5)) 3)).bind fun gH=>
((my dU h8.next (.leaf .str) (.leaf (.int .i64)) 0 gH).bind fun(ln,akT)=>
((ah (.leaf (.int .i64)) dU (.aa cX.next 2 1)).bind fun iM=>
((p3 dU h8.next (.leaf .str) (.leaf (.int .i64)) gH (IntKind.wrap .i64 (ln+iM))).bind fun et=>
(some (.more ((IntKind.wrap .i64 (df+1)),et))))))))))))))else (some (.done (.aP (),cX))))
noncomputable def kW.cl (h8:H) (pc:au):(au×Int)×H→Option (ca ((au×Int)×H) (bG (au) (au×au×Int)×H)):=fun((lu,oo),kc)=>
(bif (decide (oo<((pc.len:Nat):Int)))then(aJ (0≤oo∧oo<((pc.len:Nat):Int)) ((ah (.leaf .str) kc (V.add pc.a (Int.toNat oo*1))).bind fun D3=>
((my kc h8.next (.leaf .str) (.leaf (.int .i64)) 0 D3).bind fun(o9,akU)=>
((c7 kc none 1 8 lu [.int .i64 o9] 1).bind fun(D4,rO)=>
(some (.more ((D4,(IntKind.wrap .i64 (oo+1))),rO)))))))else (some (.done (.aP lu,kc))))
noncomputable def kW (a0:(au×au×au×Int)) (a1:Int) (h:H):Option ((au×au×Int)×H):=
(match a0 with
|(cz,cA,cT,dZ)=>
(let h1:H:=H.new h [.slice cz.a cz.len cz.cap cz.tail,.slice cA.a cA.len cA.cap cA.tail,.slice cT.a cT.len cT.cap cT.tail,.int .i64 dZ] 4
((ah (.agg [.slice,.slice,.slice,.int .i64]) h1 (.aa h.next 4 0)).bind fun(sS,sU,Dx,Dy)=>
((ja (sS,sU,Dx,Dy) a1 h1).bind fun(((sV,sW,wM,m_),bQ,di),bp)=>
(let bE:H:=H.new bp [.int .i64 0,.int .i64 0,.int .i64 0,.slice .nil 0 0 false] 4
((H.aY bE (.aa bp.next 4 0) [.int .i64 sV,.int .i64 sW,.int .i64 wM,.slice m_.a m_.len m_.cap m_.tail]).bind fun h8=>
(bif (!(decide (di=0)))then(some ((⟨.nil,0,0,false⟩,⟨.nil,0,0,false⟩,di),h8))else (let h9:H:=H.hP h8 (.cZ [])
((ah (.leaf .slice) h9 (.aa bp.next 4 3)).bind fun e9=>
((iter bd (kW.aZ bQ h8 e9) (0,h9)).bind fun(Dl,gV)=>match Dl with
|.next _=>none
|.ret Dm=>(some (Dm,gV))
|.aP _=>
((AV (some h8.next) gV).bind fun(T4,jK)=>
((nz T4 jK).bind fun(pc,gU)=>
((iter bd (kW.cl h8 pc) ((⟨.nil,0,0,false⟩,0),gU)).bind fun(L7,o_)=>match L7 with
|.next _=>none
|.ret L8=>(some (L8,o_))
|.aP ML=>
(some ((pc,ML,0),o_))
|.bW _=>none)))
|.bW _=>none))))))))))
noncomputable def kW.x:=cQ (bf [ja.p,nz.p,AV.p] [] bC) (br [] [(6,[31],[.leaf (.int .i64)],[],[],some 0,none),(13,[14,52],[.leaf .slice,.leaf (.int .i64)],[14],[.leaf .slice],some 2,none)]) Tryz.func11 [.agg [.slice,.slice,.slice,.int .i64],.leaf (.int .i64)] (.many [.leaf .slice,.leaf .slice,.leaf (.int .i64)]) (fun x h=>kW x.1 x.2 h) fun _ _=>by kernel_rfl
noncomputable def tW (a0:((List (Int×Int×Int×ByteArray×(List (ByteArray))))×(List (Int×Int×Int×(List (Int×Int))))×(List (Int×Int×Int×(List (Int×Int))))×Int)) (a1:Int):Option ((List (ByteArray))×(List (Int))×Int):=(kW (ae false [.int .i64,.int .i64,.int .i64,.str,.row [.str]] a0.1,ae false [.int .i64,.int .i64,.int .i64,.row [.int .i64,.int .i64]] a0.2.1,ae false [.int .i64,.int .i64,.int .i64,.row [.int .i64,.int .i64]] a0.2.2.1,a0.2.2.2) a1 H.empty).bind fun p=>av false p.2 (.many [.leaf (.row [.str]),.leaf (.row [.int .i64]),.leaf (.int .i64)]) (an.un (.many [.leaf .slice,.leaf .slice,.leaf (.int .i64)]) p.1)
noncomputable def tW.p:bj:=cF.low [.agg [.row [.int .i64,.int .i64,.int .i64,.str,.row [.str]],.row [.int .i64,.int .i64,.int .i64,.row [.int .i64,.int .i64]],.row [.int .i64,.int .i64,.int .i64,.row [.int .i64,.int .i64]],.int .i64],.leaf (.int .i64)] kW.x (.many [.leaf (.row [.str]),.leaf (.row [.int .i64]),.leaf (.int .i64)]) (fun x=>tW x.1 x.2) fun _=>by kernel_rfl
noncomputable def VM.p:bj:=fB (bf [tW.p] [] bC) (br [] [(4,[10,24],[.leaf (.int .i64),.leaf (.int .i64)],[10],[.leaf (.int .i64)],some 0,none),(9,[34],[.leaf (.int .i64)],[],[],some 2,none)]) Tryz.func68 (.one (.leaf .str)) [.agg [.row [.int .i64,.int .i64,.int .i64,.str,.row [.str]],.row [.int .i64,.int .i64,.int .i64,.row [.int .i64,.int .i64]],.row [.int .i64,.int .i64,.int .i64,.row [.int .i64,.int .i64]],.int .i64],.leaf (.int .i64),.leaf (.int .i64)] (.one (.leaf .str))
noncomputable def O1.p:bj:=fB (bf [mr.p,lH.p,A4.p,V_.p,Vd.p,VM.p] [] bC) (br [] []) Tryz.func27 (.many [.agg [.int .i64,.str,.int .i64,.slice],.leaf (.int .i64)]) [.leaf (.row [.int .i64,.int .i64]),.agg [.row [.int .i64,.int .i64,.int .i64,.str,.row [.str]],.row [.int .i64,.int .i64,.int .i64,.row [.int .i64,.int .i64]],.row [.int .i64,.int .i64,.int .i64,.row [.int .i64,.int .i64]],.int .i64],.leaf (.int .i64),.leaf (.int .i64),.leaf (.int .i64)] (.many [.agg [.int .i64,.str,.int .i64,.row [.str]],.leaf (.int .i64)])
noncomputable def xS:Option (Bool):=some true
theorem U_.v:sN (bf [q1.p,q6.p,mr.p,Ig.p,Oi.p,NX.p,O1.p,OV.p,OA.p,r5.p,vf.p,Fj.p,ES.p] [] bC).t {br [] []with dB:=[(14,[0],[.leaf .bool])]} Tryz.f5 (.one (.leaf .bool)) [] (.one (.leaf .bool)) ()=xS:=by kernel_rfl
noncomputable def xS.p:bj:=ad1 (bf [q1.p,q6.p,mr.p,Ig.p,Oi.p,NX.p,O1.p,OV.p,OA.p,r5.p,vf.p,Fj.p,ES.p] [] bC) {br [] []with dB:=[(14,[0],[.leaf .bool])]} Tryz.func5 (.one (.leaf .bool)) (.one (.leaf .bool)) xS U_.v
noncomputable def Bo (a0:au) (a1:Int) (h:H):Option ((au×Int)×H):=
((bB true h [.int .i64,.int .i64,.int .i64,.int .i64,.int .i64,.int .i64,.int .i64,.int .i64,.int .i64,.str,.row [.str]] a0).bind fun eD=>
((q1 eD).bind fun((wG,wH,Dk,afL),bJ,ch)=>
(let ba:H:=H.new h [.slice .nil 0 0 false,.slice .nil 0 0 false,.slice .nil 0 0 false,.int .i64 0] 4
((H.aY ba (.aa h.next 4 0) [.slice ((ae true [.int .i64,.int .i64,.int .i64,.str,.row [.str]] wG).a) wG.length wG.length true,.slice ((ae true [.int .i64,.int .i64,.int .i64,.row [.int .i64,.int .i64]] wH).a) wH.length wH.length true,.slice ((ae true [.int .i64,.int .i64,.int .i64,.row [.int .i64,.int .i64]] Dk).a) Dk.length Dk.length true,.int .i64 afL]).bind fun bp=>
(bif (!(decide (ch=0)))then(some ((⟨.nil,0,0,false⟩,1),bp))else ((ah (.leaf .slice) bp (.aa h.next 4 1)).bind fun fK=>
((bB true bp [.int .i64,.int .i64,.int .i64,.row [.int .i64,.int .i64]] fK).bind fun D5=>
((lH D5 a1).bind fun((Lm,Ln,afM,L9),xF)=>
(let cJ:H:=H.new bp [.int .i64 0,.int .i64 0,.int .i64 0,.slice .nil 0 0 false] 4
((H.aY cJ (.aa bp.next 4 0) [.int .i64 Lm,.int .i64 Ln,.int .i64 afM,.slice ((ae true [.int .i64,.int .i64] L9).a) L9.length L9.length true]).bind fun cX=>
(bif (!xF)then(some ((⟨.nil,0,0,false⟩,7),cX))else ((ah (.leaf .slice) cX (.aa bp.next 4 3)).bind fun jo=>
(some ((jo,0),cX))))))))))))))
noncomputable def Bo.x:=cQ (bf [q1.p,lH.p] [] bC) (br [] []) Tryz.func10 [.leaf .slice,.leaf (.int .i64)] (.many [.leaf .slice,.leaf (.int .i64)]) (fun x h=>Bo x.1 x.2 h) fun _ _=>by kernel_rfl
noncomputable def vv (a0:(List (Int×Int×Int×Int×Int×Int×Int×Int×Int×ByteArray×(List (ByteArray))))) (a1:Int):Option ((List (Int×Int))×Int):=(Bo (ae false [.int .i64,.int .i64,.int .i64,.int .i64,.int .i64,.int .i64,.int .i64,.int .i64,.int .i64,.str,.row [.str]] a0) a1 H.empty).bind fun p=>av false p.2 (.many [.leaf (.row [.int .i64,.int .i64]),.leaf (.int .i64)]) (an.un (.many [.leaf .slice,.leaf (.int .i64)]) p.1)
noncomputable def vv.p:bj:=cF.low [.leaf (.row [.int .i64,.int .i64,.int .i64,.int .i64,.int .i64,.int .i64,.int .i64,.int .i64,.int .i64,.str,.row [.str]]),.leaf (.int .i64)] Bo.x (.many [.leaf (.row [.int .i64,.int .i64]),.leaf (.int .i64)]) (fun x=>vv x.1 x.2) fun _=>by kernel_rfl
def ec.A:fw:={br [] [(16,[79],[.leaf (.int .i64)],[],[],some 2,none),(10,[57],[.leaf (.int .i64)],[],[],some 0,none),(22,[94],[.leaf (.int .i64)],[],[],some 4,none),(34,[24,136],[.leaf (.int .i64),.leaf (.int .i64)],[24],[.leaf (.int .i64)],some 8,none),(43,[177],[.leaf (.int .i64)],[],[],some 10,none),(28,[115],[.leaf (.int .i64)],[],[],some 6,none)]with dB:=[(13,[75],[.leaf .bool]),(24,[110],[.leaf .bool]),(38,[163],[.leaf .bool]),(46,[209],[.leaf .bool])]}
noncomputable def ec.tb:cq:=bf [xS.p,tU.p,q1.p,kn.p,q6.p,vv.p,tW.p,ve.p,mr.p] [vg.p] bC
noncomputable def ec.fc:cq:=bf [nw.p ec.tb] [] ec.tb
noncomputable def ec.aZ (h9:H) (qt:au):(Int)×H→Option (ca ((Int)×H) (bG (Unit) (Bool)×H)):=fun(lu,hB)=>
(bif (decide (lu<((qt.len:Nat):Int)))then(aJ (0≤lu∧lu<((qt.len:Nat):Int)) ((ah (.agg [.int .i64,.int .i64]) hB (V.add qt.a (Int.toNat lu*2))).bind fun(ade,adf)=>
(let c2:H:=H.new hB [.int .i64 0,.int .i64 0] 2
((H.aY c2 (.aa hB.next 2 0) [.int .i64 ade,.int .i64 adf]).bind fun jr=>
((ah (.leaf (.int .i64)) jr (.aa hB.next 2 0)).bind fun jJ=>
((H.dk jr h9.next .i64 .i64).bind fun afN=>
((ah (.leaf (.int .i64)) jr (.aa hB.next 2 1)).bind fun iN=>
((H.dk jr h9.next .i64 .i64).bind fun afO=>
(let kb:H:=H.put jr h9.next (.dk .i64 .i64 (iR jJ (IntKind.wrap .i64 (((getM jJ afN).getD 0)+iN)) afO))
(some (.more ((IntKind.wrap .i64 (lu+1)),kb))))))))))))else (some (.done (.aP (),hB))))
noncomputable def ec.cl (h9:H) (kI:au):(Int)×H→Option (ca ((Int)×H) (bG (Unit) (Bool)×H)):=fun(fH,d_)=>
(bif (decide (fH<((kI.len:Nat):Int)))then(aJ (0≤fH∧fH<((kI.len:Nat):Int)) ((ah (.agg [.int .i64,.int .i64,.int .i64,.slice]) d_ (V.add kI.a (Int.toNat fH*4))).bind fun(nS,nT,sB,oY)=>
(let eO:H:=H.new d_ [.int .i64 0,.int .i64 0,.int .i64 0,.slice .nil 0 0 false] 4
((H.aY eO (.aa d_.next 4 0) [.int .i64 nS,.int .i64 nT,.int .i64 sB,.slice oY.a oY.len oY.cap oY.tail]).bind fun dy=>
((ah (.leaf .slice) dy (.aa d_.next 4 3)).bind fun xg=>
((bB true dy [.int .i64,.int .i64] xg).bind fun aiy=>
((q6 aiy).bind fun(uY,Au)=>
(((bif !(!(decide (Au=0)))then((ah (.leaf (.int .i64)) dy (.aa d_.next 4 1)).bind fun mI=>
(some ((!(decide (uY=mI))),dy)))else (some (true,dy)))).bind fun(mH,gT)=>
(bif mH then(some (.done (.ret false,gT)))else ((ah (.leaf .slice) gT (.aa d_.next 4 3)).bind fun qt=>
((iter bd (ec.aZ h9 qt) (0,gT)).bind fun(L7,o_)=>match L7 with
|.next _=>none
|.ret L8=>(some (.done (.ret L8,o_)))
|.aP _=>
(some (.more ((IntKind.wrap .i64 (fH+1)),o_)))
|.bW _=>none)))))))))))else (some (.done (.aP (),d_))))
noncomputable def ec.fM (a0:au) (h9:H):(Int)×H→Option (ca ((Int)×H) (bG (Unit) (Bool)×H)):=fun(Ew,xt)=>
(bif (decide (Ew<((a0.len:Nat):Int)))then(aJ (0≤Ew∧Ew<((a0.len:Nat):Int)) ((ah (.agg [.int .i64,.int .i64,.int .i64,.int .i64,.int .i64,.int .i64,.int .i64,.int .i64,.int .i64,.str,.slice]) xt (V.add a0.a (Int.toNat Ew*11))).bind fun(KT,KU,KV,KW,zH,adg,adh,adi,adj,adk,F9)=>
(let Aj:H:=H.new xt [.int .i64 0,.int .i64 0,.int .i64 0,.int .i64 0,.int .i64 0,.int .i64 0,.int .i64 0,.int .i64 0,.int .i64 0,.str (⟨#[]⟩:ByteArray),.slice .nil 0 0 false] 11
((H.aY Aj (.aa xt.next 11 0) [.int .i64 KT,.int .i64 KU,.int .i64 KV,.int .i64 KW,.int .i64 zH,.int .i64 adg,.int .i64 adh,.int .i64 adi,.int .i64 adj,.str adk,.slice F9.a F9.len F9.cap F9.tail]).bind fun l6=>
((((ah (.leaf (.int .i64)) l6 (.aa xt.next 11 1)).bind fun D_=>
(bif (decide (D_=1))then((ah (.leaf (.int .i64)) l6 (.aa xt.next 11 6)).bind fun MS=>
((H.dk l6 h9.next .i64 .i64).bind fun afP=>
((ah (.leaf (.int .i64)) l6 (.aa xt.next 11 4)).bind fun aiz=>
(some ((!(decide (((getM MS afP).getD 0)=aiz))),l6)))))else (some (false,l6))))).bind fun(aiA,UB)=>
(bif aiA then(some (.done (.ret false,UB)))else (some (.more ((IntKind.wrap .i64 (Ew+1)),UB)))))))))else (some (.done (.aP (),xt))))
noncomputable def ec.nU (Ex:List (Int)):(Int×Int)×H→Option (ca ((Int×Int)×H) (bG (Int) (Bool)×H)):=fun((UC,l7),Nt)=>
(bif (decide (l7<((Ex.length:Nat):Int)))then(aJ (0≤l7∧l7<((Ex.length:Nat):Int)) ((ah (.leaf (.int .i64)) Nt (V.add ((ae true [.int .i64] Ex).a) (Int.toNat l7*1))).bind fun aiB=>
(some (.more (((IntKind.wrap .i64 (UC+aiB)),(IntKind.wrap .i64 (l7+1))),Nt)))))else (some (.done (.aP UC,Nt))))
noncomputable def ec.pV (h:H) (a1:Int) (Nu:Int) (Ey:au):(Int)×H→Option (ca ((Int)×H) (bG (Unit) (Bool)×H)):=fun(Dz,DA)=>
(bif (decide (Dz<((Ey.len:Nat):Int)))then(aJ (0≤Dz∧Dz<((Ey.len:Nat):Int)) ((ah (.agg [.int .i64,.int .i64]) DA (V.add Ey.a (Int.toNat Dz*2))).bind fun(aa2,aa3)=>
(let afQ:H:=H.new DA [.int .i64 0,.int .i64 0] 2
((H.aY afQ (.aa DA.next 2 0) [.int .i64 aa2,.int .i64 aa3]).bind fun Td=>
((ah (.leaf .slice) Td (.aa h.next 4 0)).bind fun afR=>
((nw ec.tb.t afR (.func 15 [.aa DA.next 2 0]:V) Td).bind fun(th,wP)=>
(((bif !(decide (th<0))then((ah (.leaf .slice) wP (.aa h.next 4 0)).bind fun L_=>
(aJ (0≤th∧th<((L_.len:Nat):Int)) (aJ (V.bm ((V.add L_.a (Int.toNat th*5)):V)=true) ((ah (.leaf (.int .i64)) wP (V.add (V.add L_.a (Int.toNat th*5)) 2)).bind fun afS=>
(bif !(decide (a1<afS))then((ah (.leaf .slice) wP (.aa h.next 4 0)).bind fun Ma=>
(aJ (0≤th∧th<((Ma.len:Nat):Int)) (aJ (V.bm ((V.add Ma.a (Int.toNat th*5)):V)=true) ((ah (.leaf (.int .i64)) wP (V.add (V.add Ma.a (Int.toNat th*5)) 2)).bind fun afT=>
(some ((decide ((IntKind.wrap .i64 (a1-afT))<(IntKind.wrap .i64 (365*Nu)))),wP))))))else (some (true,wP)))))))else (some (true,wP)))).bind fun(afU,Te)=>
(bif afU then(some (.done (.ret false,Te)))else (some (.more ((IntKind.wrap .i64 (Dz+1)),Te)))))))))))else (some (.done (.aP (),DA))))
noncomputable def ec.zI (h:H) (a0:au) (a1:Int) (Ez:au):(Int)×H→Option (ca ((Int)×H) (bG (Unit) (Bool)×H)):=fun(u0,rS)=>
(bif (decide (u0<((Ez.len:Nat):Int)))then(aJ (0≤u0∧u0<((Ez.len:Nat):Int)) ((ah (.agg [.int .i64,.int .i64,.int .i64,.slice]) rS (V.add Ez.a (Int.toNat u0*4))).bind fun(adl,adm,adn,GA)=>
(let Hl:H:=H.new rS [.int .i64 0,.int .i64 0,.int .i64 0,.slice .nil 0 0 false] 4
((H.aY Hl (.aa rS.next 4 0) [.int .i64 adl,.int .i64 adm,.int .i64 adn,.slice GA.a GA.len GA.cap GA.tail]).bind fun fD=>
((ah (.leaf (.int .i64)) fD (.aa rS.next 4 0)).bind fun MT=>
((bB true fD [.int .i64,.int .i64,.int .i64,.int .i64,.int .i64,.int .i64,.int .i64,.int .i64,.int .i64,.str,.row [.str]] a0).bind fun aiC=>
((vv aiC MT).bind fun(aiD,aiE)=>
((ah (.agg [.slice,.slice,.slice,.int .i64]) fD (.aa h.next 4 0)).bind fun(ado,adp,adq,adr)=>
((ah (.leaf (.int .i64)) fD (.aa rS.next 4 0)).bind fun aiF=>
((bB true fD [.int .i64,.int .i64,.int .i64,.str,.row [.str]] ado).bind fun aiG=>
((bB true fD [.int .i64,.int .i64,.int .i64,.row [.int .i64,.int .i64]] adp).bind fun aiH=>
((bB true fD [.int .i64,.int .i64,.int .i64,.row [.int .i64,.int .i64]] adq).bind fun aiI=>
((tW (aiG,aiH,aiI,adr) aiF).bind fun(akV,Ex,aiJ)=>
((iter bd (ec.nU Ex) ((0,0),fD)).bind fun(afV,qw)=>match afV with
|.next _=>none
|.ret afW=>(some (.done (.ret afW,qw)))
|.aP MW=>
(((bif !(!(decide (aiE=0)))then(bif !(!(decide (aiJ=0)))then((ah (.leaf .slice) qw (.aa rS.next 4 3)).bind fun aiK=>
((bB true qw [.int .i64,.int .i64] (ae true [.int .i64,.int .i64] aiD)).bind fun aiL=>
((bB true qw [.int .i64,.int .i64] aiK).bind fun aiM=>
((ve aiL aiM).bind fun aiN=>
(bif !(!aiN)then((ah (.leaf (.int .i64)) qw (.aa rS.next 4 1)).bind fun aiO=>
(some ((!(decide (MW=aiO))),qw)))else (some (true,qw)))))))else (some (true,qw)))else (some (true,qw)))).bind fun(aiP,qx)=>
(bif aiP then(some (.done (.ret false,qx)))else ((ah (.agg [.slice,.slice,.slice,.int .i64]) qx (.aa h.next 4 0)).bind fun(ads,adt,adu,adv)=>
((ah (.leaf (.int .i64)) qx (.aa rS.next 4 0)).bind fun aiQ=>
((bB true qx [.int .i64,.int .i64,.int .i64,.str,.row [.str]] ads).bind fun aiR=>
((bB true qx [.int .i64,.int .i64,.int .i64,.row [.int .i64,.int .i64]] adt).bind fun aiS=>
((bB true qx [.int .i64,.int .i64,.int .i64,.row [.int .i64,.int .i64]] adu).bind fun aiT=>
((mr (aiR,aiS,aiT,adv) aiQ a1).bind fun(Nu,aiU)=>
(bif (!(decide (aiU=0)))then(some (.more ((IntKind.wrap .i64 (u0+1)),qx)))else ((ah (.leaf .slice) qx (.aa rS.next 4 3)).bind fun Ey=>
((iter bd (ec.pV h a1 Nu Ey) (0,qx)).bind fun(KZ,DB)=>match KZ with
|.next _=>none
|.ret K0=>(some (.done (.ret K0,DB)))
|.aP _=>
(some (.more ((IntKind.wrap .i64 (u0+1)),DB)))
|.bW _=>none)))))))))))
|.bW _=>none))))))))))))))else (some (.done (.aP (),rS))))
noncomputable def ec (a0:au) (a1:Int) (h:H):Option ((Bool)×H):=
((xS).bind fun bw=>
(bif (!bw)then(some (false,h))else ((bB true h [.int .i64,.int .i64,.int .i64,.int .i64,.int .i64,.int .i64,.int .i64,.int .i64,.int .i64,.str,.row [.str]] a0).bind fun cU=>
((tU cU).bind fun bJ=>
(bif (!bJ)then(some (true,h))else ((bB true h [.int .i64,.int .i64,.int .i64,.int .i64,.int .i64,.int .i64,.int .i64,.int .i64,.int .i64,.str,.row [.str]] a0).bind fun qH=>
((q1 qH).bind fun((s4,s5,Dw,zS),di,b4)=>
(let h8:H:=H.new h [.slice .nil 0 0 false,.slice .nil 0 0 false,.slice .nil 0 0 false,.int .i64 0] 4
((H.aY h8 (.aa h.next 4 0) [.slice ((ae true [.int .i64,.int .i64,.int .i64,.str,.row [.str]] s4).a) s4.length s4.length true,.slice ((ae true [.int .i64,.int .i64,.int .i64,.row [.int .i64,.int .i64]] s5).a) s5.length s5.length true,.slice ((ae true [.int .i64,.int .i64,.int .i64,.row [.int .i64,.int .i64]] Dw).a) Dw.length Dw.length true,.int .i64 zS]).bind fun h9=>
(bif (!(decide (b4=0)))then((ah (.leaf .slice) h9 (.aa h.next 4 1)).bind fun e9=>
(some ((decide (((e9.len:Nat):Int)=0)),h9)))else (let cJ:H:=H.hP h9 (.dk .i64 .i64 [])
((ah (.leaf .slice) cJ (.aa h.next 4 1)).bind fun jn=>
((ah (.leaf .slice) cJ (.aa h.next 4 2)).bind fun jo=>
((kn ⟨.lp true ([.slice jn.a jn.len jn.cap jn.tail,.slice jo.a jo.len jo.cap jo.tail]) 0,2,2,false⟩ cJ).bind fun(kI,cD)=>
((iter bd (ec.cl h9 kI) (0,cD)).bind fun(afX,l5)=>match afX with
|.next _=>none
|.ret afY=>(some (afY,l5))
|.aP _=>
((iter bd (ec.fM a0 h9) (0,l5)).bind fun(afZ,Eh)=>match afZ with
|.next _=>none
|.ret af0=>(some (af0,Eh))
|.aP _=>
((ah (.leaf .slice) Eh (.aa h.next 4 1)).bind fun Ez=>
((iter bd (ec.zI h a0 a1 Ez) (0,Eh)).bind fun(adw,Tf)=>match adw with
|.next _=>none
|.ret adx=>(some (adx,Tf))
|.aP _=>
(some (true,Tf))
|.bW _=>none))
|.bW _=>none)
|.bW _=>none)))))))))))))))
noncomputable def EW (a0:(List (Int×Int×Int×Int×Int×Int×Int×Int×Int×ByteArray×(List (ByteArray))))) (a1:Int):Option (Bool):=(ec (ae false [.int .i64,.int .i64,.int .i64,.int .i64,.int .i64,.int .i64,.int .i64,.int .i64,.int .i64,.str,.row [.str]] a0) a1 H.empty).bind fun p=>av false p.2 (.one (.leaf .bool)) (an.un (.one (.leaf .bool)) p.1)
theorem EW.eq:∀x:aj [.leaf (.row [.int .i64,.int .i64,.int .i64,.int .i64,.int .i64,.int .i64,.int .i64,.int .i64,.int .i64,.str,.row [.str]]),.leaf (.int .i64)],((jd Tryz.prog ec.fc.t ec.A Tryz.f3 (.one (.leaf .bool)) (aj.lo false [.leaf (.row [.int .i64,.int .i64,.int .i64,.int .i64,.int .i64,.int .i64,.int .i64,.int .i64,.int .i64,.str,.row [.str]]),.leaf (.int .i64)] x) H.empty).bind fun p=>av false p.2 (.one (.leaf .bool)) (an.un (.one (.leaf .bool)) p.1))=EW x.1 x.2:=fun _=>by kernel_rfl
noncomputable def m1:List dK→e3→Nat→e3×Int×Int
 |[],c,_=>(c,-1,0)
 |s::l,c,i=>if(gC c s).2=0 then m1 l (gC c s).1 (i+1)else (jD,i,(gC c s).2)
theorem WE(s:dK)(l:List dK)(c:e3)(i:Nat):m1 (s::l) c i=if(gC c s).2=0 then m1 l (gC c s).1 (i+1)else (jD,i,(gC c s).2):=rfl
noncomputable def lS (l:List dK):e3×Int×Int:=if 64<l.length then(jD,-1,8)else m1 l jD 0
theorem PA:∀{l:List dK} {c:e3} {i:Nat} {EG:List dK},Inv c EG→(∀s∈l,lx (b_ s))→(m1 l c i).2.2=0→Inv (m1 l c i).1 (EG++l)
 |[],c,i,EG,h,_,_=>by rw[List.append_nil];exact h
 |s::l,c,i,EG,h,bk,he=>by
  unfold m1 at he⊢
  split at he
  ·rename_i aO
   rw[if_pos aO]
   have:=PA (l:=l) (i:=i+1) (h.apply (bk s (by simp)) aO) (fun t jH=>bk t (by simp[jH])) he
   rw[List.append_assoc]at this
   exact this
  ·rename_i aO
   exact absurd he aO
theorem PB:∀{l:List dK} {c:e3} {i:Nat},(m1 l c i).2.2≠0→(m1 l c i).1=jD
 |[],c,i,h=>absurd rfl h
 |s::l,c,i,h=>by
  unfold m1 at h⊢
  split at h
  ·rename_i aO
   rw[if_pos aO]
   exact PB h
  ·rename_i aO
   rw[if_neg aO]
structure np(S:au×au×au×Int)(c:e3):Prop where
 f:∀lp h,bB lp h gN S.1=some c.1
 l:∀lp h,bB lp h bN S.2.1=some c.2.1
 r:∀lp h,bB lp h bN S.2.2.1=some c.2.2.1
 d:S.2.2.2=c.2.2.2
theorem np.none:np (⟨.nil,0,0,false⟩,⟨.nil,0,0,false⟩,⟨.nil,0,0,false⟩,0) jD:=⟨fun _ _=>mu,fun _ _=>mu,fun _ _=>mu,rfl⟩
theorem np.rows(c:e3):np (ae true gN c.1,ae true bN c.2.1,ae true bN c.2.2.1,c.2.2.2) c:=⟨fun _ _=>jb rfl,fun _ _=>jb rfl,fun _ _=>jb rfl,rfl⟩
theorem np.res{S:au×au×au×Int}{c:e3}(h:np S c)(aO:H)(i e:Int):av false aO (.many [.agg zO,.leaf (.int .i64),.leaf (.int .i64)]) (an.un (.many [.agg zP,.leaf (.int .i64),.leaf (.int .i64)]) (S,i,e))=some (c,i,e):=by
 obtain⟨F,L,R,d⟩:=S
 obtain⟨fs,ls,rs,rW⟩:=c
 have bF:d=rW:=h.d
 subst bF
 simp only[av,az,aB,ax,an.un,aj.un,ai.un,LT.un]
 have bL:cE false aO (.row gN) (ab.un .slice F)=some fs:=h.f false aO
 have a_:cE false aO (.row bN) (ab.un .slice L)=some ls:=h.l false aO
 have cY:cE false aO (.row bN) (ab.un .slice R)=some rs:=h.r false aO
 rw[bL,Option.bind_some,a_,Option.bind_some,cY,Option.bind_some]
 rfl
theorem R7{T:Table}{S:au×au×au×Int}{c:e3}{s:dK}{al:au}{h:H}(bh:np S c)(oq:bB true h [.str] al=some (b_ s).2.2.2.2)(ao:HA c)(bk:lx (b_ s)):
  mV T S (s.1,s.2.1,s.2.2.1,s.2.2.2.1,s.2.2.2.2.1,s.2.2.2.2.2.1,(b_ s).1,(b_ s).2.1,(b_ s).2.2.1,(b_ s).2.2.2.1,al) h=some (((ae true gN (gC c s).1.1,ae true bN (gC c s).1.2.1,ae true bN (gC c s).1.2.2.1,(gC c s).1.2.2.2),(gC c s).2),h):=by
 unfold mV
 rw[bh.f,Option.bind_some,bh.l,Option.bind_some,bh.r,Option.bind_some]
 simp only
 rw[oq,Option.bind_some,bh.d]
 have:=(Qi c s).trans (QX c s ao bk)
 rw[show(c.1,c.2.1,c.2.2.1,c.2.2.2)=c from rfl]
 rw[show(s.1,s.2.1,s.2.2.1,s.2.2.2.1,s.2.2.2.2.1,s.2.2.2.2.2.1,(b_ s).1,(b_ s).2.1,(b_ s).2.2.1,(b_ s).2.2.2.1,(b_ s).2.2.2.2)=s from rfl,this]
 rfl
abbrev ER:n4:=(0,0,0,0,0,0,0,0,0,⟨#[]⟩,⟨.nil,0,0,false⟩)
theorem JV{sl:List Slot}{s:n4}:H.aY (ag (sl++[ct ER])) (.aa sl.length 11 0) [.int .i64 s.1,.int .i64 s.2.1,.int .i64 s.2.2.1,.int .i64 s.2.2.2.1,.int .i64 s.2.2.2.2.1,.int .i64 s.2.2.2.2.2.1,.int .i64 s.2.2.2.2.2.2.1,.int .i64 s.2.2.2.2.2.2.2.1,.int .i64 s.2.2.2.2.2.2.2.2.1,.str s.2.2.2.2.2.2.2.2.2.1,.slice s.2.2.2.2.2.2.2.2.2.2.a s.2.2.2.2.2.2.2.2.2.2.len s.2.2.2.2.2.2.2.2.2.2.cap s.2.2.2.2.2.2.2.2.2.2.tail]=some (ag (sl++[ct s])):=by
 rw[eS (g:=11) (cs:=[V.int .i64 0,V.int .i64 0,V.int .i64 0,V.int .i64 0,V.int .i64 0,V.int .i64 0,V.int .i64 0,V.int .i64 0,V.int .i64 0,V.str ⟨#[]⟩,V.slice .nil 0 0 false]) (e:=11) (by simp) rfl (by simp)]
 have:(sl++[ct ER]).set sl.length (ct s)=sl++[ct s]:=by simp
 exact congrArg (fun z=>some (ag z)) this
theorem Ca{sl:List Slot}{F L R:au}{d:Int}:H.aY (ag (sl++[fF])) (.aa sl.length 4 0) [.slice F.a F.len F.cap F.tail,.slice L.a L.len L.cap L.tail,.slice R.a R.len R.cap R.tail,.int .i64 d]=some (ag (sl++[bI F L R d])):=by
 rw[wO (F:=⟨.nil,0,0,false⟩) (L:=⟨.nil,0,0,false⟩) (R:=⟨.nil,0,0,false⟩) (d:=0) (by simp)]
 have:(sl++[fF]).set sl.length (bI F L R d)=sl++[bI F L R d]:=by simp
 exact congrArg (fun z=>some (ag z)) this
theorem JW{h:H}{l:List dK}{i:Nat}{s:dK}(hx:l[i]? =some s):ah (.agg Dn) h (V.add (ae false ht l).a (i*11))=some (dM s):=by
 rw[FU (ls:=ht) (xs:=l) (w:=11) rfl rfl (by omega),hx]
 rfl
theorem Rw(l:List dK)(bk:∀s∈l,lx (b_ s))(aq:l.length<2^60):q1 l=some (lS l):=by
 unfold q1 kp lS
 simp only[hj,b9,bR,List.nil_append,List.length_nil,List.length_cons,List.length_append,Nat.zero_add,List.cons_append,Nat.reduceAdd,bZ]
 simp only[show Slot.own [V.slice .nil 0 0 false,V.slice .nil 0 0 false,V.slice .nil 0 0 false,V.int .i64 0] 4=fF from rfl]
 have hzero:∀{T:List Slot},T[0]? =some fF→H.aY (ag T) (.aa 0 4 0) [.slice .nil 0 0 false,.slice .nil 0 0 false,.slice .nil 0 0 false,.int .i64 0]=some (ag T):=fun{T} bt=>by
  have:=wO bt ⟨.nil,0,0,false⟩ ⟨.nil,0,0,false⟩ ⟨.nil,0,0,false⟩ 0
  simp only at this
  rw[this,oL bt]
 by_cases fD:64<l.length
 ·have g0:([fF]:List Slot)[0]? =some fF:=rfl
  rw[if_pos fD,decide_eq_true (show(64:Int)<(l.length:Int) by omega),cond_true,hzero g0,Option.bind_some,iH g0,Option.bind_some,Option.bind_some]
  exact np.none.res _ _ _
 ·rw[if_neg fD,decide_eq_false (show ¬(64:Int)<(l.length:Int) by omega),cond_false]
  have w1:H.aY (ag [fF,fF]) (.aa 1 4 0) [.slice .nil 0 0 false,.slice .nil 0 0 false,.slice .nil 0 0 false,.int .i64 0]=some (ag [fF,fF]):=by
   have:=wO (sl:=[fF,fF]) (c:=1) (F:=⟨.nil,0,0,false⟩) (L:=⟨.nil,0,0,false⟩) (R:=⟨.nil,0,0,false⟩) (d:=0) rfl ⟨.nil,0,0,false⟩ ⟨.nil,0,0,false⟩ ⟨.nil,0,0,false⟩ 0
   exact this
  rw[w1,Option.bind_some]
  obtain⟨x,aw,aH⟩:=ft (f:=kp.aZ (ag []) (ae false ht l) (ag [fF]))
   (Inv:=fun st=>∃(i:Nat) (T:List Slot) (F L R:au) (d:Int) (c:e3),st=((i:Int),ag T)∧i≤l.length∧T[0]? =some fF∧T[1]? =some (bI F L R d)∧np (F,L,R,d) c∧Inv c (l.take i)∧m1 (l.drop i) c i=m1 l jD 0)
   (Post:=fun x=>(∃(T:List Slot) (F L R:au) (d:Int) (c:e3),x=(.aP (),ag T)∧T[0]? =some fF∧T[1]? =some (bI F L R d)∧np (F,L,R,d) c∧m1 l jD 0=(c,-1,0))∨
    ∃(T:List Slot) (i e:Int),x=(.ret ((⟨.nil,0,0,false⟩,⟨.nil,0,0,false⟩,⟨.nil,0,0,false⟩,0),i,e),ag T)∧m1 l jD 0=(jD,i,e))
   (fun st=>l.length-st.1.toNat) (fun st a6=>by
    obtain⟨i,T,F,L,R,d,c,rfl,hi,t0,t1,rR,hinv,pk⟩:=a6
    have aiV:=(List.getElem?_eq_some_iff.1 t0).1
    have Ns:=(List.getElem?_eq_some_iff.1 t1).1
    by_cases bn:i<l.length
    ·have hx:l[i]? =some l[i]:=List.getElem?_eq_getElem bn
     have bF:l.drop i=l[i]::l.drop (i+1):=List.drop_eq_getElem_cons bn
     have e6:l[i]∈l:=List.getElem_mem bn
     have db:=hinv.Uy (by rw[List.length_take];omega)
     rw[bF,WE]at pk
     have v0:∀ext:List Slot,(T++ext)[0]? =some fF:=fun ext=>by rw[List.getElem?_append_left aiV];exact t0
     have v1:∀ext:List Slot,(T++ext)[1]? =some (bI F L R d):=fun ext=>by rw[List.getElem?_append_left Ns];exact t1
     have Tg:(T++[ct (dM l[i])])[T.length]? =some (ct (dM l[i])):=by simp
     have halt:=R7 (T:=kp.tb.t) (s:=l[i]) (al:=ae false [.str] (b_ l[i]).2.2.2.2) (h:=ag (T++[ct (dM l[i])])) rR (hL rfl) db (bk _ e6)
     have start:∀{X:Type} (K:(n4×H)→Option X),True:=fun _=>trivial
     by_cases he:(gC c l[i]).2=0
     ·left
      rw[if_pos he]at pk
      generalize kE:(gC c l[i]).1=bg at pk halt
      have ady:Inv bg (l.take (i+1)):=by
       have:=hinv.apply (bk _ e6) he
       rw[kE]at this
       rw[List.take_add_one,hx]
       exact this
      refine⟨(((i+1:Nat):Int),ag ((T++[ct (dM l[i]),bI (ae true gN bg.1) (ae true bN bg.2.1) (ae true bN bg.2.2.1) bg.2.2.2]).set 1 (bI (ae true gN bg.1) (ae true bN bg.2.1) (ae true bN bg.2.2.1) bg.2.2.2))), ?_,⟨i+1,_,_,_,_,_,bg,rfl,by omega,(by rw[List.getElem?_set_ne (by omega)];exact v0 _),List.getElem?_set_self (by simp),np.rows bg,ady,pk⟩,by simp only[Int.toNat_natCast];omega⟩
      unfold kp.aZ
      simp only[bZ,b9,bR,List.length_cons,List.length_nil,Nat.zero_add]
      rw[decide_eq_true (show(i:Int)<(l.length:Int) by omega),cond_true,aS (by omega),Int.toNat_natCast]
      have xn:=JW (h:=ag T) hx
      rw[xn,Option.bind_some]
      simp only[show Slot.own [V.int .i64 0,V.int .i64 0,V.int .i64 0,V.int .i64 0,V.int .i64 0,V.int .i64 0,V.int .i64 0,V.int .i64 0,V.int .i64 0,V.str ⟨#[]⟩,V.slice .nil 0 0 false] 11=ct ER from rfl]
      rw[JV (s:=dM l[i]),Option.bind_some,iH (v1 _),Option.bind_some,FZ Tg,Option.bind_some]
      simp only
      rw[halt,Option.bind_some]
      simp only[b9,bR,show Slot.own [V.slice .nil 0 0 false,V.slice .nil 0 0 false,V.slice .nil 0 0 false,V.int .i64 0] 4=fF from rfl]
      rw[Ca (sl:=T++[ct (dM l[i])]),Option.bind_some,he]
      simp only[decide_true,Bool.not_true,cond_false]
      have aV:((T++[ct (dM l[i])])++[bI (ae true gN bg.1) (ae true bN bg.2.1) (ae true bN bg.2.2.1) bg.2.2.2])[(T++[ct (dM l[i])]).length]? =some (bI (ae true gN bg.1) (ae true bN bg.2.1) (ae true bN bg.2.2.1) bg.2.2.2):=by simp
      rw[iH aV,Option.bind_some]
      have aiW:((T++[ct (dM l[i])])++[bI (ae true gN bg.1) (ae true bN bg.2.1) (ae true bN bg.2.2.1) bg.2.2.2])[1]? =some (bI F L R d):=by rw[List.append_assoc];exact v1 _
      simp only
      rw[wO aiW,Option.bind_some,dO (by omega),List.append_assoc]
      rfl
     ·right
      rw[if_neg he]at pk
      refine⟨(.ret ((⟨.nil,0,0,false⟩,⟨.nil,0,0,false⟩,⟨.nil,0,0,false⟩,0),(i:Int),(gC c l[i]).2),ag ((T++[ct (dM l[i])])++[bI (ae true gN (gC c l[i]).1.1) (ae true bN (gC c l[i]).1.2.1) (ae true bN (gC c l[i]).1.2.2.1) (gC c l[i]).1.2.2.2])), ?_,.inr ⟨_,_,_,rfl,pk.symm⟩⟩
      unfold kp.aZ
      simp only[bZ,b9,bR,List.length_cons,List.length_nil,Nat.zero_add]
      rw[decide_eq_true (show(i:Int)<(l.length:Int) by omega),cond_true,aS (by omega),Int.toNat_natCast]
      have xn:=JW (h:=ag T) hx
      rw[xn,Option.bind_some]
      simp only[show Slot.own [V.int .i64 0,V.int .i64 0,V.int .i64 0,V.int .i64 0,V.int .i64 0,V.int .i64 0,V.int .i64 0,V.int .i64 0,V.int .i64 0,V.str ⟨#[]⟩,V.slice .nil 0 0 false] 11=ct ER from rfl]
      rw[JV (s:=dM l[i]),Option.bind_some,iH (v1 _),Option.bind_some,FZ Tg,Option.bind_some]
      simp only
      rw[halt,Option.bind_some]
      simp only[b9,bR,show Slot.own [V.slice .nil 0 0 false,V.slice .nil 0 0 false,V.slice .nil 0 0 false,V.int .i64 0] 4=fF from rfl]
      rw[Ca (sl:=T++[ct (dM l[i])]),Option.bind_some,decide_eq_false he]
      simp only[Bool.not_false,cond_true]
      have UD:((T++[ct (dM l[i])])++[bI (ae true gN (gC c l[i]).1.1) (ae true bN (gC c l[i]).1.2.1) (ae true bN (gC c l[i]).1.2.2.1) (gC c l[i]).1.2.2.2])[0]? =some fF:=by rw[List.append_assoc];exact v0 _
      rw[hzero UD,Option.bind_some,iH UD,Option.bind_some]
    ·right
     have:i=l.length:=by omega
     subst this
     rw[List.drop_length]at pk
     refine⟨(.aP (),ag T), ?_,.inl ⟨T,F,L,R,d,c,rfl,t0,t1,rR,pk.symm⟩⟩
     unfold kp.aZ
     simp only[bZ]
     rw[decide_eq_false (by omega),cond_false]) bd ((0:Int),ag [fF,fF]) ⟨0,_,_,_,_,_,jD,rfl,Nat.zero_le _,rfl,rfl,np.none,by rw[List.take_zero];exact Inv.none,by rw[List.drop_zero]⟩ (dj (by show l.length-0<_;omega))
  rw[aw,Option.bind_some]
  rcases aH with⟨T,F,L,R,d,c,rfl,t0,t1,rR,pk⟩|⟨T,i,e,rfl,pk⟩
  ·rw[pk]
   simp only
   rw[iH t1,Option.bind_some,wO t0,Option.bind_some,iH (List.getElem?_set_self (List.getElem?_eq_some_iff.1 t0).1),Option.bind_some,Option.bind_some]
   exact rR.res _ _ _
  ·rw[pk]
   exact np.none.res _ _ _
theorem Qj{l:List dK}(bk:∀s∈l,lx (b_ s))(he:(lS l).2.2=0):Inv (lS l).1 l∧l.length≤64:=by
 unfold lS at he⊢
 split at he
 ·simp at he
 ·rename_i fD
  rw[if_neg fD]
  have:=PA (l:=l) (i:=0) Inv.none bk he
  rw[List.nil_append]at this
  exact ⟨this,by omega⟩
theorem YG{l:List dK}(he:(lS l).2.2≠0):(lS l).1=jD:=by
 unfold lS at he⊢
 split at he
 ·rename_i fD;rw[if_pos fD]
 ·rename_i fD;rw[if_neg fD];exact PB he
theorem Inv.find{c:e3}{l:List dK}(h:Inv c l)(n:Int):lH c.2.1 n=some (cL c.2.1 n):=B2 _ _ (by have:=h.pj;omega) fun x hx=>by have:=vE (h.j5.all x hx).2.2.2.1;omega
noncomputable def K1 (l:List dK) (n:Int):List (Int×Int)×Int:=
 if(lS l).2.2=0 then(if(cL (lS l).1.2.1 n).2=true then((cL (lS l).1.2.1 n).1.2.2.2,0)else ([],7))else ([],1)
theorem aam(l:List dK)(n:Int)(bk:∀s∈l,lx (b_ s))(aq:l.length<2^60):vv l n=some (K1 l n):=by
 have Ci:=Rw l bk aq
 have dH:∀h,bB true h [.int .i64,.int .i64,.int .i64,.int .i64,.int .i64,.int .i64,.int .i64,.int .i64,.int .i64,.str,.row [.str]] (ae false [.int .i64,.int .i64,.int .i64,.int .i64,.int .i64,.int .i64,.int .i64,.int .i64,.int .i64,.str,.row [.str]] l)=some l:=fun h=>hL rfl
 have hinv:(lS l).2.2=0→Inv (lS l).1 l:=fun he=>(Qj bk he).1
 unfold vv Bo K1
 rw[dH,Option.bind_some,Ci,Option.bind_some]
 rcases ak:lS l with⟨⟨fs,ls,rs,d⟩,i,e⟩
 rw[ak]at hinv
 simp only[hj,b9,bR,List.nil_append,List.length_nil]
 simp only[show Slot.own [V.slice .nil 0 0 false,V.slice .nil 0 0 false,V.slice .nil 0 0 false,V.int .i64 0] 4=fF from rfl]
 have w:=Ca (sl:=[]) (F:=ae true gN fs) (L:=ae true bN ls) (R:=ae true bN rs) (d:=d)
 have ay:H.aY (ag [fF]) (.aa 0 4 0) [.slice (ae true [.int .i64,.int .i64,.int .i64,.str,.row [.str]] fs).a fs.length fs.length true,.slice (ae true [.int .i64,.int .i64,.int .i64,.row [.int .i64,.int .i64]] ls).a ls.length ls.length true,.slice (ae true [.int .i64,.int .i64,.int .i64,.row [.int .i64,.int .i64]] rs).a rs.length rs.length true,.int .i64 d]=some (ag [bI (ae true gN fs) (ae true bN ls) (ae true bN rs) d]):=w
 rw[ay,Option.bind_some]
 by_cases he:e=0
 ·subst he
  have hi:=hinv rfl
  have gS:=hi.find n
  simp only at gS
  rw[if_pos rfl]
  simp only[decide_true,Bool.not_true,cond_false]
  have g0:([bI (ae true gN fs) (ae true bN ls) (ae true bN rs) d]:List Slot)[0]? =some (bI (ae true gN fs) (ae true bN ls) (ae true bN rs) d):=rfl
  rw[rr g0,Option.bind_some]
  have af:bB true (ag [bI (ae true gN fs) (ae true bN ls) (ae true bN rs) d]) [.int .i64,.int .i64,.int .i64,.row [.int .i64,.int .i64]] (ae true bN ls)=some ls:=hL rfl
  rw[af,Option.bind_some,gS,Option.bind_some]
  rcases bH:cL ls n with⟨⟨f0,f1,f2,f3⟩,rZ⟩
  simp only[b9,bR,show Slot.own [V.int .i64 0,V.int .i64 0,V.int .i64 0,V.slice .nil 0 0 false] 4=aA bX from rfl]
  have w1:=jU (sl:=[bI (ae true gN fs) (ae true bN ls) (ae true bN rs) d]) (x:=(f0,f1,f2,ae true aD f3))
  simp only[bZ,hg,hf]at w1
  rw[w1,Option.bind_some]
  cases rZ with
  |false=>rfl
  |true=>
   simp only[Bool.not_true,cond_false,if_true]
   have aG:([bI (ae true gN fs) (ae true bN ls) (ae true bN rs) d]++[aA (f0,f1,f2,ae true aD f3)])[([bI (ae true gN fs) (ae true bN ls) (ae true bN rs) d]:List Slot).length]? =some (aA (f0,f1,f2,ae true aD f3)):=rfl
   rw[(ic aG).2.2.2,Option.bind_some,Option.bind_some]
   try simp -implicitDefEqProofs only[aF,reduceIte,av,az,aB,ax,an.un,aj.un,ai.un,LT.un,ab.un,ab.plain,LT.plain,jQ]
 ·rw[if_neg he,decide_eq_false he]
  rfl
def jL(y:Int):Int:=y/4-y/100+y/400
def dC(y:Int):Int:=365*(y-1900)+jL (y-1)-460
def sH(y:Int):Bool:=decide (y %4=0)&&(!decide (y %100=0)||decide (y %400=0))
def lX(y:Int):Int:=if sH y=true then 1 else 0
theorem JX{y:Int}(h:1≤y):jL y=jL (y-1)+lX y:=by
 unfold jL lX sH
 by_cases aI:y %4=0
 ·by_cases Mb:y %100=0
  ·by_cases G0:y %400=0
   ·simp[aI,Mb,G0];omega
   ·simp[aI,Mb,G0];omega
  ·have G0:¬y %400=0:=by omega
   simp[aI,Mb,G0];omega
 ·simp[aI];omega
theorem Kj(y:Int):0≤lX y∧lX y≤1:=by unfold lX;split<;>omega
theorem F0{a b:Int}(h1:0≤a)(h:a≤b):jL a≤jL b:=by unfold jL;omega
def UE:List Int:=[0,0,31,59,90,120,151,181,212,243,273,304,334,365]
def fk(y:Int)(m:Nat):Int:=(UE[m]?).getD 0+if 2<m then lX y else 0
def zT:List Int:=[0,31,28,31,30,31,30,31,31,30,31,30,31]
def il(y:Int)(m:Nat):Int:=if m=2∧sH y=true then 29 else (zT[m]?).getD 0
theorem Cb{P:Nat→Prop}(h:P 1∧P 2∧P 3∧P 4∧P 5∧P 6∧P 7∧P 8∧P 9∧P 10∧P 11∧P 12)(m:Nat)(h1:1≤m)(h2:m≤12):P m:=by
 obtain⟨a,b,c,d,e,f,g,i,j,k,l,n⟩:=h
 have:m=1∨m=2∨m=3∨m=4∨m=5∨m=6∨m=7∨m=8∨m=9∨m=10∨m=11∨m=12:=by omega
 rcases this with rfl |rfl |rfl |rfl |rfl |rfl |rfl |rfl |rfl |rfl |rfl |rfl<;>assumption
theorem Rx(y:Int)(m:Nat)(h1:1≤m)(h2:m≤12):fk y (m+1)=fk y m+il y m:=by
 refine Cb (P:=fun m=>fk y (m+1)=fk y m+il y m) ?_ m h1 h2
 unfold fk il lX
 cases sH y<;>refine⟨rfl,rfl,rfl,rfl,rfl,rfl,rfl,rfl,rfl,rfl,rfl,rfl⟩
theorem B3(y:Int)(m:Nat)(h1:1≤m)(h2:m≤12):28≤il y m∧il y m≤31:=by
 refine Cb (P:=fun m=>28≤il y m∧il y m≤31) ?_ m h1 h2
 unfold il
 cases sH y<;>refine⟨?_, ?_, ?_, ?_, ?_, ?_, ?_, ?_, ?_, ?_, ?_, ?_⟩<;>exact ⟨by decide,by decide⟩
theorem QY(y:Int)(m:Nat)(h1:1≤m)(h2:m≤13):0≤fk y m∧fk y m≤366:=by
 have bF:=Kj y
 by_cases cM:m=13
 ·subst cM
  unfold fk
  show 0≤(365:Int)+(if 2<13 then lX y else 0)∧_
  rw[if_pos (by omega)];exact ⟨by omega,by show(365:Int)+lX y≤366;omega⟩
 ·refine Cb (P:=fun m=>0≤fk y m∧fk y m≤366) ?_ m h1 (by omega)
  unfold fk
  refine⟨?_, ?_, ?_, ?_, ?_, ?_, ?_, ?_, ?_, ?_, ?_, ?_⟩
  all_goals (simp only[UE,List.getElem?_cons_zero,List.getElem?_cons_succ,Option.getD_some];split<;>omega)
theorem PC(n:Int)(aO:0≤n)(h1:n≤100000):vl n=some (jL n):=by
 unfold vl A3 jL
 try simp -implicitDefEqProofs only[aF,reduceIte,av,az,aB,ax,an.un,aj.un,ai.un,LT.un,ab.un,ab.plain,LT.plain]
 rw[Int.tdiv_eq_ediv_of_nonneg aO,Int.tdiv_eq_ediv_of_nonneg aO,Int.tdiv_eq_ediv_of_nonneg aO]
 rw[IntWalk.i64_in (n/4) (by omega),IntWalk.i64_in (n/100) (by omega),IntWalk.i64_in (n/400) (by omega),IntWalk.i64_in (n/4-n/100) (by omega),IntWalk.i64_in _ (by omega)]
theorem FG(y:Int)(aO:1≤y)(h1:y≤10000):r4 y=some (dC y):=by
 unfold r4 A9 dC
 try simp -implicitDefEqProofs only[aF,reduceIte,av,az,aB,ax,an.un,aj.un,ai.un,LT.un,ab.un,ab.plain,LT.plain]
 rw[IntWalk.i64_in (y-1) (by omega),PC _ (by omega) (by omega),PC 1899 (by omega) (by omega)]
 try simp -implicitDefEqProofs only[aF,reduceIte,av,az,aB,ax,an.un,aj.un,ai.un,LT.un,ab.un,ab.plain,LT.plain]
 have aq:0≤jL (y-1)∧jL (y-1)≤10000:=by unfold jL;omega
 rw[show jL 1899=460 from rfl,IntWalk.i64_in (y-1900) (by omega),IntWalk.i64_in (365*(y-1900)) (by omega),IntWalk.i64_in (365*(y-1900)+jL (y-1)) (by omega),IntWalk.i64_in _ (by omega)]
theorem aan(y:Int)(h:0≤y):x3 y=some (sH y):=by
 unfold x3 Bh sH
 try simp -implicitDefEqProofs only[aF,reduceIte,av,az,aB,ax,an.un,aj.un,ai.un,LT.un,ab.un,ab.plain,LT.plain]
 rw[Int.tmod_eq_emod_of_nonneg h,Int.tmod_eq_emod_of_nonneg h,Int.tmod_eq_emod_of_nonneg h]
 cases decide (y %4=0)<;>cases decide (y %100=0)<;>rfl
abbrev zU:List V:=[.int .i64 0,.int .i64 31,.int .i64 28,.int .i64 31,.int .i64 30,.int .i64 31,.int .i64 30,.int .i64 31,.int .i64 31,.int .i64 30,.int .i64 31,.int .i64 30,.int .i64 31]
theorem BL(y:Int)(m:Nat)(h:0≤y)(h1:1≤m)(h2:m≤12):pw y (m:Int)=some (il y m):=by
 unfold pw A_
 try simp -implicitDefEqProofs only[hj,b9,bR,List.nil_append,List.length_nil,Nat.zero_add]
 have w:H.aY (ag [.own [.int .i64 0,.int .i64 0,.int .i64 0,.int .i64 0,.int .i64 0,.int .i64 0,.int .i64 0,.int .i64 0,.int .i64 0,.int .i64 0,.int .i64 0,.int .i64 0,.int .i64 0] 13]) (.aa 0 13 0) zU=some (ag [.own zU 13]):=by
  rw[eS (g:=13) (cs:=[.int .i64 0,.int .i64 0,.int .i64 0,.int .i64 0,.int .i64 0,.int .i64 0,.int .i64 0,.int .i64 0,.int .i64 0,.int .i64 0,.int .i64 0,.int .i64 0,.int .i64 0]) (e:=13) rfl rfl (by simp)]
  rfl
 rw[w,Option.bind_some]
 have ao:([.own zU 13]:List Slot)[0]? =some (.own zU 13):=rfl
 have rd:ah (.leaf (.int .i64)) (ag [.own zU 13]) (.aa 0 13 (((m:Int)).toNat*1))=some ((zT[m]?).getD 0):=by
  rw[Int.toNat_natCast,e5 (g:=13) ao rfl]
  exact Cb (P:=fun m=>(zU[m*1]?).bind (ab.int .i64).pack=some ((zT[m]?).getD 0)) ⟨rfl,rfl,rfl,rfl,rfl,rfl,rfl,rfl,rfl,rfl,rfl,rfl⟩ m h1 h2
 unfold il
 by_cases hm:m=2
 ·subst hm
  rw[decide_eq_true (show((2:Nat):Int)=2 from rfl),cond_true,aan y h]
  try simp -implicitDefEqProofs only[Option.bind_some]
  cases sH y with
  |true=>rw[if_pos (by simp)];rfl
  |false=>
   rw[if_neg (by simp),cond_false,aS ⟨by trivial,by omega,by omega⟩,rd]
   rfl
 ·rw[decide_eq_false (show ¬(m:Int)=2 by omega),cond_false]
  try simp -implicitDefEqProofs only[Option.bind_some,cond_false]
  rw[if_neg (fun h=>hm h.1),aS ⟨by trivial,by omega,by omega⟩,rd]
  rfl
abbrev d3(y m d:Int):Slot:=.own [.int .i64 y,.int .i64 m,.int .i64 d] 3
section
variable{sl:List Slot}{i:Nat}{y m d:Int}
theorem im(h:sl[i]? =some (d3 y m d)):ah (.leaf (.int .i64)) (ag sl) (.aa i 3 0)=some y∧ah (.leaf (.int .i64)) (ag sl) (.aa i 3 1)=some m∧ah (.leaf (.int .i64)) (ag sl) (.aa i 3 2)=some d∧ah (.agg [.int .i64,.int .i64,.int .i64]) (ag sl) (.aa i 3 0)=some (y,m,d):=by
 refine⟨by rw[e5 (g:=3) h rfl];rfl,by rw[e5 (g:=3) h rfl];rfl,by rw[e5 (g:=3) h rfl];rfl, ?_⟩
 rw[oQ (by simp),fO,h]
 rfl
theorem zV(h:sl[i]? =some (d3 y m d))(v:Int):H.aY (ag sl) (.aa i 3 0) [.int .i64 v]=some (ag (sl.set i (d3 v m d)))∧H.aY (ag sl) (.aa i 3 1) [.int .i64 v]=some (ag (sl.set i (d3 y v d)))∧H.aY (ag sl) (.aa i 3 2) [.int .i64 v]=some (ag (sl.set i (d3 y m v))):=by
 refine⟨?_, ?_, ?_⟩<;>(rw[eS (g:=3) h rfl (by simp)];rfl)
theorem K2(h:sl[i]? =some (d3 y m d))(a b c:Int):H.aY (ag sl) (.aa i 3 0) [.int .i64 a,.int .i64 b,.int .i64 c]=some (ag (sl.set i (d3 a b c))):=by rw[eS (g:=3) h rfl (by simp)];rfl
end
theorem YH(k:Int)(h:0≤k):dC (1900+k/366)≤k:=by unfold dC jL;omega
theorem Ry (day:Int)(aO:0≤day)(h1:day≤100000):∃(y:Int) (m:Nat) (d:Int),qW day=some (y,(m:Int),d)∧1900≤y∧y≤2200∧dC y≤day∧day<dC (y+1)∧1≤m∧m≤12∧1≤d∧d≤il y m∧day=dC y+fk y m+d-1:=by
 unfold qW kV
 try simp -implicitDefEqProofs only[hj,b9,bR,List.nil_append,List.length_nil,List.length_cons,Nat.zero_add,List.cons_append]
 have aG:([d3 0 0 0,d3 0 0 0]:List Slot)[1]? =some (d3 0 0 0):=rfl
 have w1:=K2 aG (1900+day/366) 1 1
 rw[Int.tdiv_eq_ediv_of_nonneg aO,IntWalk.i64_in (day/366) (by omega),IntWalk.i64_in (1900+day/366) (by omega),w1,Option.bind_some]
 obtain⟨x,aw,y,rfl,bb,cc,cj,iY⟩:=ft (f:=kV.aZ day (ag [d3 0 0 0]))
  (Inv:=fun st=>∃y:Int,st=((),ag [d3 0 0 0,d3 y 1 1])∧1900≤y∧dC y≤day)
  (Post:=fun x=>∃y:Int,x=(.aP (),ag [d3 0 0 0,d3 y 1 1])∧1900≤y∧y≤2200∧dC y≤day∧day<dC (y+1)) (fun st=>(2300-((ah (.leaf (.int .i64)) st.2 (.aa 1 3 0)).getD 0)).toNat) (fun st a6=>by
   obtain⟨y,rfl,aK,aE⟩:=a6
   have e2:([d3 0 0 0,d3 y 1 1]:List Slot)[1]? =some (d3 y 1 1):=rfl
   have UF:y≤2200:=by unfold dC jL at aE;omega
   by_cases aM:dC (y+1)≤day
   ·left
    have bP:([d3 0 0 0,d3 (y+1) 1 1]:List Slot)[1]? =some (d3 (y+1) 1 1):=rfl
    refine⟨((),ag [d3 0 0 0,d3 (y+1) 1 1]), ?_,⟨y+1,rfl,by omega,aM⟩, ?_⟩
    ·unfold kV.aZ
     try simp -implicitDefEqProofs only[bR,List.length_cons,List.length_nil,Nat.zero_add]
     rw[(im e2).1,Option.bind_some,IntWalk.i64_in (y+1) (by omega),FG _ (by omega) (by omega),Option.bind_some,decide_eq_true aM,cond_true,Option.bind_some,IntWalk.i64_in (y+1) (by omega),(zV e2 (y+1)).1]
     rfl
    ·simp only[(im e2).1,(im bP).1,Option.getD_some]
     omega
   ·right
    refine⟨(.aP (),ag [d3 0 0 0,d3 y 1 1]), ?_,y,rfl,aK,UF,aE,by omega⟩
    unfold kV.aZ
    try simp -implicitDefEqProofs only[bR,List.length_cons,List.length_nil,Nat.zero_add]
    rw[(im e2).1,Option.bind_some,IntWalk.i64_in (y+1) (by omega),FG _ (by omega) (by omega),Option.bind_some,decide_eq_false aM,cond_false]) bd ((),ag [d3 0 0 0,d3 (1900+day/366) 1 1]) ⟨_,rfl,by omega,YH day aO⟩ (dj (by
     have e2:([d3 0 0 0,d3 (1900+day/366) 1 1]:List Slot)[1]? =some (d3 (1900+day/366) 1 1):=rfl
     simp only[(im e2).1,Option.getD_some]
     omega))
 have ng:0≤dC y:=by unfold dC jL;omega
 have Nv:iter bd (kV.aZ day (ag [d3 0 0 0])) ((),ag ([d3 0 0 0,d3 0 0 0].set 1 (d3 (1900+day/366) 1 1)))=_:=aw
 rw[Nv,Option.bind_some]
 have e2:([d3 0 0 0,d3 y 1 1]:List Slot)[1]? =some (d3 y 1 1):=rfl
 simp only
 rw[(im e2).1,Option.bind_some,FG y (by omega) (by omega),Option.bind_some,IntWalk.i64_in _ (by omega)]
 have aj2:dC (y+1)=dC y+365+lX y:=by
  have:=JX (y:=y) (by omega)
  unfold dC
  rw[show y+1-1=y by omega,this]
  omega
 have cM:fk y 13=365+lX y:=by unfold fk;rw[if_pos (by omega)];rfl
 obtain⟨x,cy,m,r,rfl,fo,jy,AQ,HU⟩:=ft (f:=kV.cl (ag [d3 0 0 0]))
  (Inv:=fun st=>∃m:Nat,st=(day-dC y-fk y m,ag [d3 0 0 0,d3 y m 1])∧1≤m∧m≤12∧fk y m≤day-dC y)
  (Post:=fun x=>∃(m:Nat) (r:Int),x=(.aP r,ag [d3 0 0 0,d3 y m 1])∧1≤m∧m≤12∧(0≤r∧r<il y m)∧day-dC y=fk y m+r) (fun st=>(st.1+1).toNat) (fun st a6=>by
   obtain⟨m,rfl,qB,iq,MB⟩:=a6
   have y9:=Rx y m qB iq
   have hlen:=B3 y m qB iq
   have DO:=QY y m qB (by omega)
   have bP:([d3 0 0 0,d3 y m 1]:List Slot)[1]? =some (d3 y m 1):=rfl
   by_cases aM:il y m≤day-dC y-fk y m
   ·left
    have af1:m+1≤12:=by
     by_cases cX:m=12
     ·subst cX
      rw[cM]at y9
      omega
     ·omega
    refine⟨(day-dC y-fk y (m+1),ag [d3 0 0 0,d3 y ((m+1:Nat):Int) 1]), ?_,⟨m+1,rfl,by omega,af1,by omega⟩,by simp only;omega⟩
    unfold kV.cl
    try simp -implicitDefEqProofs only[bR,List.length_cons,List.length_nil,Nat.zero_add]
    rw[(im bP).1,Option.bind_some,(im bP).2.1,Option.bind_some,BL y m (by omega) qB iq,Option.bind_some,decide_eq_true aM,cond_true,Option.bind_some,Option.bind_some,BL y m (by omega) qB iq,Option.bind_some,Option.bind_some,IntWalk.i64_in ((m:Int)+1) (by omega),(zV bP ((m:Int)+1)).2.1,Option.bind_some,IntWalk.i64_in _ (by omega)]
    have:day-dC y-fk y m-il y m=day-dC y-fk y (m+1):=by omega
    rw[this]
    rfl
   ·right
    refine⟨(.aP (day-dC y-fk y m),ag [d3 0 0 0,d3 y m 1]), ?_,m,_,rfl,qB,iq,⟨by omega,by omega⟩,by omega⟩
    unfold kV.cl
    try simp -implicitDefEqProofs only[bR,List.length_cons,List.length_nil,Nat.zero_add]
    rw[(im bP).1,Option.bind_some,(im bP).2.1,Option.bind_some,BL y m (by omega) qB iq,Option.bind_some,decide_eq_false aM,cond_false]) bd (day-dC y-fk y 1,ag [d3 0 0 0,d3 y ((1:Nat):Int) 1]) ⟨1,rfl,Nat.le_refl _,by omega,by show(0:Int)≤_;omega⟩ (dj (by show((day-dC y-0+1).toNat)<_;omega))
 have aiX:iter bd (kV.cl (ag [d3 0 0 0])) (day-dC y,ag [d3 0 0 0,d3 y 1 1])=some (.aP r,ag [d3 0 0 0,d3 y m 1]):=by
  have:day-dC y-fk y 1=day-dC y:=by show day-dC y-0=_;omega
  rw[this]at cy
  exact cy
 rw[aiX,Option.bind_some]
 have eC:([d3 0 0 0,d3 y m 1]:List Slot)[1]? =some (d3 y m 1):=rfl
 have hlen:=B3 y m fo jy
 simp only
 rw[(im eC).2.2.1,Option.bind_some,IntWalk.i64_in (1+r) (by omega),(zV eC (1+r)).2.2,Option.bind_some]
 have lB:(([d3 0 0 0,d3 y m 1]:List Slot).set 1 (d3 y m (1+r)))[1]? =some (d3 y m (1+r)):=rfl
 rw[(im lB).2.2.2,Option.bind_some]
 have nt:(([d3 0 0 0,d3 y m 1]:List Slot).set 1 (d3 y m (1+r)))[0]? =some (d3 0 0 0):=rfl
 rw[K2 nt,Option.bind_some]
 have NT:((([d3 0 0 0,d3 y m 1]:List Slot).set 1 (d3 y m (1+r))).set 0 (d3 y m (1+r)))[0]? =some (d3 y m (1+r)):=rfl
 simp only
 rw[(im NT).2.2.2,Option.bind_some]
 exact ⟨y,m,1+r,rfl,bb,cc,cj,iY,fo,jy,by omega,by omega,by omega⟩
theorem YI(y:Int)(m:Nat)(d:Int)(aK:1≤y)(UF:y≤5000)(h1:1≤m)(h2:m≤12)(bF:0≤d)(uV:d≤40):xX (y,(m:Int),d)=some (dC y+fk y m+d-1):=by
 unfold xX qV
 try simp -implicitDefEqProofs only[hj,b9,bR,List.nil_append,List.length_nil,gk]
 have aG:([d3 y m d]:List Slot)[0]? =some (d3 y m d):=rfl
 have aE:-1000000≤dC y∧dC y≤5000000:=by unfold dC jL;omega
 rw[(im aG).1,Option.bind_some,FG y aK (by omega),Option.bind_some,(im aG).2.2.1,Option.bind_some,IntWalk.i64_in (dC y+d) (by omega),IntWalk.i64_in (dC y+d-1) (by omega)]
 have loop:=kr (f:=qV.aZ (ag [])) (x:=(bG.aP (dC y+d-1+fk y m),ag [d3 y m d])) (s0:=((dC y+d-1,(1:Int)),ag [d3 y m d])) (fun i=>((dC y+d-1+fk y (i+1),((i+1:Nat):Int)),ag [d3 y m d])) (by show((dC y+d-1+0,(1:Int)),_)=_;rw[Int.add_zero]) (m-1) bd (fun i hi=>by
  have a6:=Rx y (i+1) (by omega) (by omega)
  have DO:=QY y (i+1) (by omega) (by omega)
  have aq:=B3 y (i+1) (by omega) (by omega)
  unfold qV.aZ
  try simp -implicitDefEqProofs only[bR,List.length_nil]
  rw[(im aG).2.1,Option.bind_some,decide_eq_true (by omega),cond_true,(im aG).1,Option.bind_some,BL y (i+1) (by omega) (by omega) (by omega),Option.bind_some,IntWalk.i64_in _ (by omega),IntWalk.i64_in _ (by omega)]
  have a1:dC y+d-1+fk y (i+1)+il y (i+1)=dC y+d-1+fk y (i+1+1):=by omega
  rw[a1]
  rfl) (by
  unfold qV.aZ
  try simp -implicitDefEqProofs only[bR,List.length_nil]
  rw[(im aG).2.1,Option.bind_some,decide_eq_false (by omega),cond_false,show m-1+1=m by omega]) (dj (by omega))
 rw[loop,Option.bind_some]
 have:dC y+d-1+fk y m=dC y+fk y m+d-1:=by omega
 rw[this]
 try simp -implicitDefEqProofs only[aF,reduceIte,av,az,aB,ax,an.un,aj.un,ai.un,LT.un,ab.un,ab.plain,LT.plain]
theorem SA(n:Int):vt n=some (decide (0≤n∧n≤100000)):=by
 unfold vt Bm
 try simp -implicitDefEqProofs only[aF,reduceIte,av,az,aB,ax,an.un,aj.un,ai.un,LT.un,ab.un,ab.plain,LT.plain]
 by_cases h1:0≤n
 ·rw[decide_eq_true (show(0:Int)≤n from h1),cond_true]
  try simp -implicitDefEqProofs only[aF,reduceIte,av,az,aB,ax,an.un,aj.un,ai.un,LT.un,ab.un,ab.plain,LT.plain]
  by_cases h2:n≤100000
  ·rw[decide_eq_true h2,decide_eq_true (show 0≤n∧n≤100000 from⟨h1,h2⟩)]
  ·rw[decide_eq_false h2,decide_eq_false (show ¬(0≤n∧n≤100000)from fun h=>h2 h.2)]
 ·rw[decide_eq_false (show ¬(0:Int)≤n from h1),cond_false,decide_eq_false (show ¬(0≤n∧n≤100000)from fun h=>h1 h.1)]
  try simp -implicitDefEqProofs only[aF,reduceIte,av,az,aB,ax,an.un,aj.un,ai.un,LT.un,ab.un,ab.plain,LT.plain]
theorem ZD{day n y:Int}{m:Nat}{d:Int}(bF:qW day=some (y,(m:Int),d))(aK:1900≤y∧y≤2200)(hm:1≤m∧m≤12)(akW:1≤d∧d≤31)(aM:0≤n∧n≤400):
  x1 day (12*n)=some (dC (y+n)+fk (y+n) m+min (il (y+n) m) d-1):=by
 have aq:=B3 (y+n) m hm.1 hm.2
 unfold x1 Bc
 rw[bF,Option.bind_some]
 try simp -implicitDefEqProofs only[hj,b9,bR,List.nil_append,List.length_nil,gk]
 have aG:([d3 0 0 0]:List Slot)[0]? =some (d3 0 0 0):=rfl
 rw[K2 aG,Option.bind_some]
 have e2:(([d3 0 0 0]:List Slot).set 0 (d3 y m d))[0]? =some (d3 y m d):=rfl
 rw[(im e2).1,Option.bind_some,(im e2).2.1,Option.bind_some]
 rw[IntWalk.i64_in (12*y) (by omega),IntWalk.i64_in (12*y+m) (by omega),IntWalk.i64_in (12*y+m-1) (by omega),IntWalk.i64_in (12*y+m-1+12*n) (by omega)]
 rw[Int.tdiv_eq_ediv_of_nonneg (by omega),Int.tmod_eq_emod_of_nonneg (by omega)]
 rw[show(12*y+(m:Int)-1+12*n)/12=y+n by omega,show(12*y+(m:Int)-1+12*n)%12+1=m by omega,IntWalk.i64_in (y+n) (by omega),IntWalk.i64_in (m:Int) (by omega),(zV e2 (y+n)).1,Option.bind_some]
 have bP:((([d3 0 0 0]:List Slot).set 0 (d3 y m d)).set 0 (d3 (y+n) m d))[0]? =some (d3 (y+n) m d):=rfl
 rw[(zV bP m).2.1,Option.bind_some]
 have eC:(((([d3 0 0 0]:List Slot).set 0 (d3 y m d)).set 0 (d3 (y+n) m d)).set 0 (d3 (y+n) m d))[0]? =some (d3 (y+n) m d):=rfl
 rw[(im eC).2.2.1,Option.bind_some,(im eC).1,Option.bind_some,(im eC).2.1,Option.bind_some,BL (y+n) m (by omega) hm.1 hm.2,Option.bind_some,Z7,Int.min_comm,(zV eC _).2.2,Option.bind_some]
 have lB:((((([d3 0 0 0]:List Slot).set 0 (d3 y m d)).set 0 (d3 (y+n) m d)).set 0 (d3 (y+n) m d)).set 0 (d3 (y+n) m (min (il (y+n) m) d)))[0]? =some (d3 (y+n) m (min (il (y+n) m) d)):=rfl
 rw[(im lB).2.2.2,Option.bind_some]
 simp only
 rw[YI (y+n) m _ (by omega) (by omega) hm.1 hm.2 (by omega) (by omega),Option.bind_some]
 try simp -implicitDefEqProofs only[aF,reduceIte,av,az,aB,ax,an.un,aj.un,ai.un,LT.un,ab.un,ab.plain,LT.plain]
theorem Rz(y:Int)(m:Nat)(h1:1≤m)(h2:m≤12):il y m=(zT[m]?).getD 0+if m=2 then lX y else 0:=by
 refine Cb (P:=fun m=>il y m=(zT[m]?).getD 0+if m=2 then lX y else 0) ?_ m h1 h2
 unfold il lX
 cases sH y<;>exact ⟨rfl,rfl,rfl,rfl,rfl,rfl,rfl,rfl,rfl,rfl,rfl,rfl⟩
theorem YJ{y n d:Int}{m:Nat}(aK:1900≤y)(aM:0≤n)(hm:1≤m∧m≤12)(bF:1≤d∧d≤il y m):
  dC y+fk y m+d-1+365*n≤dC (y+n)+fk (y+n) m+min (il (y+n) m) d-1:=by
 have aE:dC (y+n)=dC y+365*n+(jL (y+n-1)-jL (y-1)):=by unfold dC;omega
 have s1:=JX (y:=y) (by omega)
 have s2:=JX (y:=y+n) (by omega)
 have fo:=F0 (a:=y) (b:=y+n) (by omega) (by omega)
 have alk:=F0 (a:=y-1) (b:=y+n-1) (by omega) (by omega)
 have d1:=Kj y
 have d2:=Kj (y+n)
 have iz:=Rz y m hm.1 hm.2
 have hH:=Rz (y+n) m hm.1 hm.2
 have aw:fk (y+n) m-fk y m=if 2<m then lX (y+n)-lX y else 0:=by unfold fk;split<;>omega
 by_cases h2:m=2
 ·subst h2
  rw[if_neg (by omega)]at aw
  rw[if_pos rfl]at iz hH
  have bt:(zT[2]?).getD 0=28:=rfl
  rw[bt]at iz hH
  by_cases aO:n=0
  ·subst aO
   rw[Int.add_zero]at*
   omega
  ·have jy:=F0 (a:=y) (b:=y+n-1) (by omega) (by omega)
   omega
 ·rw[if_neg h2]at iz hH
  by_cases h3:2<m
  ·rw[if_pos h3]at aw
   omega
  ·rw[if_neg h3]at aw
   omega
theorem QZ{a b:Int}(h:1900≤a)(oc:a≤b):dC a+365*(b-a)≤dC b:=by
 have:=F0 (a:=a-1) (b:=b-1) (by omega) (by omega)
 unfold dC
 omega
theorem ZE(a b:Int):∃n e,vp a b=some (n,e)∧(e=0→0≤a∧a≤b∧b≤100000∧365*n≤b-a∧-1≤n):=by
 unfold vp Bd
 try simp -implicitDefEqProofs only[]
 rw[SA a,SA b]
 by_cases bD:0≤a∧a≤100000
 ·by_cases aE:0≤b∧b≤100000
  ·rw[decide_eq_true bD,decide_eq_true aE]
   try simp -implicitDefEqProofs only[Option.bind_some,Bool.not_true,cond_false,Bool.not_false,cond_true]
   by_cases oc:b<a
   ·rw[decide_eq_true oc]
    exact ⟨0,5,rfl,fun h=>by cases h⟩
   ·rw[decide_eq_false oc,cond_false]
    obtain⟨y,m,d,aw,aH,aW,bq,bU,ek,lD,U4,ajU,akX⟩:=Ry a bD.1 bD.2
    obtain⟨gK,qC,rW,cy,dd,dF,gy,ki,jM,pq,alm,aln,akY⟩:=Ry b aE.1 aE.2
    have hle:y≤gK:=by
     by_cases h:y≤gK
     ·exact h
     ·have:=QZ (a:=gK+1) (b:=y) (by omega) (by omega)
      omega
    have hlen:=B3 y m ek lD
    rw[cy,Option.bind_some,aw,Option.bind_some]
    simp only
    rw[IntWalk.i64_in (gK-y) (by omega),IntWalk.i64_in (12*(gK-y)) (by omega),ZD aw ⟨aH,aW⟩ ⟨ek,lD⟩ ⟨U4,by omega⟩ ⟨by omega,by omega⟩,Option.bind_some]
    have akg:=YJ (y:=y) (n:=gK-y) (d:=d) (m:=m) aH (by omega) ⟨ek,lD⟩ ⟨U4,ajU⟩
    by_cases bn:b<dC (y+(gK-y))+fk (y+(gK-y)) m+min (il (y+(gK-y)) m) d-1
    ·rw[decide_eq_true bn,cond_true,Option.bind_some,IntWalk.i64_in (gK-y-1) (by omega)]
     refine⟨gK-y-1,0,rfl,fun _=>⟨bD.1,by omega,aE.2, ?_,by omega⟩⟩
     by_cases Tt:y=gK
     ·omega
     ·have:=QZ (a:=y+1) (b:=gK) (by omega) (by omega)
      omega
    ·rw[decide_eq_false bn,cond_false,Option.bind_some]
     exact ⟨gK-y,0,rfl,fun _=>⟨bD.1,by omega,aE.2,by omega,by omega⟩⟩
  ·rw[decide_eq_true bD,decide_eq_false aE]
   exact ⟨0,2,rfl,fun h=>by cases h⟩
 ·rw[decide_eq_false bD]
  exact ⟨0,2,rfl,fun h=>by cases h⟩
theorem ZF{f:dV}(h:jY f=true):gC jD (1,1,0,1,1,1,f)=(([f],[(1,1,1,[(f.1,1)])],[],1),0):=by
 have ak:ru (1,1,0,1,1,1,f)=true:=by
  unfold ru
  show((ck 1&&(!decide ((1:Int)<1)&&!decide ((128849018880000:Int)<1)))&&(if(1:Int)=1 then decide ((0:Int)=0)&&(ck 1&&(decide ((1:Int)≤1)&&(decide ((1:Int)≤10737418240000)&&jY f)))else _))=true
  rw[if_pos rfl,h]
  rfl
 unfold gC
 rw[if_pos ak,if_neg (show ¬(1:Int)≤0 by omega)]
 have a6:fW jD (1,1,0,1,1,1,f)=([f],[(1,1,1,[(f.1,1)])],[],0):=by
  unfold fW
  rw[if_pos rfl]
  rfl
 rw[a6]
 rfl
theorem ZG{xs:List bK}(h:rk xs)(aq:xs.length≤32):jV xs=0:=by
 refine V9 aq fun i hi=>?_
 have hx:=h.all _ (JO hi)
 unfold k6
 rw[if_pos hx.1]
 have ji:oneOf (jt xs i)=0:=OY hx.2.1 hx.2.2.1 hx.2.2.2.1 hx.2.2.2.2
 rw[if_neg,ji]
 rintro⟨aO,h1⟩
 have:=List.pairwise_iff_getElem.1 h.sort (i-1) i (by omega) hi (by omega)
 rw[sj hi|>fun e=>(Option.some.inj (e.symm.trans (List.getElem?_eq_getElem hi))),sj (show i-1<xs.length by omega)|>fun e=>(Option.some.inj (e.symm.trans (List.getElem?_eq_getElem (show i-1<xs.length by omega))))]at h1
 omega
theorem JY{b:Bool}{h:H}{fs:List dV}{i:Nat}{f:dV}(hx:fs[i]? =some f):ah (.agg cR) h (V.add (ae b bT fs).a (i*5))=some (bl b f):=by
 rw[FU (ls:=bT) (xs:=fs) (w:=5) (ms:=cR) rfl rfl (by omega),hx]
 rfl
theorem ZH{b:Bool}{h:H}{fs:List dV}{i:Nat}{f:dV}(hx:fs[i]? =some f):ah (.leaf (.int .i64)) h (V.add (V.add (ae b bT fs).a (i*5)) 0)=some f.1:=by
 rw[add_zero,FT (ls:=bT) (xs:=fs) (w:=5) rfl (by omega),hx]
 rfl
theorem WG{b:Bool}{h h8:H}{sl:List Slot}{p m:Nat}{L R:au}{d:Int}{fs:List dV}(aa:h.next=p)(hm:h8.next=m)(s0:sl[p]? =some (bI (ae b bT fs) L R d))(s1:sl[m]? =some (dI []))(gv:p≠m)(ad:(fs.map (·.1)).Pairwise (· <·))(db:∀f∈fs,jY f=true∧lx f)(aq:fs.length≤64):
  ∃aC,iter bd (fU.aZ h h8 (ae b bT fs)) (0,ag sl)=some (.aP (),ag aC)∧aC[m]? =some (dI (fs.map fun f=>(f.1,bl b f)))∧sl.length≤aC.length∧∀j,j≠m→j<sl.length→aC[j]? =sl[j]?:=by
 have jG:=(List.getElem?_eq_some_iff.1 s0).1
 have fQ:=(List.getElem?_eq_some_iff.1 s1).1
 obtain⟨x,aw,aC,rfl,aH,aW,bq⟩:=ft (f:=fU.aZ h h8 (ae b bT fs))
  (Inv:=fun st=>∃(i:Nat) (aC:List Slot),st=((i:Int),ag aC)∧i≤fs.length∧aC[m]? =some (dI ((fs.take i).map fun f=>(f.1,bl b f)))∧sl.length≤aC.length∧∀j,j≠m→j<sl.length→aC[j]? =sl[j]?)
  (Post:=fun x=>∃aC,x=(.aP (),ag aC)∧aC[m]? =some (dI (fs.map fun f=>(f.1,bl b f)))∧sl.length≤aC.length∧∀j,j≠m→j<sl.length→aC[j]? =sl[j]?) (fun st=>fs.length-st.1.toNat) (fun st a6=>by
   obtain⟨i,T,rfl,hi,t1,t2,t3⟩:=a6
   have t0:T[p]? =some (bI (ae b bT fs) L R d):=by rw[t3 p gv jG];exact s0
   by_cases bn:i<fs.length
   ·left
    have hx:fs[i]? =some fs[i]:=List.getElem?_eq_getElem bn
    obtain⟨lk,kF⟩:=db _ (List.getElem_mem bn)
    have v0:∀ext:List Slot,(T++ext)[p]? =some (bI (ae b bT fs) L R d):=fun ext=>by rw[List.getElem?_append_left (by omega)];exact t0
    have v1:∀ext:List Slot,(T++ext)[m]? =some (dI ((fs.take i).map fun f=>(f.1,bl b f))):=fun ext=>by rw[List.getElem?_append_left (by omega)];exact t1
    have aQ:(T++[bA (bl b fs[i])])[T.length]? =some (bA (bl b fs[i])):=by simp
    have halt:=R7 (T:=fU.tb.t) (s:=(1,1,0,1,1,1,fs[i])) (al:=ae b [.str] fs[i].2.2.2.2) (h:=ag (T++[bA (bl b fs[i])])) np.none (hL rfl) (Inv.none.Uy (by simp)) kF
    rw[ZF lk]at halt
    generalize kE:(([fs[i]],[(1,1,1,[(fs[i].1,1)])],[],1):e3)=bg at halt
    generalize h6:bI (ae true gN bg.1) (ae true bN bg.2.1) (ae true bN bg.2.2.1) bg.2.2.2=C
    have LZ:(T++[bA (bl b fs[i])])++[C]=T++[bA (bl b fs[i]),C]:=by simp
    have hA:(T++[bA (bl b fs[i]),C])[T.length]? =some (bA (bl b fs[i])):=by simp
    have Hy:∀q∈(fs.take i).map (fun f=>(f.1,bl b f)),q.1≠fs[i].1:=fun q aV e=>by
     obtain⟨g,hA,rfl⟩:=List.mem_map.1 aV
     obtain⟨k,aN,rfl⟩:=List.getElem_of_mem hA
     simp only[List.length_take]at aN
     have:=List.pairwise_iff_getElem.1 ad k i (by simp;omega) (by simpa using bn) (by omega)
     simp only[List.getElem_map]at this
     rw[List.getElem_take]at e
     simp only at e
     omega
    refine⟨(((i+1:Nat):Int),ag ((T++[bA (bl b fs[i]),C]).set m (dI ((fs.take (i+1)).map fun f=>(f.1,bl b f))))), ?_,⟨i+1,_,rfl,by omega,List.getElem?_set_self (by simp;omega),by simp;omega,fun j aL dJ=>by rw[List.getElem?_set_ne (Ne.symm aL),List.getElem?_append_left (by omega),t3 j aL dJ]⟩,by simp only[Int.toNat_natCast];omega⟩
    unfold fU.aZ
    simp only[bZ,b9,bR,aa,hm]
    rw[decide_eq_true (show(i:Int)<(fs.length:Int) by omega),cond_true,aS (by omega),Int.toNat_natCast,JY hx,Option.bind_some]
    simp only[show Slot.own [V.int .i64 0,V.int .i64 0,V.int .i64 0,V.str ⟨#[]⟩,V.slice .nil 0 0 false] 5=bA dt from rfl]
    rw[sn (g:=bl b fs[i]),Option.bind_some,(jX aQ).2.1,Option.bind_some]
    simp only
    rw[halt,Option.bind_some]
    simp only[b9,bR,show Slot.own [V.slice .nil 0 0 false,V.slice .nil 0 0 false,V.slice .nil 0 0 false,V.int .i64 0] 4=fF from rfl]
    rw[Ca (sl:=T++[bA (bl b fs[i])]),h6,LZ,Option.bind_some]
    have zR:(bif !(!(decide ((0:Int)=0)))then(bif (decide ((0:Int)<(i:Int)))then((ah (.leaf .slice) (ag (T++[bA (bl b fs[i]),C])) (.aa p 4 0)).bind fun oi=>
      (aJ (0≤(IntKind.wrap .i64 ((i:Int)-1))∧(IntKind.wrap .i64 ((i:Int)-1))<((oi.len:Nat):Int)) (aJ (V.bm ((V.add oi.a (Int.toNat (IntKind.wrap .i64 ((i:Int)-1))*5)):V)=true) ((ah (.leaf (.int .i64)) (ag (T++[bA (bl b fs[i]),C])) (V.add (V.add oi.a (Int.toNat (IntKind.wrap .i64 ((i:Int)-1))*5)) 0)).bind fun lq=>
      ((ah (.leaf (.int .i64)) (ag (T++[bA (bl b fs[i]),C])) (.aa T.length 5 0)).bind fun mI=>
      (some ((decide (mI≤lq)),ag (T++[bA (bl b fs[i]),C]))))))))else (some (false,ag (T++[bA (bl b fs[i]),C]))))else (some (true,ag (T++[bA (bl b fs[i]),C]))):Option (Bool×H))=some (false,ag (T++[bA (bl b fs[i]),C])):=by
     by_cases aO:i=0
     ·subst aO;rfl
     ·rw[decide_eq_true (show(0:Int)<(i:Int) by omega)]
      simp only[decide_true,Bool.not_true,Bool.not_false,cond_true]
      have aiY:fs[i-1]? =some fs[i-1]:=List.getElem?_eq_getElem (by omega)
      rw[rq (v0 _),Option.bind_some,IntWalk.i64_in _ (by omega),aS (by rw[bZ];omega),show((i:Int)-1).toNat=i-1 by omega,aS (nL (by omega) (by simp)),ZH aiY,Option.bind_some,(jX hA).1,Option.bind_some]
      have:=List.pairwise_iff_getElem.1 ad (i-1) i (by simp;omega) (by simpa using bn) (by omega)
      simp only[List.getElem_map]at this
      rw[decide_eq_false (show ¬(bl b fs[i]).1≤fs[i-1].1 by show ¬fs[i].1≤_;omega)]
    simp only[gk]
    simp only[decide_true,Bool.not_true,Bool.not_false,cond_true]at zR⊢
    rw[zR,Option.bind_some]
    simp only[cond_false]
    rw[(jX hA).1,Option.bind_some,(jX hA).2.1,Option.bind_some]
    have ie:=Jz (x:=fs[i].1) (g:=bl b fs[i]) (v1 [bA (bl b fs[i]),C]) Hy
    simp only
    rw[ie,Option.bind_some,dO (by omega)]
    have aG:(fs.take i).map (fun f=>(f.1,bl b f))++[(fs[i].1,bl b fs[i])]=(fs.take (i+1)).map fun f=>(f.1,bl b f):=by
     rw[List.take_add_one,hx,List.map_append]
     rfl
    rw[aG]
   ·right
    have:i=fs.length:=by omega
    subst this
    rw[List.take_length]at t1
    refine⟨_, ?_,T,rfl,t1,t2,t3⟩
    unfold fU.aZ
    simp only[bZ]
    rw[decide_eq_false (by omega),cond_false]) bd ((0:Int),ag sl) ⟨0,sl,rfl,Nat.zero_le _,by rw[List.take_zero];exact s1,Nat.le_refl _,fun _ _ _=>rfl⟩ (dj (by show fs.length-0<_;omega))
 exact ⟨aC,aw,aH,aW,bq⟩
theorem yM{b:Bool}{h:H}{xs:List (Int×Int)}{i:Nat}{x:Int×Int}(hx:xs[i]? =some x):ah (.agg [.int .i64,.int .i64]) h (V.add (ae b aD xs).a (i*2))=some x:=by
 rw[q8 (ls:=aD) (w:=2) rfl (by omega) rfl];exact hx
theorem Q0(b:Bool)(fs:List dV):(fs.map fun f=>(f.1,bl b f)).map (·.1)=fs.map (·.1):=by simp[List.map_map,Function.comp_def]
theorem JA{l:List Int}(h:l.Pairwise (· <·)):l.Nodup:=h.imp fun h=>by omega
theorem WH{b b2:Bool}{h8:H}{sl:List Slot}{m:Nat}{fs:List dV}{xs:List (Int×Int)}(hm:h8.next=m)(s1:sl[m]? =some (dI (fs.map fun f=>(f.1,bl b f))))(ad:(fs.map (·.1)).Nodup)(hx:∀s∈xs,∃f∈fs,f.1=s.1)(aq:xs.length≤2^20):
  ∃ext,iter bd (fU.cl h8 (ae b2 aD xs)) (0,ag sl)=some (.aP (),ag (sl++ext)):=by
 have fQ:=(List.getElem?_eq_some_iff.1 s1).1
 obtain⟨x,aw,ext,rfl⟩:=ft (f:=fU.cl h8 (ae b2 aD xs))
  (Inv:=fun st=>∃(i:Nat) (ext:List Slot),st=((i:Int),ag (sl++ext))∧i≤xs.length)
  (Post:=fun x=>∃ext,x=(.aP (),ag (sl++ext))) (fun st=>xs.length-st.1.toNat) (fun st a6=>by
   obtain⟨i,ext,rfl,hi⟩:=a6
   by_cases bn:i<xs.length
   ·left
    have eW:xs[i]? =some xs[i]:=List.getElem?_eq_getElem bn
    obtain⟨f,lk,kF⟩:=hx _ (List.getElem_mem bn)
    refine⟨(((i+1:Nat):Int),ag (sl++(ext++[a_ xs[i],bA (bl b f)]))), ?_,⟨i+1,_,rfl,by omega⟩,by simp only[Int.toNat_natCast];omega⟩
    unfold fU.cl
    simp only[bZ,b9,bR,hm]
    rw[decide_eq_true (show(i:Int)<(xs.length:Int) by omega),cond_true,aS (by omega),Int.toNat_natCast,yM eW,Option.bind_some]
    rw[nM (x:=xs[i]),Option.bind_some]
    rw[(lR (sl:=(sl++ext)++[a_ xs[i]]) (id:=(sl++ext).length) (x:=xs[i]) (by simp)).1,Option.bind_some]
    have xq:((sl++ext)++[a_ xs[i]])[m]? =some (dI (fs.map fun f=>(f.1,bl b f))):=by rw[List.append_assoc,List.getElem?_append_left fQ];exact s1
    rw[FD (z:=dt) (g:=bl b f) xq (by rw[Q0];exact ad) (by rw[←kF];exact List.mem_map_of_mem lk),Option.bind_some]
    simp only[b9,bR,show Slot.own [V.int .i64 0,V.int .i64 0,V.int .i64 0,V.str ⟨#[]⟩,V.slice .nil 0 0 false] 5=bA dt from rfl]
    rw[sn (sl:=(sl++ext)++[a_ xs[i]]) (g:=bl b f),Option.bind_some]
    simp only[Bool.not_true,cond_false]
    rw[dO (by omega)]
    simp only[List.append_assoc,List.cons_append,List.nil_append]
   ·right
    refine⟨_, ?_,ext,rfl⟩
    have:i=xs.length:=by omega
    subst this
    unfold fU.cl
    simp only[bZ]
    rw[decide_eq_false (by omega),cond_false]) bd ((0:Int),ag sl) ⟨0,[],by rw[List.append_nil];rfl,Nat.zero_le _⟩ (dj (by show xs.length-0<_;omega))
 exact ⟨ext,aw⟩
theorem WI{b b2:Bool}{h8:H}{sl:List Slot}{m:Nat}{fs:List dV}{ls:List bK}(hm:h8.next=m)(s1:sl[m]? =some (dI (fs.map fun f=>(f.1,bl b f))))(ad:(fs.map (·.1)).Nodup)(hx:∀x∈ls,∀s∈x.2.2.2,∃f∈fs,f.1=s.1)(fR:∀x∈ls,x.2.2.2.length≤32)(aq:ls.length≤2^20):
  ∃ext,iter bd (fU.fM h8 (ae b2 aX ls)) (0,ag sl)=some (.aP (),ag (sl++ext)):=by
 have fQ:=(List.getElem?_eq_some_iff.1 s1).1
 obtain⟨x,aw,ext,rfl⟩:=ft (f:=fU.fM h8 (ae b2 aX ls))
  (Inv:=fun st=>∃(i:Nat) (ext:List Slot),st=((i:Int),ag (sl++ext))∧i≤ls.length)
  (Post:=fun x=>∃ext,x=(.aP (),ag (sl++ext))) (fun st=>ls.length-st.1.toNat) (fun st a6=>by
   obtain⟨i,ext,rfl,hi⟩:=a6
   by_cases bn:i<ls.length
   ·left
    have eW:ls[i]? =some ls[i]:=List.getElem?_eq_getElem bn
    have xq:((sl++ext)++[aA (dY b2 ls[i])])[m]? =some (dI (fs.map fun f=>(f.1,bl b f))):=by rw[List.append_assoc,List.getElem?_append_left fQ];exact s1
    obtain⟨zW,aH⟩:=WH (b2:=b2) hm xq ad (hx _ (List.getElem_mem bn)) (by have:=fR _ (List.getElem_mem bn);omega)
    refine⟨(((i+1:Nat):Int),ag (sl++(ext++([aA (dY b2 ls[i])]++zW)))), ?_,⟨i+1,_,rfl,by omega⟩,by simp only[Int.toNat_natCast];omega⟩
    unfold fU.fM
    simp only[bZ,b9,bR]
    rw[decide_eq_true (show(i:Int)<(ls.length:Int) by omega),cond_true,aS (by omega),Int.toNat_natCast,vQ eW,Option.bind_some]
    simp only
    rw[show Slot.own [V.int .i64 0,V.int .i64 0,V.int .i64 0,V.slice .nil 0 0 false] 4=aA bX from rfl]
    have w:=jU (sl:=sl++ext) (x:=dY b2 ls[i])
    rw[w,Option.bind_some]
    rw[(ic (sl:=(sl++ext)++[aA (dY b2 ls[i])]) (id:=(sl++ext).length) (x:=dY b2 ls[i]) (by simp)).2.2.2,Option.bind_some]
    rw[aH,Option.bind_some]
    simp only
    rw[dO (by omega)]
    simp only[List.append_assoc]
   ·right
    refine⟨_, ?_,ext,rfl⟩
    have:i=ls.length:=by omega
    subst this
    unfold fU.fM
    simp only[bZ]
    rw[decide_eq_false (by omega),cond_false]) bd ((0:Int),ag sl) ⟨0,[],by rw[List.append_nil];rfl,Nat.zero_le _⟩ (dj (by show ls.length-0<_;omega))
 exact ⟨ext,aw⟩
structure Sound (c:e3):Prop where
 p1:(c.1.map (·.1)).Pairwise (· <·)
 ph:∀f∈c.1,jY f=true∧lx f
 f64:c.1.length≤64
 j5:rk c.2.1
 pj:c.2.1.length≤32
 has:∀x∈c.2.1,∀s∈x.2.2.2,∃f∈c.1,f.1=s.1
theorem Inv.sound{c:e3}{l:List dK}(h:Inv c l)(aq:l.length≤64):Sound c:=⟨h.p1,h.ph,(by have:=h.L5;omega),h.j5,h.pj,fun x hx=>h.has x (.inl hx)⟩
theorem Q1{b b2:Bool}{c:e3}{R:au}{d:Int}{sl:List Slot}(ao:Sound c):
  ∃aC m,fU (ae b bT c.1,ae b2 aX c.2.1,R,d) (ag sl)=some ((some m,true),ag aC)∧aC[m]? =some (dI (c.1.map fun f=>(f.1,bl b f)))∧sl.length≤aC.length∧sl.length≤m∧∀j,j<sl.length→aC[j]? =sl[j]?:=by
 generalize h6:bI (ae b bT c.1) (ae b2 aX c.2.1) R d=C
 have s0:(sl++[C,dI []])[sl.length]? =some (bI (ae b bT c.1) (ae b2 aX c.2.1) R d):=by rw[h6];simp
 have s1:(sl++[C,dI []])[sl.length+1]? =some (dI []):=by simp
 obtain⟨T,aw,aH,aW,bq⟩:=WG (h:=ag sl) (h8:=ag (sl++[C])) (p:=sl.length) (m:=sl.length+1) bR (by rw[bR];simp) s0 s1 (by omega) ao.p1 ao.ph ao.f64
 have fR:∀x∈c.2.1,x.2.2.2.length≤32:=fun x hx=>vE (ao.j5.all x hx).2.2.2.1
 obtain⟨ext,bU⟩:=WI (b2:=b2) (h8:=ag (sl++[C])) (m:=sl.length+1) (by rw[bR];simp) aH (JA ao.p1) ao.has fR (by have:=ao.pj;omega)
 have pe:sl.length+2≤T.length:=by simpa using aW
 have t0:T[sl.length]? =some (bI (ae b bT c.1) (ae b2 aX c.2.1) R d):=by rw[bq _ (by omega) (by simp)];exact s0
 refine⟨T++ext,sl.length+1, ?_,by rw[List.getElem?_append_left (by omega)];exact aH,by simp;omega,by omega,fun j aL=>by rw[List.getElem?_append_left (by omega),bq j (by omega) (by simp;omega),List.getElem?_append_left aL]⟩
 obtain⟨j,p7⟩:=Jh c.2.1 (by have:=ao.pj;omega)
 rw[ZG ao.j5 ao.pj]at p7
 have a0:(sl++[C])[sl.length]? =some (bI (ae b bT c.1) (ae b2 aX c.2.1) R d):=by rw[h6];simp
 unfold fU
 simp only[b9,bR]
 simp only[show Slot.own [.slice (ae b bT c.1).a (ae b bT c.1).len (ae b bT c.1).cap (ae b bT c.1).tail,.slice (ae b2 aX c.2.1).a (ae b2 aX c.2.1).len (ae b2 aX c.2.1).cap (ae b2 aX c.2.1).tail,.slice R.a R.len R.cap R.tail,.int .i64 d] 4=C from h6]
 rw[rr a0,Option.bind_some]
 have dH:bB true (ag (sl++[C])) [.int .i64,.int .i64,.int .i64,.row [.int .i64,.int .i64]] (ae b2 aX c.2.1)=some c.2.1:=pF
 rw[dH,Option.bind_some,p7,Option.bind_some]
 simp only[decide_true,Bool.not_true,Bool.not_false,cond_true]
 rw[rq a0,Option.bind_some,Option.bind_some]
 simp only[bZ]
 rw[decide_eq_false (show ¬(64:Int)<(c.1.length:Int) by have:=ao.f64;omega),cond_false]
 simp only[vM,bR,show Slot.cZ []=dI []from rfl,List.append_assoc,List.cons_append,List.nil_append]
 rw[rq s0,Option.bind_some,aw,Option.bind_some]
 simp only
 rw[rr t0,Option.bind_some,bU,Option.bind_some]
 simp only[List.length_append,List.length_singleton]
def eK(fs:List dV)(n:Int):dV:=(fs.find? fun f=>decide (f.1=n)).getD (0,0,0,⟨#[]⟩,[])
theorem Fq{fs:List dV}{n:Int}(h:∃f∈fs,f.1=n):eK fs n∈fs∧(eK fs n).1=n:=by
 unfold eK
 cases ak:fs.find? fun f=>decide (f.1=n)with
 |none=>
  obtain⟨f,h1,h2⟩:=h
  have:=List.find?_eq_none.1 ak f h1
  simp at this
  exact absurd h2 this
 |some f=>
  have:=List.find?_some ak
  simp at this
  exact ⟨List.mem_of_find?_eq_some ak,this⟩
theorem YK{b b2:Bool}{sl:List Slot}{m:Nat}{fs:List dV}{xs:List (Int×Int)}(s1:sl[m]? =some (dI (fs.map fun f=>(f.1,bl b f))))(ad:(fs.map (·.1)).Nodup)(hx:∀s∈xs,∃f∈fs,f.1=s.1)(aq:xs.length≤2^20):
  ∃aC S o,iter bd (mW.aZ (some m) (ae b2 aD xs)) ((⟨.nil,0,0,false⟩,0),ag sl)=some (.aP S,ag aC)∧Acc aC cR (xs.map fun s=>bl b (eK fs s.1)) S o∧(∀id,o=some id→sl.length≤id)∧sl.length≤aC.length∧∀j,j<sl.length→aC[j]? =sl[j]?:=by
 have fQ:=(List.getElem?_eq_some_iff.1 s1).1
 obtain⟨x,aw,aC,S,o,rfl,aH,aW,bq,bU⟩:=ft (f:=mW.aZ (some m) (ae b2 aD xs))
  (Inv:=fun st=>∃(i:Nat) (aC:List Slot) (S:au) (o:Option Nat),st=((S,(i:Int)),ag aC)∧i≤xs.length∧Acc aC cR ((xs.take i).map fun s=>bl b (eK fs s.1)) S o∧(∀id,o=some id→sl.length≤id)∧sl.length≤aC.length∧∀j,j<sl.length→aC[j]? =sl[j]?)
  (Post:=fun x=>∃aC S o,x=(.aP S,ag aC)∧Acc aC cR (xs.map fun s=>bl b (eK fs s.1)) S o∧(∀id,o=some id→sl.length≤id)∧sl.length≤aC.length∧∀j,j<sl.length→aC[j]? =sl[j]?) (fun st=>xs.length-st.1.2.toNat) (fun st a6=>by
   obtain⟨i,T,S,o,rfl,hi,t1,t2,t3,t4⟩:=a6
   by_cases bn:i<xs.length
   ·left
    have eW:xs[i]? =some xs[i]:=List.getElem?_eq_getElem bn
    obtain⟨lk,kF⟩:=Fq (hx _ (List.getElem_mem bn))
    generalize aQ:bl b (eK fs xs[i].1)=g
    have dG:Acc (T++[a_ xs[i]]) cR ((xs.take i).map fun s=>bl b (eK fs s.1)) S o:=t1.frame fun id aT=>by subst aT;rw[List.getElem?_append_left t1.lt]
    obtain⟨bc,cK,id,a1,a2,a3,a4,a5⟩:=dG.append (w:=5) (b:=64) (x:=g) (vs:=[.int .i64 g.1,.int .i64 g.2.1,.int .i64 g.2.2.1,.str g.2.2.2.1,.slice g.2.2.2.2.a g.2.2.2.2.len g.2.2.2.2.cap g.2.2.2.2.tail]) rfl (by omega) (by rw[List.length_map,List.length_take];omega) (by omega) rfl
    have xq:(T++[a_ xs[i]])[m]? =some (dI (fs.map fun f=>(f.1,bl b f))):=by rw[List.getElem?_append_left (by omega),t4 m fQ];exact s1
    have xr:=FD (z:=dt) (x:=xs[i].1) (g:=g) xq (by rw[Q0];exact ad) (by rw[←aQ,←kF];exact List.mem_map.2 ⟨eK fs xs[i].1,lk,by rw[kF]⟩)
    refine⟨((bc,((i+1:Nat):Int)),ag cK), ?_,⟨i+1,cK,bc,some id,rfl,by omega, ?_,fun da h=>?_,by simp at a4;omega,fun j aL=>?_⟩,by simp only[Int.toNat_natCast];omega⟩
    ·unfold mW.aZ
     simp only[bZ,b9,bR]
     rw[decide_eq_true (show(i:Int)<(xs.length:Int) by omega),cond_true,aS (by omega),Int.toNat_natCast,yM eW,Option.bind_some]
     rw[nM (x:=xs[i]),Option.bind_some]
     rw[(lR (sl:=T++[a_ xs[i]]) (id:=T.length) (x:=xs[i]) (by simp)).1,Option.bind_some,Option.bind_some,xr,Option.bind_some]
     simp only
     rw[a1,Option.bind_some]
     simp only
     rw[dO (by omega)]
    ·rw[List.take_add_one,eW,List.map_append]
     rw[←aQ]at a2
     exact a2
    ·cases h
     rcases a3 with a3|⟨_,a3⟩
     ·exact t2 _ a3
     ·simp at a3;omega
    ·rw[a5 j (fun h=>by have:=t2 j h;omega) (by simp;omega),List.getElem?_append_left (by omega),t4 j aL]
   ·right
    have:i=xs.length:=by omega
    subst this
    rw[List.take_length]at t1
    refine⟨_, ?_,T,S,o,rfl,t1,t2,t3,t4⟩
    unfold mW.aZ
    simp only[bZ]
    rw[decide_eq_false (by omega),cond_false]) bd ((⟨.nil,0,0,false⟩,(0:Int)),ag sl) ⟨0,sl,⟨.nil,0,0,false⟩,none,rfl,Nat.zero_le _,Acc.nil,(fun _ h=>by cases h),Nat.le_refl _,fun _ _=>rfl⟩ (dj (by show xs.length-0<_;omega))
 exact ⟨aC,S,o,aw,aH,aW,bq,bU⟩
theorem aao{b b2:Bool}{c:e3}{R:au}{d n:Int}{sl:List Slot}(ao:Sound c):
  ∃aC x S o,mW (ae b bT c.1,ae b2 aX c.2.1,R,d) n (ag sl)=some ((x,S,if(cL c.2.1 n).2=true then(if(cL c.2.1 n).1.2.2.2=[]then 9 else 0)else 7),ag aC)∧
   ((cL c.2.1 n).2=true→(cL c.2.1 n).1.2.2.2≠[]→Acc aC cR ((cL c.2.1 n).1.2.2.2.map fun s=>bl b (eK c.1 s.1)) S o)∧sl.length≤aC.length∧∀j,j<sl.length→aC[j]? =sl[j]?:=by
 generalize h6:bI (ae b bT c.1) (ae b2 aX c.2.1) R d=C
 have s0:(sl++[C,aA bX])[sl.length]? =some (bI (ae b bT c.1) (ae b2 aX c.2.1) R d):=by rw[h6];simp
 obtain⟨T,m,aw,aH,aW,bq,bU⟩:=Q1 (b:=b) (b2:=b2) (R:=R) (d:=d) (sl:=sl++[C,aA bX]) ao
 have pe:sl.length+2≤T.length:=by simpa using aW
 have t0:T[sl.length]? =some (bI (ae b bT c.1) (ae b2 aX c.2.1) R d):=by rw[bU _ (by simp)];exact s0
 have t1:T[sl.length+1]? =some (aA bX):=by rw[bU _ (by simp)];simp
 have fR:∀x∈c.2.1,x.2.2.2.length≤32:=fun x hx=>vE (ao.j5.all x hx).2.2.2.1
 have hq:=B2 c.2.1 n (by have:=ao.pj;omega) fun x hx=>by have:=fR x hx;omega
 rcases gS:cL c.2.1 n with⟨⟨f0,f1,f2,f3⟩,rZ⟩
 rw[gS]at hq
 have pre:mW (ae b bT c.1,ae b2 aX c.2.1,R,d) n (ag sl)=(bif (!rZ)then((H.aY (ag (T++[aA (f0,f1,f2,ae true aD f3)])) (.aa (sl.length+1) 4 0) [.int .i64 0,.int .i64 0,.int .i64 0,.slice .nil 0 0 false]).bind fun cD=>
((ah (.agg [.int .i64,.int .i64,.int .i64,.slice]) cD (.aa (sl.length+1) 4 0:V)).bind fun hp=>
(some ((hp,⟨.nil,0,0,false⟩,7),cD))))else (bif (decide (((f3.length:Nat):Int)=0))then((H.aY (ag (T++[aA (f0,f1,f2,ae true aD f3)])) (.aa (sl.length+1) 4 0) [.int .i64 0,.int .i64 0,.int .i64 0,.slice .nil 0 0 false]).bind fun eN=>
((ah (.agg [.int .i64,.int .i64,.int .i64,.slice]) eN (.aa (sl.length+1) 4 0:V)).bind fun gu=>
(some ((gu,⟨.nil,0,0,false⟩,9),eN))))else ((iter bd (mW.aZ (some m) (ae true aD f3)) ((⟨.nil,0,0,false⟩,0),ag (T++[aA (f0,f1,f2,ae true aD f3)]))).bind fun(Du,lv)=>match Du with
|.next _=>none
|.ret Dv=>(some (Dv,lv))
|.aP xa=>
((ah (.agg [.int .i64,.int .i64,.int .i64,.slice]) lv (.aa T.length 4 0)).bind fun tu=>
((H.aY lv (.aa (sl.length+1) 4 0) [.int .i64 tu.1,.int .i64 tu.2.1,.int .i64 tu.2.2.1,.slice tu.2.2.2.a tu.2.2.2.len tu.2.2.2.cap tu.2.2.2.tail]).bind fun kK=>
((ah (.agg [.int .i64,.int .i64,.int .i64,.slice]) kK (.aa (sl.length+1) 4 0:V)).bind fun aiZ=>
(some ((aiZ,xa,0),kK)))))
|.bW _=>none))):=by
  unfold mW
  simp only[b9,bR]
  simp only[show Slot.own [.slice (ae b bT c.1).a (ae b bT c.1).len (ae b bT c.1).cap (ae b bT c.1).tail,.slice (ae b2 aX c.2.1).a (ae b2 aX c.2.1).len (ae b2 aX c.2.1).cap (ae b2 aX c.2.1).tail,.slice R.a R.len R.cap R.tail,.int .i64 d] 4=C from h6,show Slot.own [V.int .i64 0,V.int .i64 0,V.int .i64 0,V.slice .nil 0 0 false] 4=aA bX from rfl,List.append_assoc,List.cons_append,List.nil_append,List.length_append,List.length_singleton]
  rw[iH s0,Option.bind_some]
  simp only
  rw[aw,Option.bind_some]
  simp only[Bool.not_true,cond_false]
  rw[rr t0,Option.bind_some]
  have dH:bB true (ag T) [.int .i64,.int .i64,.int .i64,.row [.int .i64,.int .i64]] (ae b2 aX c.2.1)=some c.2.1:=pF
  rw[dH,Option.bind_some,hq,Option.bind_some]
  simp only[b9,bR]
  have w:=jU (sl:=T) (x:=(f0,f1,f2,ae true aD f3))
  simp only[bZ,hg,hf]at w
  rw[w,Option.bind_some]
  have af:=(ic (sl:=T++[aA (f0,f1,f2,ae true aD f3)]) (id:=T.length) (x:=(f0,f1,f2,ae true aD f3)) (by simp)).2.2.2
  cases rZ with
  |false=>rfl
  |true=>
   simp only[Bool.not_true,cond_false]
   rw[af,Option.bind_some,Option.bind_some]
   simp only[bZ]
   try rfl
 rw[pre]
 have gi:(T++[aA (f0,f1,f2,ae true aD f3)])[sl.length+1]? =some (aA bX):=by rw[List.getElem?_append_left (by omega)];exact t1
 have Aq:∀(U:List Slot) (z y:Int×Int×Int×au),U[sl.length+1]? =some (aA z)→((H.aY (ag U) (.aa (sl.length+1) 4 0) [.int .i64 y.1,.int .i64 y.2.1,.int .i64 y.2.2.1,.slice y.2.2.2.a y.2.2.2.len y.2.2.2.cap y.2.2.2.tail])=some (ag (U.set (sl.length+1) (aA y))))∧ah (.agg [.int .i64,.int .i64,.int .i64,.slice]) (ag (U.set (sl.length+1) (aA y))) (.aa (sl.length+1) 4 0)=some y:=fun U z y xH=>⟨rj xH,hl (by rw[List.getElem?_set_self (List.getElem?_eq_some_iff.1 xH).1])⟩
 have UG:∀j,j<sl.length→∀s,((T++[aA (f0,f1,f2,ae true aD f3)]).set (sl.length+1) s)[j]? =sl[j]?:=fun j aL s=>by rw[List.getElem?_set_ne (by omega),List.getElem?_append_left (by omega),bU j (by simp;omega),List.getElem?_append_left aL]
 obtain⟨w1,w2⟩:=Aq _ _ (0,0,0,⟨.nil,0,0,false⟩) gi
 cases rZ with
 |false=>
  refine⟨(T++[aA (f0,f1,f2,ae true aD f3)]).set (sl.length+1) (aA bX),bX,⟨.nil,0,0,false⟩,none, ?_,(fun h=>by cases h), ?_,fun j aL=>UG j aL _⟩
  ·simp only[Bool.not_false,cond_true]
   rw[w1,Option.bind_some,w2,Option.bind_some]
   rfl
  ·simp;omega
 |true=>
  by_cases aO:f3=[]
  ·subst aO
   refine⟨(T++[aA (f0,f1,f2,ae true aD [])]).set (sl.length+1) (aA bX),bX,⟨.nil,0,0,false⟩,none, ?_,(fun _ h=>absurd rfl h), ?_,fun j aL=>UG j aL _⟩
   ·simp only[Bool.not_true,cond_false,List.length_nil]
    rw[decide_eq_true (by rfl),cond_true,w1,Option.bind_some,w2,Option.bind_some]
    rfl
   ·simp;omega
  ·have e6:=(sd (xs:=c.2.1) (n:=n) (by rw[gS])).1
   rw[gS]at e6
   obtain⟨aC,S,o,bu,bs,b6,cd,cp⟩:=YK (b:=b) (b2:=true) (sl:=T++[aA (f0,f1,f2,ae true aD f3)]) (m:=m) (fs:=c.1) (xs:=f3) (by rw[List.getElem?_append_left (List.getElem?_eq_some_iff.1 aH).1];exact aH) (JA ao.p1) (ao.has _ e6) (by have:=fR _ e6;simp only at this;omega)
   have akZ:T.length+1≤aC.length:=by simpa using cd
   have v1:aC[sl.length+1]? =some (aA bX):=by rw[cp _ (by simp;omega)];exact gi
   have v2:aC[T.length]? =some (aA (f0,f1,f2,ae true aD f3)):=by rw[cp _ (by simp)];simp
   obtain⟨fJ,gz⟩:=Aq _ _ (f0,f1,f2,ae true aD f3) v1
   refine⟨aC.set (sl.length+1) (aA (f0,f1,f2,ae true aD f3)),(f0,f1,f2,ae true aD f3),S,o, ?_,fun _ _=>?_,by simp;omega,fun j aL=>?_⟩
   ·simp only[Bool.not_true,cond_false]
    rw[decide_eq_false (by have:=List.length_pos_iff.2 aO;omega),cond_false,bu,Option.bind_some]
    simp only
    rw[hl v2,Option.bind_some,fJ,Option.bind_some,gz,Option.bind_some]
    simp only[if_true]
    rw[if_neg aO]
   ·exact bs.frame fun id aT=>by
     subst aT
     have:=b6 id rfl
     simp at this
     rw[List.getElem?_set_ne (by omega)]
   ·rw[List.getElem?_set_ne (by omega),cp j (by simp;omega),List.getElem?_append_left (by omega),bU j (by simp;omega),List.getElem?_append_left aL]
end Go.Proofs.YtlphgijokknjhaaGreat
