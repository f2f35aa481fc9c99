/- The evaluator, the functions of this seat and what they compute: some texts in one, in short names. Conditions: those of each law. -/
import Derived.Test.YtlphgijokknjhaaGreatTRM2
set_option linter.all false
set_option maxRecDepth 100000
set_option maxHeartbeats 4000000
namespace Go.Proofs.YtlphgijokknjhaaGreat
open Go Go.Proofs.YtlphgijokknjhaaGreat.Ev
theorem nJ{n:Nat}(h:n<18446744073709551616):IntKind.u64.wrap (n:Int)=(n:Int):=IntWalk.u64_in _ (by omega)
theorem uk{n:Nat}(h:n<9223372036854775808):IntKind.i64.wrap (n:Int)=(n:Int):=IntWalk.i64_in _ (by omega)
theorem we{x:Nat}(hx:x<18446744073709551616):gl .and .u64 (x:Int) 4294967295=((x %4294967296:Nat):Int):=by
 have h:(BitVec.ofInt 64 (x:Int)&&&BitVec.ofInt 64 4294967295).toNat=x %4294967296:=by
  rw[BitVec.toNat_and,BitVec.ofInt_natCast,BitVec.toNat_ofNat,show(BitVec.ofInt 64 4294967295).toNat=2^32-1 by rfl,Nat.and_two_pow_sub_one_eq_mod,Nat.mod_eq_of_lt (b:=2^64) (by omega)]
 exact (congrArg (fun n:Nat=>IntKind.u64.wrap (n:Int)) h).trans (IntWalk.u64_in _ (by omega))
theorem aaL{a b s:Nat}(aE:b<2^s)(h:a*2^s+b<18446744073709551616):gl .or .u64 ((a*2^s:Nat):Int) (b:Int)=((a*2^s+b:Nat):Int):=by
 have h:(BitVec.ofInt 64 ((a*2^s:Nat):Int)|||BitVec.ofInt 64 (b:Int)).toNat=a*2^s+b:=by
  rw[BitVec.toNat_or,BitVec.ofInt_natCast,BitVec.ofInt_natCast,BitVec.toNat_ofNat,BitVec.toNat_ofNat,Nat.mod_eq_of_lt (b:=2^64) (by omega),Nat.mod_eq_of_lt (b:=2^64) (by omega)]
  rw[←Nat.shiftLeft_eq,Nat.shiftLeft_add_eq_or_of_lt aE]
 exact (congrArg (fun n:Nat=>IntKind.u64.wrap (n:Int)) h).trans (IntWalk.u64_in _ (by omega))
theorem sD(x:Nat):Int.fdiv (x:Int) (2^(min (Int.toNat 32) (IntKind.bits .u64)))=((x/4294967296:Nat):Int):=fdiv_pow x 32
theorem Zd{x y:Nat}(hx:x<18446744073709551616)(aK:y<18446744073709551616):
  xU (x:Int) (y:Int)=some (((x*y/18446744073709551616:Nat):Int),((x*y %18446744073709551616:Nat):Int)):=by
 obtain⟨aw,aH,aW,bq⟩:=Go.Lib.mul64_hi x y hx aK
 unfold xU A7
 rw[sD,sD,we hx,we aK]
 simp only[←Int.natCast_mul]
 have z1:x/4294967296*(y/4294967296)<18446744073709551616:=by
  have:=Go.Lib.half_mul_le (a:=x/4294967296) (b:=y/4294967296) (by omega) (by omega);omega
 have DG:x/4294967296*(y %4294967296)<18446744073709551616:=by omega
 have TS:x %4294967296*(y/4294967296)<18446744073709551616:=by omega
 rw[IntWalk.u64_in ((x %4294967296*(y %4294967296):Nat):Int) (by omega),IntWalk.u64_in ((x/4294967296*(y %4294967296):Nat):Int) (by omega),IntWalk.u64_in ((x %4294967296*(y/4294967296):Nat):Int) (by omega),IntWalk.u64_in ((x/4294967296*(y/4294967296):Nat):Int) (by omega)]
 rw[sD]
 simp only[←Int.natCast_add]
 rw[IntWalk.u64_in ((x/4294967296*(y %4294967296)+x %4294967296*(y %4294967296)/4294967296:Nat):Int) (by omega)]
 rw[sD,we (by omega)]
 simp only[←Int.natCast_add]
 generalize x/4294967296*(y %4294967296)+x %4294967296*(y %4294967296)/4294967296=t at*
 generalize x %4294967296*(y/4294967296)=c at*
 generalize x/4294967296*(y/4294967296)=a at*
 have bH:x*y<340282366920938463463374607431768211456:=Nat.lt_of_lt_of_le (Nat.mul_lt_mul'' hx aK) (by decide)
 generalize x*y=z at*
 rw[IntWalk.u64_in ((a+t/4294967296:Nat):Int) (by omega),IntWalk.u64_in ((t %4294967296+c:Nat):Int) (by omega),sD]
 simp only[←Int.natCast_add]
 rw[bq,IntWalk.u64_in _ (by omega),IntKind.wrap_u64,show((z:Nat):Int)%18446744073709551616=((z%18446744073709551616:Nat):Int) by omega]
 rfl
theorem Ze (n:Nat):IntKind.u64.wrap (n:Int)=((n %18446744073709551616:Nat):Int):=by rw[IntKind.wrap_u64];omega
theorem Iu(x s:Nat):(x:Int)*2^s=((x*2^s:Nat):Int):=by simp
theorem QK(x y:Nat):Int.tdiv (x:Int) (y:Int)=((x/y:Nat):Int):=rfl
theorem Zf(x y:Nat):Int.tmod (x:Int) (y:Int)=((x %y:Nat):Int):=rfl
theorem Wr{lo y:Nat}(aO:0<y)(h1:lo<18446744073709551616):r3 0 (lo:Int) (y:Int)=some (((lo/y:Nat):Int),((lo%y:Nat):Int)):=by
 unfold r3 kU
 have aG:decide ((y:Int)=0)=false:=by simp;omega
 have e2:decide ((y:Int)≤0)=false:=by simp;omega
 have bS:(y:Int)≠0:=by omega
 have hle:lo/y≤lo:=Nat.div_le_self _ _
 simp only[aG,e2,cond_false,cond_true,Option.bind_some,decide_true,aS bS,QK,Zf]
 rw[nJ (by omega)]
 rfl
theorem X6{s:Nat}(ad:s≤64):min (Int.toNat (IntKind.wrap .u64 (s:Int))) (IntKind.bits .u64)=s:=by
 rw[nJ (by omega),Int.toNat_natCast]
 exact Nat.min_eq_left ad
theorem Rn{N u Q Y R:Nat}(bt:N*4294967296+u=Q*Y+R)(iX:R<18446744073709551616):
  IntKind.u64.wrap (IntKind.u64.wrap (IntKind.u64.wrap ((N:Int)*4294967296)+(u:Int))-IntKind.u64.wrap ((Q:Int)*(Y:Int)))=(R:Int):=by
 rw[←Int.natCast_mul Q Y]
 generalize Q*Y=P at*
 simp only[IntKind.wrap_u64]
 omega
theorem P7{q r bb gj d:Nat}(aV:q≤4294967297)(af:r<4294967296)(h1:2147483648≤bb)(eV:bb<4294967296)(aO:gj<4294967296)(bF:d<4294967296)(h:H){F:Type}:
  ((((bif !(decide ((4294967296:Int)≤(q:Int)))then(some ((decide ((IntKind.wrap .u64 ((IntKind.wrap .u64 (4294967296*(r:Int)))+(d:Int)))<(IntKind.wrap .u64 ((q:Int)*(gj:Int))))),h))else (some (true,h)))).bind fun(fj,cJ)=>
   (bif fj then(bif (decide ((4294967296:Int)≤(IntKind.wrap .u64 ((r:Int)+(bb:Int)))))then(some (.done (.aP (IntKind.wrap .u64 ((q:Int)-1)),cJ)))else (some (.more (((IntKind.wrap .u64 ((q:Int)-1)),(IntKind.wrap .u64 ((r:Int)+(bb:Int)))),cJ))))else (some (.done (.aP (q:Int),cJ))))):Option (ca ((Int×Int)×H) (bG Int F×H)))=
  if 4294967296≤q∨4294967296*r+d<q*gj then(if 4294967296≤r+bb then some (.done (.aP (((q-1:Nat):Int)),h))else some (.more ((((q-1:Nat):Int),((r+bb:Nat):Int)),h)))else some (.done (.aP (q:Int),h)):=by
 have hm:q*gj<18446744073709551616:=Nat.lt_of_le_of_lt (Nat.mul_le_mul aV (show gj≤4294967295 by omega)) (by decide)
 rw[←Int.natCast_mul,nJ hm]
 generalize EM:q*gj=P at*
 have aG:IntKind.wrap .u64 ((IntKind.wrap .u64 (4294967296*(r:Int)))+(d:Int))=((4294967296*r+d:Nat):Int):=by
  simp only[IntKind.wrap_u64]
  omega
 have e2:IntKind.wrap .u64 ((r:Int)+(bb:Int))=((r+bb:Nat):Int):=by
  simp only[IntKind.wrap_u64]
  omega
 rw[aG,e2]
 have fin:1≤q→(bif (decide ((4294967296:Int)≤((r+bb:Nat):Int)))then(some (.done (.aP (IntKind.wrap .u64 ((q:Int)-1)),h)):Option (ca ((Int×Int)×H) (bG Int F×H)))else (some (.more (((IntKind.wrap .u64 ((q:Int)-1)),((r+bb:Nat):Int)),h))))=
   if 4294967296≤r+bb then some (.done (.aP (((q-1:Nat):Int)),h))else some (.more ((((q-1:Nat):Int),((r+bb:Nat):Int)),h)):=fun h1=>by
  have bP:IntKind.wrap .u64 ((q:Int)-1)=((q-1:Nat):Int):=by
   rw[show(q:Int)-1=((q-1:Nat):Int) by omega,nJ (by omega)]
  rw[bP]
  by_cases ao:4294967296≤r+bb
  ·rw[if_pos ao,decide_eq_true (by omega)];rfl
  ·rw[if_neg ao,decide_eq_false (by omega)];rfl
 by_cases lZ:4294967296≤q
 ·rw[if_pos (.inl lZ),decide_eq_true (show(4294967296:Int)≤(q:Int) by omega)]
  exact fin (by omega)
 ·rw[decide_eq_false (show ¬(4294967296:Int)≤(q:Int) by omega)]
  by_cases ao:4294967296*r+d<P
  ·rw[if_pos (.inr ao),decide_eq_true (show((4294967296*r+d:Nat):Int)<(P:Int) by omega)]
   refine fin ?_
   rcases Nat.eq_zero_or_pos q with h|h
   ·subst h
    simp at EM
    omega
   ·exact h
  ·rw[if_neg (by omega),decide_eq_false (show ¬((4294967296*r+d:Nat):Int)<(P:Int) by omega)]
   rfl
theorem X7{U y p Y N L mg mh nu R B gi jx:Nat}(aa:0<p)(hG:Y=y*p)(xH:U*p=N*(B*B)+L)(ag:gi*B+jx=L)
  (h1:mg*Y+mh=N*B+gi)(h2:nu*Y+R=mh*B+jx)(iX:R<Y):U/y=mg*B+nu∧R/p=U%y:=by
 have aG:(N*B+gi)*B=N*B*B+gi*B:=Nat.add_mul _ _ _
 have e2:(mg*Y+mh)*B=mg*Y*B+mh*B:=Nat.add_mul _ _ _
 rw[h1]at e2
 have bP:Y*(mg*B+nu)=mg*Y*B+nu*Y:=by rw[Nat.mul_add,Nat.mul_comm Y nu,←Nat.mul_assoc,Nat.mul_comm Y mg]
 have eC:N*(B*B)=N*B*B:=(Nat.mul_assoc N B B).symm
 have ahJ:U*p=Y*(mg*B+nu)+R:=by omega
 have bF:U*p/(y*p)=U/y:=Nat.mul_div_mul_right U y aa
 have hm:U*p %(y*p)=U%y*p:=Nat.mul_mod_mul_right p U y
 rw[←hG,ahJ]at bF hm
 rw[Nat.mul_add_div (by omega),Nat.div_eq_of_lt iX,Nat.add_zero]at bF
 rw[Nat.mul_add_mod,Nat.mod_eq_of_lt iX]at hm
 exact ⟨bF.symm,by rw[hm,Nat.mul_div_cancel _ aa]⟩
abbrev SU:=(Int×Int)×H→Option (ca ((Int×Int)×H) (bG Int (Int×Int)×H))
def divCore (f1 f2:SU)(N Y L qK qL HT:Int)(S:Nat)(h:H):Option ((Int×Int)×H):=
 (iter bd f1 ((IntKind.wrap .u64 (Int.tdiv N qK),IntKind.wrap .u64 (N-IntKind.wrap .u64 (IntKind.wrap .u64 (Int.tdiv N qK)*qK))),h)).bind fun(fl,h)=>match fl with
 |.next _=>none
 |.ret r=>some (r,h)
 |.aP cy=>
  aJ (qK≠0) ((iter bd f2 ((IntKind.wrap .u64 (Int.tdiv (IntKind.wrap .u64 (IntKind.wrap .u64 (IntKind.wrap .u64 (N*4294967296)+qL)-IntKind.wrap .u64 (cy*Y))) qK),
    IntKind.wrap .u64 (IntKind.wrap .u64 (IntKind.wrap .u64 (IntKind.wrap .u64 (N*4294967296)+qL)-IntKind.wrap .u64 (cy*Y))-IntKind.wrap .u64 (IntKind.wrap .u64 (Int.tdiv (IntKind.wrap .u64 (IntKind.wrap .u64 (IntKind.wrap .u64 (N*4294967296)+qL)-IntKind.wrap .u64 (cy*Y))) qK)*qK))),h)).bind fun(fl,h)=>match fl with
  |.next _=>none
  |.ret r=>some (r,h)
  |.aP dd=>some ((IntKind.wrap .u64 (IntKind.wrap .u64 (cy*4294967296)+dd),
    Int.fdiv (IntKind.wrap .u64 (IntKind.wrap .u64 (IntKind.wrap .u64 (IntKind.wrap .u64 (IntKind.wrap .u64 (IntKind.wrap .u64 (N*4294967296)+qL)-IntKind.wrap .u64 (cy*Y))*4294967296)+HT)-IntKind.wrap .u64 (dd*Y))) (2^S)),h)
  |.bW _=>none)
 |.bW _=>none
theorem Xf{a0 a1 a2 r:Int}{h:H}(aG:decide (a2=0)=false)(e2:decide (a2≤a0)=false)(bP:decide (a0=0)=false)(ad:vd a2=some r)
  (bu:(0:Int)≤IntKind.wrap .u64 r)(bs:(0:Int)≤IntKind.wrap .u64 (64-IntKind.wrap .u64 r)){s t:Nat}(hm:min (Int.toNat (IntKind.wrap .u64 r)) (IntKind.bits .u64)=s)
  (iq:min (Int.toNat (IntKind.wrap .u64 (64-IntKind.wrap .u64 r))) (IntKind.bits .u64)=t){Y qK L N qL HT:Int}(hG:IntKind.wrap .u64 (a2*2^s)=Y)(ahK:Int.fdiv Y (2^(min (Int.toNat 32) (IntKind.bits .u64)))=qK)
  (ag:IntKind.wrap .u64 (a1*2^s)=L)(kj:gl .or .u64 (IntKind.wrap .u64 (a0*2^s)) (Int.fdiv a1 (2^t))=N)(ahL:Int.fdiv L (2^(min (Int.toNat 32) (IntKind.bits .u64)))=qL)(Nc:gl .and .u64 L 4294967295=HT)(bS:qK≠0):
  kU a0 a1 a2 h=divCore (kU.aZ a1 a2 r) (kU.cl a1 a2 r) N Y L qK qL HT s h:=by
 unfold kU
 simp only[aG,e2,bP,ad,cond_false,Option.bind_some,aS bu,aS bs,hm,iq,hG,ahK,ag,kj,ahL,Nc,aS bS]
 unfold divCore
 simp only[aS bS]
 rfl
theorem Xg{f1 f2:SU}{N Y L s:Nat}{h:H}(hG:9223372036854775808≤Y)(akB:Y<18446744073709551616)(kj:N<Y)(ag:L<18446744073709551616)
  (lk:∀q r:Nat,q≤4294967297→r<4294967296→f1 (((q:Int),(r:Int)),h)=if 4294967296≤q∨4294967296*r+L/4294967296<q*(Y%4294967296)then(if 4294967296≤r+Y/4294967296 then some (.done (.aP (((q-1:Nat):Int)),h))else some (.more ((((q-1:Nat):Int),((r+Y/4294967296:Nat):Int)),h)))else some (.done (.aP (q:Int),h)))
  (kF:∀q r:Nat,q≤4294967297→r<4294967296→f2 (((q:Int),(r:Int)),h)=if 4294967296≤q∨4294967296*r+L%4294967296<q*(Y%4294967296)then(if 4294967296≤r+Y/4294967296 then some (.done (.aP (((q-1:Nat):Int)),h))else some (.more ((((q-1:Nat):Int),((r+Y/4294967296:Nat):Int)),h)))else some (.done (.aP (q:Int),h))):
  ∃mg nu mh R:Nat,divCore f1 f2 (N:Int) (Y:Int) (L:Int) ((Y/4294967296:Nat):Int) ((L/4294967296:Nat):Int) ((L%4294967296:Nat):Int) s h=some ((((mg*4294967296+nu:Nat):Int),((R/2^s:Nat):Int)),h)∧
   mg*Y+mh=N*4294967296+L/4294967296∧nu*Y+R=mh*4294967296+L%4294967296∧R<Y:=by
 have h1:2147483648≤Y/4294967296:=by omega
 have eV:Y/4294967296<4294967296:=by omega
 have aO:Y%4294967296<4294967296:=by omega
 have T5:Y/4294967296*4294967296+Y%4294967296=Y:=by omega
 have bS:((Y/4294967296:Nat):Int)≠0:=by omega
 have start:∀n:Nat,n<Y→IntKind.wrap .u64 (Int.tdiv (n:Int) ((Y/4294967296:Nat):Int))=((n/(Y/4294967296):Nat):Int)∧
   IntKind.wrap .u64 ((n:Int)-IntKind.wrap .u64 (((n/(Y/4294967296):Nat):Int)*((Y/4294967296:Nat):Int)))=((n %(Y/4294967296):Nat):Int):=fun n aM=>by
  have aG:=Jw h1 aO (show n<Y/4294967296*4294967296+Y%4294967296 by omega)
  have e2:=Nat.div_add_mod n (Y/4294967296)
  have bP:n %(Y/4294967296)<18446744073709551616:=by have:=Nat.mod_lt n (show 0<Y/4294967296 by omega);omega
  rw[QK,nJ (by omega)]
  refine⟨rfl, ?_⟩
  rw[←Int.natCast_mul,Nat.mul_comm]
  generalize n %(Y/4294967296)=m at*
  generalize Y/4294967296*(n/(Y/4294967296))=z at*
  simp only[IntKind.wrap_u64]
  omega
 have SV:=Pn (F:=Int×Int) (f:=f1) (h:=h) (n:=N) (d:=L/4294967296) h1 eV aO (by omega) (by omega) lk
 obtain⟨s1,s2⟩:=start N kj
 rw[T5]at SV
 have DT:=Nat.div_add_mod (N*4294967296+L/4294967296) Y
 have rK:=Nat.mod_lt (N*4294967296+L/4294967296) (show 0<Y by omega)
 have aj9:=IV (d:=L/4294967296) kj (by omega)
 generalize (N*4294967296+L/4294967296)/Y=mg at*
 generalize (N*4294967296+L/4294967296)%Y=mh at*
 rw[Nat.mul_comm]at DT
 have w2:=Rn DT.symm (by omega)
 have SW:=Pn (F:=Int×Int) (f:=f2) (h:=h) (n:=mh) (d:=L%4294967296) h1 eV aO (by omega) (by omega) kF
 obtain⟨cU,eD⟩:=start mh rK
 rw[T5]at SW
 have lZ:=Nat.div_add_mod (mh*4294967296+L%4294967296) Y
 have nh:=Nat.mod_lt (mh*4294967296+L%4294967296) (show 0<Y by omega)
 have aka:=IV (d:=L%4294967296) rK (by omega)
 generalize (mh*4294967296+L%4294967296)/Y=nu at*
 generalize (mh*4294967296+L%4294967296)%Y=R at*
 rw[Nat.mul_comm]at lZ
 have iA:=Rn lZ.symm (by omega)
 refine⟨mg,nu,mh,R, ?_,DT,lZ,nh⟩
 have ajy:IntKind.wrap .u64 (IntKind.wrap .u64 ((mg:Int)*4294967296)+(nu:Int))=((mg*4294967296+nu:Nat):Int):=by
  simp only[IntKind.wrap_u64]
  omega
 unfold divCore
 rw[s1,s2,SV]
 simp only[Option.bind_some]
 rw[w2,cU,eD,SW,aS bS]
 simp only[Option.bind_some]
 rw[iA,ajy,fdiv_pow]
theorem Ws{hi lo y:Nat}(hh:0<hi)(aK:hi<y)(DZ:y<18446744073709551616)(aq:lo<18446744073709551616):
  r3 (hi:Int) (lo:Int) (y:Int)=some ((((hi*18446744073709551616+lo)/y:Nat):Int),(((hi*18446744073709551616+lo)%y:Nat):Int)):=by
 obtain⟨s,ad,iu,fi,Av⟩:=Va (x:=y) (by omega) DZ
 have aG:decide ((y:Int)=0)=false:=by simp;omega
 have e2:decide ((y:Int)≤(hi:Int))=false:=by simp;omega
 have bP:decide ((hi:Int)=0)=false:=by simp;omega
 have hm:=X6 (s:=s) (by omega)
 have bu:(0:Int)≤IntKind.wrap .u64 (s:Int):=by rw[nJ (by omega)];omega
 have sL:IntKind.wrap .u64 (64-IntKind.wrap .u64 (s:Int))=((64-s:Nat):Int):=by
  rw[nJ (by omega),show(64:Int)-(s:Int)=((64-s:Nat):Int) by omega,nJ (by omega)]
 have iq:min (Int.toNat (IntKind.wrap .u64 (64-IntKind.wrap .u64 (s:Int)))) (IntKind.bits .u64)=64-s:=by
  rw[sL,Int.toNat_natCast]
  show min (64-s) 64=64-s
  omega
 have bs:(0:Int)≤IntKind.wrap .u64 (64-IntKind.wrap .u64 (s:Int)):=by rw[sL];omega
 have aa:0<2^s:=Nat.two_pow_pos s
 have hG:∃Y,Y=y*2^s:=⟨_,rfl⟩
 obtain⟨Y,hG⟩:=hG
 have SX:2^(64-s)*2^s=18446744073709551616:=by rw[←Nat.pow_add,show 64-s+s=64 by omega]
 have Dp:lo/2^(64-s)<2^s:=by
  rw[Nat.div_lt_iff_lt_mul (Nat.two_pow_pos _),Nat.mul_comm,SX]
  exact aq
 have akC:hi*2^s+2^s≤Y:=by
  rw[hG,←Nat.succ_mul]
  exact Nat.mul_le_mul_right _ aK
 have xj:hi*2^s<18446744073709551616:=by omega
 have kj:∃N,N=hi*2^s+lo/2^(64-s):=⟨_,rfl⟩
 obtain⟨N,kj⟩:=kj
 have ag:∃L,L=lo*2^s %18446744073709551616:=⟨_,rfl⟩
 obtain⟨L,ag⟩:=ag
 have akD:lo*2^s/18446744073709551616=lo/2^(64-s):=by rw[←SX,Nat.mul_div_mul_right _ _ aa]
 have xH:(hi*18446744073709551616+lo)*2^s=N*(4294967296*4294967296)+L:=by
  have e:(hi*18446744073709551616+lo)*2^s=(hi*2^s)*18446744073709551616+lo*2^s:=by
   rw[Nat.add_mul (hi*18446744073709551616) lo (2^s),Nat.mul_right_comm hi 18446744073709551616 (2^s)]
  rw[e,kj,ag]
  omega
 rw[←hG]at fi Av
 have NM:IntKind.wrap .u64 ((y:Int)*2^s)=(Y:Int):=by rw[Iu,←hG,nJ Av]
 have NN:IntKind.wrap .u64 ((lo:Int)*2^s)=(L:Int):=by rw[Iu,Ze,←ag]
 have ajz:gl .or .u64 (IntKind.wrap .u64 ((hi:Int)*2^s)) (Int.fdiv (lo:Int) (2^(64-s)))=(N:Int):=by
  rw[Iu,fdiv_pow,nJ xj,aaL Dp (by omega),kj]
 have Nd:L<18446744073709551616:=by rw[ag];exact Nat.mod_lt _ (by decide)
 have ahM:N<Y:=by omega
 have bS:((Y/4294967296:Nat):Int)≠0:=by omega
 obtain⟨mg,nu,mh,R,cV,aw,aH,aW⟩:=Xg (f1:=kU.aZ (lo:Int) (y:Int) (s:Int)) (f2:=kU.cl (lo:Int) (y:Int) (s:Int)) (s:=s) (h:=H.empty) fi Av ahM Nd
  (fun q r aV af=>by
   unfold kU.aZ
   simp only[hm,NM,NN,sD,we Av]
   exact P7 aV af (by omega) (by omega) (by omega) (by omega) _)
  (fun q r aV af=>by
   unfold kU.cl
   simp only[hm,NM,NN,sD,we Av,we Nd]
   exact P7 aV af (by omega) (by omega) (by omega) (by omega) _)
 have Sq:=Xf (a0:=(hi:Int)) (a1:=(lo:Int)) (a2:=(y:Int)) (h:=H.empty) aG e2 bP ad bu bs hm iq NM (sD Y) NN ajz (sD L) (we Nd) bS
 rw[cV]at Sq
 obtain⟨hdiv,wu⟩:=X7 (B:=4294967296) aa hG xH (show L/4294967296*4294967296+L%4294967296=L by omega) aw aH aW
 unfold r3
 rw[Sq,hdiv,←wu]
 rfl
theorem VF{T:Table}{v:V}{h:H}{xs:List Int}{f:Bool}(p:Int→Bool)(aM:xs.length<2^63)(ao:∀x∈xs,∀{R:Type} (k:V→H→Option R),eE T.dg v [.int .i64 x] h k=k (.bool (p x)) h):
  qP T (ae f [.int .i64] xs) v h=some (idxOf p xs,h):=by
 unfold qP
 rw[I_ xs p (fun i=>(i:Int)) aM (fun i x hx=>by
  obtain⟨bn,rfl⟩:=List.getElem?_eq_some_iff.1 hx
  unfold qP.aZ
  simp only[bZ,Int.toNat_natCast]
  rw[decide_eq_true (by omega),cond_true,aS (by omega),uj,hx]
  simp only[Option.bind_some]
  rw[ao _ (List.getElem_mem bn)]
  simp only[an.pack,ai.pack,ab.pack,Option.bind_some]
  rw[dO (by omega)]
  cases p xs[i]<;>rfl) (by
  unfold qP.aZ
  simp only[bZ]
  rw[decide_eq_false (by omega),cond_false])]
 unfold idxOf
 cases xs.findIdx? p<;>rfl
theorem Vb{T:Table}{v:V}{h:H}{xs:List Int}{f:Bool}(p:Int→Bool)(aM:xs.length<2^63)(ao:∀x∈xs,∀{R:Type} (k:V→H→Option R),eE T.dg v [.int .i64 x] h k=k (.bool (p x)) h):
  ml T (ae f [.int .i64] xs) v h=some (xs.any p,h):=by
 unfold ml
 rw[VF (T:=ml.tb T) p aM ao]
 simp only[Option.bind_some,Oy]
def fE(n:Int):Bool:=decide (0≤n)&&decide (n≤128849018880000)
theorem k1{n:Int}:fE n=true↔0≤n∧n≤128849018880000:=by simp[fE]
theorem Jb(n:Int):r2 n=some (fE n):=by
 unfold r2 A2 fE
 cases decide (0≤n)<;>rfl
theorem Wt (n:Int):xO n=some (!fE n):=by
 unfold xO AY
 simp only[aF,reduceIte,av,az,aB,ax,an.un,aj.un,ai.un,LT.un,ab.un,ab.plain,LT.plain,Jb]
theorem Po(xs:List Int)(aM:xs.length<2^63):tO xs=some (xs.all fE):=by
 unfold tO pv
 rw[Vb (fun x=>!fE x) aM (fun x hx R k=>by
  show(xO x).bind (fun r=>k ((an.one (.leaf .bool)).lo true r) H.empty)=_
  rw[Wt];rfl)]
 simp only[aF,reduceIte,av,az,aB,ax,an.un,aj.un,ai.un,LT.un,ab.un,ab.plain,LT.plain]
 rw[List.any_eq_not_all_not]
 simp
theorem Zg{hi lo y:Nat}(aK:hi<y)(DZ:y<18446744073709551616)(aq:lo<18446744073709551616):
  r3 (hi:Int) (lo:Int) (y:Int)=some ((((hi*18446744073709551616+lo)/y:Nat):Int),(((hi*18446744073709551616+lo)%y:Nat):Int)):=by
 rcases Nat.eq_zero_or_pos hi with rfl |h
 ·rw[Nat.zero_mul,Nat.zero_add]
  exact Wr aK aq
 ·exact Ws h aK DZ aq
theorem Xh{a b:Nat}(bD:a<9223372036854775808)(aE:b<9223372036854775808):xQ (a:Int) (b:Int)=some (((a*b/18446744073709551616:Nat):Int),((a*b%18446744073709551616:Nat):Int)):=by
 unfold xQ A0
 rw[nJ (by omega),nJ (by omega),Zd (by omega) (by omega)]
 rfl
def zy (a b c:Int):Int×Int×Bool:=if 128849018880000<a*b/c then(0,0,false)else (a*b/c,a*b%c,true)
theorem Wu{a b c:Nat}(bD:a≤128849018880000)(aE:b≤128849018880000)(ao:c≤128849018880000)(aO:0<c):
  r1 (a:Int) (b:Int) (c:Int)=some (if 128849018880000<a*b/c then(0,0,false)else (((a*b/c:Nat):Int),((a*b%c:Nat):Int),true)):=by
 unfold r1 A1
 rw[Xh (by omega) (by omega)]
 simp only[aF,reduceIte,av,az,aB,ax,an.un,aj.un,ai.un,LT.un,ab.un,ab.plain,LT.plain,dm,List.replicate,Ev.splice,LT.pack,ab.pack,Nat.reduceAdd,Nat.reduceSub,Nat.reduceLeDiff,Nat.reduceLT,Nat.reduceEqDiff,LT.lo,ab.lo]
 rw[nJ (n:=c) (by omega)]
 generalize aa:a*b=p at*
 by_cases h:c≤p/18446744073709551616
 ·rw[decide_eq_true (by omega)]
  have:128849018880000<p/c:=by
   rw[Nat.lt_div_iff_mul_lt aO]
   have h1:c*18446744073709551616≤p:=by
    have:=Nat.mul_le_mul_right 18446744073709551616 h
    omega
   omega
  rw[if_pos this]
  simp only[aF,reduceIte,av,az,aB,ax,an.un,aj.un,ai.un,LT.un,ab.un,ab.plain,LT.plain,dm,List.replicate,Ev.splice,LT.pack,ab.pack,Nat.reduceAdd,Nat.reduceSub,Nat.reduceLeDiff,Nat.reduceLT,Nat.reduceEqDiff,LT.lo,ab.lo]
 ·rw[decide_eq_false (by omega),Zg (by omega) (by omega) (by omega)]
  rw[show p/18446744073709551616*18446744073709551616+p %18446744073709551616=p by omega]
  simp only[aF,reduceIte,av,az,aB,ax,an.un,aj.un,ai.un,LT.un,ab.un,ab.plain,LT.plain,dm,List.replicate,Ev.splice,LT.pack,ab.pack,Nat.reduceAdd,Nat.reduceSub,Nat.reduceLeDiff,Nat.reduceLT,Nat.reduceEqDiff,LT.lo,ab.lo]
  by_cases aV:128849018880000<p/c
  ·rw[decide_eq_true (by omega),if_pos aV]
   simp only[aF,reduceIte,av,az,aB,ax,an.un,aj.un,ai.un,LT.un,ab.un,ab.plain,LT.plain,dm,List.replicate,Ev.splice,LT.pack,ab.pack,Nat.reduceAdd,Nat.reduceSub,Nat.reduceLeDiff,Nat.reduceLT,Nat.reduceEqDiff,LT.lo,ab.lo]
  ·have af:p %c<c:=Nat.mod_lt _ aO
   rw[decide_eq_false (by omega),if_neg aV,uk (by omega),uk (by omega)]
   simp only[aF,reduceIte,av,az,aB,ax,an.un,aj.un,ai.un,LT.un,ab.un,ab.plain,LT.plain,dm,List.replicate,Ev.splice,LT.pack,ab.pack,Nat.reduceAdd,Nat.reduceSub,Nat.reduceLeDiff,Nat.reduceLT,Nat.reduceEqDiff,LT.lo,ab.lo]
theorem Jc{a:Int}(h:fE a=true):∃n:Nat,a=(n:Int)∧n≤128849018880000:=by
 rw[k1]at h
 exact ⟨a.toNat,by omega,by omega⟩
theorem X8(a b c:Nat):zy (a:Int) (b:Int) (c:Int)=if 128849018880000<a*b/c then(0,0,false)else (((a*b/c:Nat):Int),((a*b%c:Nat):Int),true):=by
 unfold zy
 rw[←Int.natCast_mul,←Int.natCast_ediv,←Int.natCast_emod]
 by_cases h:128849018880000<a*b/c
 ·rw[if_pos h,if_pos (by omega)]
 ·rw[if_neg h,if_neg (by omega)]
theorem Pp{a b c:Int}(bD:fE a=true)(aE:fE b=true)(ao:fE c=true)(aO:c≠0):r1 a b c=some (zy a b c):=by
 obtain⟨a,rfl,xk⟩:=Jc bD
 obtain⟨b,rfl,na⟩:=Jc aE
 obtain⟨c,rfl,kE⟩:=Jc ao
 rw[Wu xk na kE (by omega),X8]
def GW(a b c:Int):Int×Int×Int:=
 if(fE a&&(fE b&&fE c))=true then(if c=0 then(0,0,16)else if 128849018880000<a*b/c then(0,0,15)else (a*b/c,a*b%c,0))else (0,0,2)
theorem acx(a b c:Int):x2 a b c=some (GW a b c):=by
 unfold x2 Bg GW
 simp only[aF,reduceIte,av,az,aB,ax,an.un,aj.un,ai.un,LT.un,ab.un,ab.plain,LT.plain]
 rw[Po [a,b,c] (by simp)]
 simp only[aF,reduceIte,av,az,aB,ax,an.un,aj.un,ai.un,LT.un,ab.un,ab.plain,LT.plain,List.all_cons,List.all_nil]
 cases h:(fE a&&(fE b&&fE c))with
 |false=>simp only[aF,reduceIte,av,az,aB,ax,an.un,aj.un,ai.un,LT.un,ab.un,ab.plain,LT.plain];rfl
 |true=>
  simp only[Bool.and_eq_true]at h
  by_cases aO:c=0
  ·rw[decide_eq_true aO,if_pos aO];simp only[aF,reduceIte,av,az,aB,ax,an.un,aj.un,ai.un,LT.un,ab.un,ab.plain,LT.plain]
  ·rw[decide_eq_false aO,if_neg aO,Pp h.1 h.2.1 h.2.2 aO]
   unfold zy
   by_cases aV:128849018880000<a*b/c
   ·simp only[if_pos aV,aF,reduceIte,av,az,aB,ax,an.un,aj.un,ai.un,LT.un,ab.un,ab.plain,LT.plain]
   ·simp only[if_neg aV,aF,reduceIte,av,az,aB,ax,an.un,aj.un,ai.un,LT.un,ab.un,ab.plain,LT.plain]

def g(xs:List Int)(k:Nat):Int:=(xs[k]?).getD 0
theorem sk{xs:List Int}{k:Nat}(h:k<xs.length):xs[k]? =some (g xs k):=by
 rw[g,List.getElem?_eq_getElem h];rfl
theorem CN{xs:List Int}{i k:Nat}{x:Int}(h:i<xs.length):g (xs.set i x) k=if k=i then x else g xs k:=by
 unfold g
 by_cases e:k=i
 ·subst e;simp[h]
 ·rw[if_neg e,List.getElem?_set_ne (by omega)]
def swp(i j:Nat)(xs:List Int):List Int:=(xs.set i (g xs j)).set j (g xs i)
theorem Fk{i j:Nat}{xs:List Int}:(swp i j xs).length=xs.length:=by simp[swp]
theorem rn{i j k:Nat}{xs:List Int}(hi:i<xs.length)(aL:j<xs.length):g (swp i j xs) k=if k=j then g xs i else if k=i then g xs j else g xs k:=by
 unfold swp
 rw[CN (by simpa using aL),CN hi]
theorem FL{i j:Nat}{xs:List Int}(hi:i<xs.length)(aL:j<xs.length):(swp i j xs).Perm xs:=by
 have:=List.set_set_perm hi aL
 unfold swp
 rw[show g xs j=xs[j] by rw[g,List.getElem?_eq_getElem aL];rfl,show g xs i=xs[i] by rw[g,List.getElem?_eq_getElem hi];rfl]
 exact this
def bh(sl:List Slot)(id:Nat)(xs:List Int):H:=ag (sl.set id (.own (bx [.int .i64] xs) 1))
abbrev eo(id n:Nat)(t:Bool):au:=⟨.aa id n 0,n,n,t⟩
theorem uN{id n:Nat}{t:Bool}:(eo id n t).a=.aa id n 0:=congrArg au.a (Eq.refl (eo id n t))
theorem sm{id n:Nat}{t:Bool}:(eo id n t).len=n:=congrArg au.len (Eq.refl (eo id n t))
theorem B8(x:Int):an.pack (.one (.leaf (.int .i64))) (.int .i64 x)=some x:=rfl
theorem kv{id n k:Nat}:V.add (.aa id n 0) k=.aa id n k:=by simp[V.add]
section steps
variable{sl:List Slot}{id n:Nat}(aT:id<sl.length)
include aT
theorem kL{xs:List Int}{k:Nat}(aM:xs.length=n)(aN:k<n):ah (.leaf (.int .i64)) (bh sl id xs) (V.add (.aa id n 0) (k*1))=some (g xs k):=by
 rw[kv]
 have:=BP (ls:=[.int .i64]) (xs:=xs) (l:=.int .i64) (sl:=sl.set id (.own (bx [.int .i64] xs) 1)) (id:=id) (e:=1) (n:=n) (i:=k) (w:=1) (by simp[aT]) (by simp[aM]) rfl (by omega)
 unfold bh
 rw[this,sk (by omega)]
 rfl
theorem u3{xs:List Int}{k:Nat}{x:Int}(aM:xs.length=n)(aN:k<n):H.aY (bh sl id xs) (V.add (.aa id n 0) (k*1)) [.int .i64 x]=some (bh sl id (xs.set k x)):=by
 rw[kv]
 have:=yA (ls:=[.int .i64]) (xs:=xs) (sl:=sl.set id (.own (bx [.int .i64] xs) 1)) (id:=id) (e:=1) (n:=n) (i:=k) (w:=1) (x:=x) (vs:=[.int .i64 x]) (by simp[aT]) (by simp[aM]) rfl (by omega) rfl
 unfold bh
 rw[this]
 simp[List.set_set]
end steps
theorem g8{m:Nat}{z:Int}(h:z=(m:Int))(hm:m<9223372036854775808):IntKind.i64.wrap z=(m:Int):=by rw[h];exact uk hm
section sort
variable{T:Table}{v:V}{sl:List Slot}{id n:Nat}{t:Bool}
theorem Iv(aT:id<sl.length)(lV:n<4611686018427387904){xs:List Int}(aM:xs.length=n){a b k:Nat}(oc:a+k≤b)(aE:b+k≤n):
  ∃ys,nx T (eo id n t) (a:Int) (b:Int) (k:Int) v (bh sl id xs)=some ((),bh sl id ys)∧ys.length=n∧ys.Perm xs∧
   ∀j,g ys j=if a≤j∧j<a+k then g xs (j-a+b)else if b≤j∧j<b+k then g xs (j-b+a)else g xs j:=by
 obtain⟨r,af,aa⟩:=ft (f:=nx.aZ T (eo id n t) (a:Int) (b:Int) (k:Int))
  (Inv:=fun st=>∃(i:Nat) (ys:List Int),st=((i:Int),bh sl id ys)∧i≤k∧ys.length=n∧ys.Perm xs∧
   ∀j,g ys j=if a≤j∧j<a+i then g xs (j-a+b)else if b≤j∧j<b+i then g xs (j-b+a)else g xs j)
  (Post:=fun r=>∃ys,r=(.aP (),bh sl id ys)∧ys.length=n∧ys.Perm xs∧
   ∀j,g ys j=if a≤j∧j<a+k then g xs (j-a+b)else if b≤j∧j<b+k then g xs (j-b+a)else g xs j)
  (fun st=>k-st.1.toNat) (fun st hi=>by
   obtain⟨i,ys,rfl,hi,aq,gv,aQ⟩:=hi
   rcases Nat.lt_or_ge i k with bn |hy
   ·left
    refine⟨(((i+1:Nat):Int),bh sl id (swp (a+i) (b+i) ys)), ?_,⟨i+1,_,rfl,by omega,by rw[Fk,aq],(FL (by omega) (by omega)).trans gv,fun j=>?_⟩,by simp only[Int.toNat_natCast];omega⟩
    ·unfold nx.aZ
     try simp -implicitDefEqProofs only[gk,uN,sm]
     rw[decide_eq_true (by omega),cond_true,g8 (m:=b+i) (by omega) (by omega),g8 (m:=a+i) (by omega) (by omega),Int.toNat_natCast,Int.toNat_natCast,aS (by omega),kL aT aq (by omega)]
     try simp -implicitDefEqProofs only[Option.bind_some]
     rw[aS (by omega),kL aT aq (by omega)]
     try simp -implicitDefEqProofs only[Option.bind_some]
     rw[aS (by omega),u3 aT aq (by omega)]
     try simp -implicitDefEqProofs only[Option.bind_some]
     rw[aS (by omega),u3 aT (by simpa using aq) (by omega)]
     try simp -implicitDefEqProofs only[Option.bind_some]
     rw[dO (by omega)]
     rfl
    ·rw[rn (by omega) (by omega),aQ,aQ,aQ]
     by_cases bL:j=b+i
     ·subst bL
      rw[if_pos rfl,if_neg (by omega),if_neg (by omega),if_neg (by omega),if_pos (by omega)]
      congr 1;omega
     ·rw[if_neg bL]
      by_cases a_:j=a+i
      ·subst a_
       rw[if_pos rfl,if_neg (by omega),if_neg (by omega),if_pos (by omega)]
       congr 1;omega
      ·rw[if_neg a_]
       by_cases cY:a≤j∧j<a+i
       ·rw[if_pos cY,if_pos (by omega)]
       ·rw[if_neg cY,if_neg (show ¬(a≤j∧j<a+(i+1)) by omega)]
        by_cases bI:b≤j∧j<b+i
        ·rw[if_pos bI,if_pos (by omega)]
        ·rw[if_neg bI,if_neg (by omega)]
   ·right
    have:i=k:=by omega
    subst this
    refine⟨_, ?_,ys,rfl,aq,gv,aQ⟩
    unfold nx.aZ
    try simp -implicitDefEqProofs only[]
    rw[decide_eq_false (by omega),cond_false]) bd ((0:Int),bh sl id xs) ⟨0,xs,rfl,Nat.zero_le _,aM,.refl _,fun j=>by rw[if_neg (by omega),if_neg (by omega)]⟩ (dj (by
    show k-(0:Int).toNat<2^69
    omega))
 obtain⟨ys,rfl,h1,h2,h3⟩:=aa
 refine⟨ys, ?_,h1,h2,h3⟩
 unfold nx
 rw[af]
 rfl
theorem X9(aT:id<sl.length)(lV:n<4611686018427387904){xs:List Int}(aM:xs.length=n){a m b:Nat}(Aw:a<m)(u1:m<b)(aE:b≤n):
  ∃ys,iE T (eo id n t) (a:Int) (m:Int) (b:Int) v (bh sl id xs)=some ((),bh sl id ys)∧ys.length=n∧ys.Perm xs∧
   ∀p,g ys p=if a≤p∧p<a+(b-m)then g xs (p+(m-a))else if a+(b-m)≤p∧p<b then g xs (p-(b-m))else g xs p:=by
 obtain⟨r,af,aa⟩:=ft (f:=iE.aZ T (eo id n t) (m:Int) v)
  (Inv:=fun st=>∃(i j:Nat) (ys:List Int),st=(((i:Int),(j:Int)),bh sl id ys)∧0<i∧0<j∧a+i≤m∧m+j≤b∧ys.length=n∧ys.Perm xs∧
   ∀p,(if a≤p∧p<a+(b-m)then g xs (p+(m-a))else if a+(b-m)≤p∧p<b then g xs (p-(b-m))else g xs p)=
    if m-i≤p∧p<m-i+j then g ys (p+i)else if m-i+j≤p∧p<m+j then g ys (p-j)else g ys p)
  (Post:=fun r=>∃(i:Nat) (ys:List Int),r=(.aP (i:Int),bh sl id ys)∧0<i∧a+i≤m∧m+i≤b∧ys.length=n∧ys.Perm xs∧
   ∀p,(if a≤p∧p<a+(b-m)then g xs (p+(m-a))else if a+(b-m)≤p∧p<b then g xs (p-(b-m))else g xs p)=
    if m-i≤p∧p<m then g ys (p+i)else if m≤p∧p<m+i then g ys (p-i)else g ys p)
  (fun st=>st.1.1.toNat+st.1.2.toNat) (fun st hi=>by
   obtain⟨i,j,ys,rfl,T6,DM,u4,T7,aq,gv,aQ⟩:=hi
   by_cases iS:i=j
   ·right
    subst iS
    refine⟨_, ?_,i,ys,rfl,T6,u4,T7,aq,gv,fun p=>?_⟩
    ·unfold iE.aZ
     try simp -implicitDefEqProofs only[decide_true,Bool.not_true,cond_false]
    ·rw[aQ p,show m-i+i=m by omega]
   ·left
    rcases Nat.lt_or_ge j i with bn |hy
    ·obtain⟨cC,h1,h2,h3,aI⟩:=Iv (T:=iE.tb T) (v:=v) (t:=t) aT lV aq (a:=m-i) (b:=m) (k:=j) (by omega) (by omega)
     refine⟨((((i-j:Nat):Int),(j:Int)),bh sl id cC), ?_,⟨i-j,j,cC,rfl,by omega,DM,by omega,T7,h2,h3.trans gv,fun p=>?_⟩,by simp only[Int.toNat_natCast];omega⟩
     ·unfold iE.aZ
      try simp -implicitDefEqProofs only[]
      rw[decide_eq_false (show ¬(i:Int)=(j:Int) by omega),decide_eq_true (show(j:Int)<(i:Int) by omega),g8 (m:=m-i) (by omega) (by omega),h1]
      try simp -implicitDefEqProofs only[Bool.not_false,cond_true,Option.bind_some]
      rw[g8 (m:=i-j) (by omega) (by omega)]
     ·rw[aQ p,aI (p+(i-j)),aI (p-j),aI p]
      by_cases bL:m-i≤p∧p<m-i+j
      ·rw[if_pos bL,if_neg (by omega),if_neg (by omega),if_pos (by omega)]
       congr 1;omega
      ·rw[if_neg bL]
       by_cases a_:m-i+j≤p∧p<m+j
       ·rw[if_pos a_]
        by_cases cY:m-(i-j)≤p∧p<m-(i-j)+j
        ·rw[if_pos cY]
         by_cases bI:p+(i-j)<m
         ·omega
         ·rw[if_neg (by omega),if_pos (by omega)]
          congr 1;omega
        ·rw[if_neg cY]
         by_cases kT:m-(i-j)+j≤p∧p<m+j
         ·rw[if_pos kT,if_neg (by omega),if_neg (by omega)]
         ·omega
       ·rw[if_neg a_,if_neg (by omega),if_neg (by omega),if_neg (by omega),if_neg (by omega)]
    ·obtain⟨cC,h1,h2,h3,aI⟩:=Iv (T:=iE.tb T) (v:=v) (t:=t) aT lV aq (a:=m-i) (b:=m+j-i) (k:=i) (by omega) (by omega)
     refine⟨(((i:Int),((j-i:Nat):Int)),bh sl id cC), ?_,⟨i,j-i,cC,rfl,T6,by omega,u4,by omega,h2,h3.trans gv,fun p=>?_⟩,by simp only[Int.toNat_natCast];omega⟩
     ·unfold iE.aZ
      try simp -implicitDefEqProofs only[]
      rw[decide_eq_false (show ¬(i:Int)=(j:Int) by omega),decide_eq_false (show ¬(j:Int)<(i:Int) by omega),g8 (z:=(m:Int)-i) (m:=m-i) (by omega) (by omega),g8 (z:=(m:Int)+j) (m:=m+j) (by omega) (by omega),g8 (z:=((m+j:Nat):Int)-i) (m:=m+j-i) (by omega) (by omega),h1]
      try simp -implicitDefEqProofs only[Bool.not_false,cond_true,cond_false,Option.bind_some]
      rw[g8 (m:=j-i) (by omega) (by omega)]
     ·rw[aQ p,aI (p+i),aI (p-(j-i)),aI p]
      by_cases bL:m-i≤p∧p<m-i+j
      ·rw[if_pos bL]
       by_cases a_:p<m-i+(j-i)
       ·rw[if_pos (show m-i≤p∧p<m-i+(j-i) by omega),if_neg (by omega),if_neg (by omega)]
       ·rw[if_neg (show ¬(m-i≤p∧p<m-i+(j-i)) by omega)]
        by_cases cY:p<m+(j-i)
        ·rw[if_pos (show m-i+(j-i)≤p∧p<m+(j-i) by omega),if_pos (by omega)]
         congr 1;omega
        ·omega
      ·rw[if_neg bL]
       by_cases a_:m-i+j≤p∧p<m+j
       ·rw[if_pos a_,if_neg (by omega),if_neg (by omega),if_neg (by omega),if_pos (by omega)]
        congr 1;omega
       ·rw[if_neg a_,if_neg (by omega),if_neg (by omega),if_neg (by omega),if_neg (by omega)]) bd ((((m-a:Nat):Int),((b-m:Nat):Int)),bh sl id xs)
   ⟨m-a,b-m,xs,rfl,by omega,by omega,by omega,by omega,aM,.refl _,fun p=>by
    rw[show m-(m-a)=a by omega,show m+(b-m)=b by omega]⟩ (dj (by
    simp only[Int.toNat_natCast]
    omega))
 obtain⟨i,ys,rfl,aw,aH,aW,bq,bU,ek⟩:=aa
 obtain⟨cC,h1,h2,h3,aI⟩:=Iv (T:=iE.tb T) (v:=v) (t:=t) aT lV bq (a:=m-i) (b:=m) (k:=i) (by omega) (by omega)
 refine⟨cC, ?_,h2,h3.trans bU,fun p=>?_⟩
 ·unfold iE
  rw[g8 (m:=m-a) (by omega) (by omega),g8 (m:=b-m) (by omega) (by omega),af]
  try simp -implicitDefEqProofs only[Option.bind_some]
  rw[g8 (m:=m-i) (by omega) (by omega),h1]
  rfl
 ·rw[ek p,aI p]
  by_cases bL:m-i≤p∧p<m
  ·rw[if_pos bL,if_pos (by omega)]
   congr 1;omega
  ·rw[if_neg bL,if_neg (by omega)]
   by_cases a_:m≤p∧p<m+i
   ·rw[if_pos a_,if_pos a_]
    congr 1;omega
   ·rw[if_neg a_,if_neg a_]
end sort
def tC(T:Table)(v:V)(sl:List Slot)(id n:Nat)(D:Int→Prop)(c:Int→Int→Int):Prop:=
 ∀(x y:Int) (xs:List Int),D x→D y→xs.length=n→∀{R:Type} (k:V→H→Option R),eE T.dg v [.int .i64 x,.int .i64 y] (bh sl id xs) k=k (.int .i64 (c x y)) (bh sl id xs)
def rz(c:Int→Int→Int)(lt:Int→Int→Prop)(later FV:Int):Prop:=(c later FV<0→lt later FV)∧(¬c later FV<0→lt FV later)
section sort
variable{T:Table}{v:V}{sl:List Slot}{id n:Nat}{t:Bool}{D:Int→Prop}{c:Int→Int→Int}{lt:Int→Int→Prop}
theorem X_(aT:id<sl.length)(lV:n<4611686018427387904)(ao:tC T v sl id n D c)(fy:∀x y z,lt x y→lt y z→lt x z){xs:List Int}(aM:xs.length=n){a i:Nat}(u4:a≤i)(hi:i<n)
  (cP:∀k,a≤k→k≤i→D (g xs k))(ad:∀p q,a≤p→p<q→q<i→lt (g xs p) (g xs q))(LV:∀p,a≤p→p<i→rz c lt (g xs i) (g xs p)):
  ∃ys,iter bd (jz.aZ T (eo id n t) (a:Int) v) ((i:Int),bh sl id xs)=some (.aP (),bh sl id ys)∧ys.length=n∧ys.Perm xs∧(∀p,¬(a≤p∧p≤i)→g ys p=g xs p)∧
   (∀p,a≤p→p≤i→∃bO,a≤bO∧bO≤i∧g ys p=g xs bO)∧∀p q,a≤p→p<q→q≤i→lt (g ys p) (g ys q):=by
 obtain⟨r,af,aa⟩:=ft (f:=jz.aZ T (eo id n t) (a:Int) v)
  (Inv:=fun st=>∃(j:Nat) (ys:List Int),st=((j:Int),bh sl id ys)∧a≤j∧j≤i∧ys.length=n∧ys.Perm xs∧(∀p,¬(a≤p∧p≤i)→g ys p=g xs p)∧g ys j=g xs i∧
   (∀p,a≤p→p≤i→p≠j→∃bO,a≤bO∧bO<i∧g ys p=g xs bO)∧(∀p q,a≤p→p<q→q≤i→p≠j→q≠j→lt (g ys p) (g ys q))∧∀q,j<q→q≤i→lt (g ys j) (g ys q))
  (Post:=fun r=>∃ys,r=(.aP (),bh sl id ys)∧ys.length=n∧ys.Perm xs∧(∀p,¬(a≤p∧p≤i)→g ys p=g xs p)∧
   (∀p,a≤p→p≤i→∃bO,a≤bO∧bO≤i∧g ys p=g xs bO)∧∀p q,a≤p→p<q→q≤i→lt (g ys p) (g ys q))
  (fun st=>st.1.toNat) (fun st ej=>by
   obtain⟨j,ys,rfl,akE,rJ,aq,gv,ig,aL,fA,hV,Nf⟩:=ej
   have T8:∀p,a≤p→p≤i→∃bO,a≤bO∧bO≤i∧g ys p=g xs bO:=fun p h1 h2=>by
    by_cases e:p=j
    ·subst e;exact ⟨i,u4,Nat.le_refl _,aL⟩
    ·obtain⟨bO,aw,aH,aW⟩:=fA p h1 h2 e;exact ⟨bO,aw,by omega,aW⟩
   by_cases bn:a<j
   ·have T9:D (g ys j):=by rw[aL];exact cP i u4 (Nat.le_refl _)
    obtain⟨bO,aG,e2,bP⟩:=fA (j-1) (by omega) (by omega) (by omega)
    have T_:D (g ys (j-1)):=by rw[bP];exact cP bO aG (by omega)
    have hn:rz c lt (g ys j) (g ys (j-1)):=by rw[aL,bP];exact LV bO aG e2
    by_cases Gk:c (g ys j) (g ys (j-1))<0
    ·left
     have zL:=hn.1 Gk
     refine⟨(((j-1:Nat):Int),bh sl id (swp j (j-1) ys)), ?_,⟨j-1,_,rfl,by omega,by omega,by rw[Fk,aq],(FL (by omega) (by omega)).trans gv,fun p aa=>?_, ?_,fun p h1 h2 h3=>?_,fun p q h1 h2 h3 aI ba=>?_,fun q h1 h2=>?_⟩,by simp only[Int.toNat_natCast];omega⟩
     ·unfold jz.aZ
      try simp -implicitDefEqProofs only[gk,uN,sm]
      rw[decide_eq_true (by omega),cond_true,g8 (z:=(j:Int)-1) (m:=j-1) (by omega) (by omega),Int.toNat_natCast,Int.toNat_natCast,aS (by omega),kL aT aq (by omega)]
      try simp -implicitDefEqProofs only[Option.bind_some]
      rw[aS (by omega),kL aT aq (by omega)]
      try simp -implicitDefEqProofs only[Option.bind_some]
      rw[ao _ _ ys T9 T_ aq]
      try simp -implicitDefEqProofs only[B8,Option.bind_some]
      rw[decide_eq_true Gk]
      try simp -implicitDefEqProofs only[cond_true]
      rw[aS (by omega),kL aT aq (by omega)]
      try simp -implicitDefEqProofs only[Option.bind_some]
      rw[aS (by omega),kL aT aq (by omega)]
      try simp -implicitDefEqProofs only[Option.bind_some]
      rw[aS (by omega),u3 aT aq (by omega)]
      try simp -implicitDefEqProofs only[Option.bind_some]
      rw[aS (by omega),u3 aT (by simpa using aq) (by omega)]
      rfl
     ·rw[rn (by omega) (by omega),if_neg (by omega),if_neg (by omega)]
      exact ig p aa
     ·rw[rn (by omega) (by omega),if_pos rfl,aL]
     ·rw[rn (by omega) (by omega),if_neg h3]
      by_cases e:p=j
      ·subst e;rw[if_pos rfl];exact ⟨bO,aG,e2,bP⟩
      ·rw[if_neg e];exact fA p h1 h2 e
     ·rw[rn (by omega) (by omega),rn (by omega) (by omega),if_neg aI,if_neg ba]
      by_cases e:p=j
      ·subst e
       rw[if_pos rfl,if_neg (by omega)]
       exact hV (p-1) q (by omega) (by omega) h3 (by omega) (by omega)
      ·rw[if_neg e]
       by_cases dn:q=j
       ·subst dn
        rw[if_pos rfl]
        exact hV p (q-1) h1 (by omega) (by omega) (by omega) (by omega)
       ·rw[if_neg dn]
        exact hV p q h1 h2 h3 e dn
     ·rw[rn (by omega) (by omega),rn (by omega) (by omega),if_pos rfl,if_neg (by omega)]
      by_cases e:q=j
      ·subst e;rw[if_pos rfl];exact zL
      ·rw[if_neg e];exact Nf q (by omega) h2
    ·right
     refine⟨(.aP (),bh sl id ys), ?_,ys,rfl,aq,gv,ig,T8,fun p q h1 h2 h3=>?_⟩
     ·unfold jz.aZ
      try simp -implicitDefEqProofs only[gk,uN,sm]
      rw[decide_eq_true (by omega),cond_true,g8 (z:=(j:Int)-1) (m:=j-1) (by omega) (by omega),Int.toNat_natCast,Int.toNat_natCast,aS (by omega),kL aT aq (by omega)]
      try simp -implicitDefEqProofs only[Option.bind_some]
      rw[aS (by omega),kL aT aq (by omega)]
      try simp -implicitDefEqProofs only[Option.bind_some]
      rw[ao _ _ ys T9 T_ aq]
      try simp -implicitDefEqProofs only[B8,Option.bind_some]
      rw[decide_eq_false Gk]
      rfl
     ·have hy:=hn.2 Gk
      by_cases e:q=j
      ·subst e
       by_cases dn:p=q-1
       ·subst dn;exact hy
       ·exact fy _ _ _ (hV p (q-1) h1 (by omega) (by omega) (by omega) (by omega)) hy
      ·by_cases dn:p=j
       ·subst dn;exact Nf q h2 h3
       ·exact hV p q h1 h2 h3 dn e
   ·right
    refine⟨(.aP (),bh sl id ys), ?_,ys,rfl,aq,gv,ig,T8,fun p q h1 h2 h3=>?_⟩
    ·unfold jz.aZ
     try simp -implicitDefEqProofs only[gk]
     rw[decide_eq_false (by omega)]
     rfl
    ·by_cases dn:p=j
     ·subst dn;exact Nf q h2 h3
     ·exact hV p q h1 h2 h3 dn (by omega)) bd ((i:Int),bh sl id xs)
  ⟨i,xs,rfl,u4,Nat.le_refl _,aM,.refl _,fun _ _=>rfl,rfl,fun p h1 h2 h3=>⟨p,h1,by omega,rfl⟩,fun p q h1 h2 h3 aI ba=>ad p q h1 h2 (by omega),fun q h1 h2=>by omega⟩ (dj (by
   simp only[Int.toNat_natCast]
   omega))
 obtain⟨ys,rfl,k⟩:=aa
 exact ⟨ys,af,k⟩
theorem OB(aT:id<sl.length)(lV:n<4611686018427387904)(ao:tC T v sl id n D c)(fy:∀x y z,lt x y→lt y z→lt x z){xs:List Int}(aM:xs.length=n){a b:Nat}(oc:a≤b)(aE:b≤n)
  (cP:∀k,a≤k→k<b→D (g xs k))(LV:∀p q,a≤p→p<q→q<b→rz c lt (g xs q) (g xs p)):
  ∃ys,jz T (eo id n t) (a:Int) (b:Int) v (bh sl id xs)=some ((),bh sl id ys)∧ys.length=n∧ys.Perm xs∧(∀p,¬(a≤p∧p<b)→g ys p=g xs p)∧
   (∀p,a≤p→p<b→∃bO,a≤bO∧bO<b∧g ys p=g xs bO)∧∀p q,a≤p→p<q→q<b→lt (g ys p) (g ys q):=by
 obtain⟨r,af,aa⟩:=ft (f:=jz.cl T (eo id n t) (a:Int) (b:Int) v)
  (Inv:=fun st=>∃(i:Nat) (ys:List Int),st=((i:Int),bh sl id ys)∧a<i∧(i≤b∨i=a+1)∧ys.length=n∧ys.Perm xs∧(∀p,¬(a≤p∧p<i∧p<b)→g ys p=g xs p)∧
   (∀p,a≤p→p<i→p<b→∃bO,a≤bO∧bO<i∧bO<b∧g ys p=g xs bO)∧∀p q,a≤p→p<q→q<i→q<b→lt (g ys p) (g ys q))
  (Post:=fun r=>∃ys,r=(.aP (),bh sl id ys)∧ys.length=n∧ys.Perm xs∧(∀p,¬(a≤p∧p<b)→g ys p=g xs p)∧
   (∀p,a≤p→p<b→∃bO,a≤bO∧bO<b∧g ys p=g xs bO)∧∀p q,a≤p→p<q→q<b→lt (g ys p) (g ys q))
  (fun st=>n+1-st.1.toNat) (fun st ej=>by
   obtain⟨i,ys,rfl,u4,tl,aq,gv,ig,fA,hV⟩:=ej
   by_cases bn:i<b
   ·left
    obtain⟨cC,h1,h2,h3,aI,ba,bp⟩:=X_ (t:=t) aT lV ao fy aq (a:=a) (i:=i) (by omega) (by omega) (fun k aw aH=>by
      by_cases e:k<i
      ·obtain⟨bO,aG,e2,bP,eC⟩:=fA k aw e (by omega)
       rw[eC];exact cP bO aG bP
      ·rw[ig k (by omega)];exact cP k aw (by omega)) (fun p q aw aH aW=>hV p q aw aH aW (by omega)) (fun p aw aH=>by
      obtain⟨bO,aG,e2,bP,eC⟩:=fA p aw aH (by omega)
      rw[eC,ig i (by omega)]
      exact LV bO i aG e2 bn)
    refine⟨(((i+1:Nat):Int),bh sl id cC), ?_,⟨i+1,cC,rfl,by omega,by omega,h2,h3.trans gv,fun p aa=>?_,fun p aw aH aW=>?_,fun p q aw aH aW bq=>bp p q aw aH (by omega)⟩,by simp only[Int.toNat_natCast];omega⟩
    ·unfold jz.cl
     try simp -implicitDefEqProofs only[]
     rw[decide_eq_true (by omega),cond_true,h1]
     try simp -implicitDefEqProofs only[Option.bind_some]
     rw[dO (by omega)]
    ·rw[aI p (by omega),ig p (by omega)]
    ·obtain⟨bO,aG,e2,bP⟩:=ba p aw (by omega)
     rw[bP]
     by_cases e:bO<i
     ·obtain⟨cH,f1,f2,f3,f4⟩:=fA bO aG e (by omega)
      exact ⟨cH,f1,by omega,f3,f4⟩
     ·exact ⟨bO,aG,by omega,by omega,ig bO (by omega)⟩
   ·right
    refine⟨(.aP (),bh sl id ys), ?_,ys,rfl,aq,gv,fun p aa=>ig p (by omega),fun p aw aH=>?_,fun p q aw aH aW=>hV p q aw aH (by omega) aW⟩
    ·unfold jz.cl
     try simp -implicitDefEqProofs only[]
     rw[decide_eq_false (by omega)]
     rfl
    ·obtain⟨bO,aG,e2,bP,eC⟩:=fA p aw (by omega) aH
     exact ⟨bO,aG,bP,eC⟩) bd (((a+1:Nat):Int),bh sl id xs)
  ⟨a+1,xs,rfl,by omega,.inr rfl,aM,.refl _,fun _ _=>rfl,fun p h1 h2 h3=>⟨p,h1,h2,h3,rfl⟩,fun p q h1 h2 h3 aI=>by omega⟩ (dj (by
   simp only[Int.toNat_natCast]
   omega))
 obtain⟨ys,rfl,k⟩:=aa
 refine⟨ys, ?_,k⟩
 unfold jz
 rw[g8 (z:=(a:Int)+1) (m:=a+1) (by omega) (by omega),af]
 rfl
end sort
theorem B1{i j:Nat}(h:i+j<9223372036854775808):IntKind.wrap .i64 (Int.fdiv (IntKind.wrap .u64 (IntKind.wrap .i64 ((i:Int)+(j:Int)))) (2^(min (Int.toNat 1) (IntKind.bits .u64))))=(((i+j)/2:Nat):Int):=by
 rw[g8 (z:=(i:Int)+j) (m:=i+j) (by omega) h,IntWalk.u64_in _ (by omega)]
 rw[show(2:Int)^(min (Int.toNat 1) (IntKind.bits .u64))=((2:Nat):Int)from rfl,Int.fdiv_eq_ediv_of_nonneg _ (by omega),←Int.natCast_ediv]
 exact uk (by omega)
theorem bsearch{hh:H}{F:Type}{f:(Int×Int)×H→Option (ca ((Int×Int)×H) (bG Int F×H))}{lo hi:Nat}(ahN:lo≤hi)(akb:hi<4611686018427387904)(P:Nat→Bool)(G B:Nat→Prop)
  (ak:∀i j:Nat,lo≤i→i<j→j≤hi→f (((i:Int),(j:Int)),hh)=some (.more ((((if P ((i+j)/2)=true then(i+j)/2+1 else i:Nat):Int),((if P ((i+j)/2)=true then j else (i+j)/2:Nat):Int)),hh)))
  (bF:∀i:Nat,f (((i:Int),(i:Int)),hh)=some (.done (.aP (i:Int),hh)))
  (ajA:∀c,lo≤c→c<hi→P c=true→∀bg,lo≤bg→bg≤c→G bg)(iy:∀c,lo≤c→c<hi→P c=false→∀bg,c≤bg→bg<hi→B bg):
  ∃s:Nat,iter bd f (((lo:Int),(hi:Int)),hh)=some (.aP (s:Int),hh)∧lo≤s∧s≤hi∧(∀c,lo≤c→c<s→G c)∧∀c,s≤c→c<hi→B c:=by
 obtain⟨r,af,aa⟩:=ft (f:=f) (Inv:=fun st=>∃i j:Nat,st=(((i:Int),(j:Int)),hh)∧lo≤i∧i≤j∧j≤hi∧(∀c,lo≤c→c<i→G c)∧∀c,j≤c→c<hi→B c)
  (Post:=fun r=>∃s:Nat,r=(.aP (s:Int),hh)∧lo≤s∧s≤hi∧(∀c,lo≤c→c<s→G c)∧∀c,s≤c→c<hi→B c)
  (fun st=>st.1.2.toNat-st.1.1.toNat) (fun st ej=>by
   obtain⟨i,j,rfl,h1,h2,h3,aI,ba⟩:=ej
   rcases Nat.lt_or_ge i j with bn |hy
   ·left
    refine⟨_,ak i j h1 bn h3, ?_, ?_⟩
    ·cases EM:P ((i+j)/2)with
     |true=>
      refine⟨_,_,rfl,by simp only[if_true];omega,by simp only[if_true];omega,by simpa using h3,fun c aw aH=>?_,by simpa using ba⟩
      simp only[if_true]at aH
      exact ajA ((i+j)/2) (by omega) (by omega) EM c aw (by omega)
     |false=>
      refine⟨_,_,rfl,by simpa using h1,by simp;omega,by simp;omega,by simpa using aI,fun c aw aH=>?_⟩
      simp at aw
      exact iy ((i+j)/2) (by omega) (by omega) EM c (by omega) aH
    ·cases EM:P ((i+j)/2)<;>simp<;>omega
   ·right
    have:i=j:=by omega
    subst this
    exact ⟨_,bF i,i,rfl,h1,h3,aI,ba⟩) bd (((lo:Int),(hi:Int)),hh) ⟨lo,hi,rfl,Nat.le_refl _,ahN,Nat.le_refl _,fun c aw aH=>by omega,fun c aw aH=>by omega⟩ (dj (by
   simp only[Int.toNat_natCast]
   omega))
 obtain⟨s,rfl,k⟩:=aa
 exact ⟨s,af,k⟩
section sort
variable{T:Table}{v:V}{sl:List Slot}{id n:Nat}{t:Bool}{D:Int→Prop}{c:Int→Int→Int}{lt:Int→Int→Prop}
theorem aaM(aT:id<sl.length)(lV:n<4611686018427387904){xs:List Int}(aM:xs.length=n){a i:Nat}(u4:a<i)(hi:i≤n):
  ∃ys,iter bd (dz.cl T (eo id n t) (i:Int)) ((a:Int),bh sl id xs)=some (.aP (),bh sl id ys)∧ys.length=n∧ys.Perm xs∧
   ∀p,g ys p=if a≤p∧p<i-1 then g xs (p+1)else if p=i-1 then g xs a else g xs p:=by
 obtain⟨r,af,aa⟩:=ft (f:=dz.cl T (eo id n t) (i:Int))
  (Inv:=fun st=>∃(k:Nat) (ys:List Int),st=((k:Int),bh sl id ys)∧a≤k∧k≤i-1∧ys.length=n∧ys.Perm xs∧∀p,g ys p=if a≤p∧p<k then g xs (p+1)else if p=k then g xs a else g xs p)
  (Post:=fun r=>∃ys,r=(.aP (),bh sl id ys)∧ys.length=n∧ys.Perm xs∧∀p,g ys p=if a≤p∧p<i-1 then g xs (p+1)else if p=i-1 then g xs a else g xs p)
  (fun st=>n-st.1.toNat) (fun st ej=>by
   obtain⟨k,ys,rfl,ahO,Ej,aq,gv,aQ⟩:=ej
   rcases Nat.lt_or_ge k (i-1)with bn |hy
   ·left
    refine⟨(((k+1:Nat):Int),bh sl id (swp k (k+1) ys)), ?_,⟨k+1,_,rfl,by omega,by omega,by rw[Fk,aq],(FL (by omega) (by omega)).trans gv,fun p=>?_⟩,by simp only[Int.toNat_natCast];omega⟩
    ·unfold dz.cl
     try simp -implicitDefEqProofs only[gk,uN,sm]
     rw[g8 (z:=(i:Int)-1) (m:=i-1) (by omega) (by omega),decide_eq_true (by omega),cond_true,g8 (z:=(k:Int)+1) (m:=k+1) (by omega) (by omega),Int.toNat_natCast,Int.toNat_natCast,aS (by omega),kL aT aq (by omega)]
     try simp -implicitDefEqProofs only[Option.bind_some]
     rw[aS (by omega),kL aT aq (by omega)]
     try simp -implicitDefEqProofs only[Option.bind_some]
     rw[aS (by omega),u3 aT aq (by omega)]
     try simp -implicitDefEqProofs only[Option.bind_some]
     rw[aS (by omega),u3 aT (by simpa using aq) (by omega)]
     rfl
    ·rw[rn (by omega) (by omega),aQ,aQ,aQ]
     by_cases bL:p=k+1
     ·subst bL
      rw[if_pos rfl,if_neg (by omega),if_pos rfl,if_neg (by omega),if_pos rfl]
     ·rw[if_neg bL]
      by_cases a_:p=k
      ·subst a_
       rw[if_pos rfl,if_neg (by omega),if_neg (by omega),if_pos (by omega)]
      ·rw[if_neg a_,if_neg a_]
       by_cases cY:a≤p∧p<k
       ·rw[if_pos cY,if_pos (by omega)]
       ·rw[if_neg cY,if_neg (by omega),if_neg bL]
   ·right
    have:k=i-1:=by omega
    subst this
    refine⟨(.aP (),bh sl id ys), ?_,ys,rfl,aq,gv,aQ⟩
    unfold dz.cl
    try simp -implicitDefEqProofs only[]
    rw[g8 (z:=(i:Int)-1) (m:=i-1) (by omega) (by omega),decide_eq_false (by omega)]
    rfl) bd ((a:Int),bh sl id xs) ⟨a,xs,rfl,Nat.le_refl _,by omega,aM,.refl _,fun p=>by
    rw[if_neg (by omega)]
    by_cases e:p=a
    ·subst e;rw[if_pos rfl]
    ·rw[if_neg e]⟩ (dj (by
    simp only[Int.toNat_natCast]
    omega))
 obtain⟨ys,rfl,k⟩:=aa
 exact ⟨ys,af,k⟩
theorem aaN(aT:id<sl.length)(lV:n<4611686018427387904){xs:List Int}(aM:xs.length=n){m i:Nat}(DX:i≤m)(hm:m<n):
  ∃ys,iter bd (dz.nU T (eo id n t) (i:Int)) ((m:Int),bh sl id xs)=some (.aP (),bh sl id ys)∧ys.length=n∧ys.Perm xs∧
   ∀p,g ys p=if i<p∧p≤m then g xs (p-1)else if p=i then g xs m else g xs p:=by
 obtain⟨r,af,aa⟩:=ft (f:=dz.nU T (eo id n t) (i:Int))
  (Inv:=fun st=>∃(k:Nat) (ys:List Int),st=((k:Int),bh sl id ys)∧i≤k∧k≤m∧ys.length=n∧ys.Perm xs∧∀p,g ys p=if k<p∧p≤m then g xs (p-1)else if p=k then g xs m else g xs p)
  (Post:=fun r=>∃ys,r=(.aP (),bh sl id ys)∧ys.length=n∧ys.Perm xs∧∀p,g ys p=if i<p∧p≤m then g xs (p-1)else if p=i then g xs m else g xs p)
  (fun st=>st.1.toNat) (fun st ej=>by
   obtain⟨k,ys,rfl,ahO,Ej,aq,gv,aQ⟩:=ej
   rcases Nat.lt_or_ge i k with bn |hy
   ·left
    refine⟨(((k-1:Nat):Int),bh sl id (swp k (k-1) ys)), ?_,⟨k-1,_,rfl,by omega,by omega,by rw[Fk,aq],(FL (by omega) (by omega)).trans gv,fun p=>?_⟩,by simp only[Int.toNat_natCast];omega⟩
    ·unfold dz.nU
     try simp -implicitDefEqProofs only[gk,uN,sm]
     rw[decide_eq_true (by omega),cond_true,g8 (z:=(k:Int)-1) (m:=k-1) (by omega) (by omega),Int.toNat_natCast,Int.toNat_natCast,aS (by omega),kL aT aq (by omega)]
     try simp -implicitDefEqProofs only[Option.bind_some]
     rw[aS (by omega),kL aT aq (by omega)]
     try simp -implicitDefEqProofs only[Option.bind_some]
     rw[aS (by omega),u3 aT aq (by omega)]
     try simp -implicitDefEqProofs only[Option.bind_some]
     rw[aS (by omega),u3 aT (by simpa using aq) (by omega)]
     rfl
    ·rw[rn (by omega) (by omega),aQ,aQ,aQ]
     by_cases bL:p=k-1
     ·subst bL
      rw[if_pos rfl,if_neg (by omega),if_pos rfl,if_neg (by omega),if_pos rfl]
     ·rw[if_neg bL]
      by_cases a_:p=k
      ·subst a_
       rw[if_pos rfl,if_neg (by omega),if_neg (by omega),if_pos (by omega)]
      ·rw[if_neg a_,if_neg a_]
       by_cases cY:k<p∧p≤m
       ·rw[if_pos cY,if_pos (by omega)]
       ·rw[if_neg cY,if_neg (by omega),if_neg bL]
   ·right
    have:k=i:=by omega
    subst this
    refine⟨(.aP (),bh sl id ys), ?_,ys,rfl,aq,gv,aQ⟩
    unfold dz.nU
    try simp -implicitDefEqProofs only[]
    rw[decide_eq_false (by omega)]
    rfl) bd ((m:Int),bh sl id xs) ⟨m,xs,rfl,DX,Nat.le_refl _,aM,.refl _,fun p=>by
    rw[if_neg (by omega)]
    by_cases e:p=m
    ·subst e;rw[if_pos rfl]
    ·rw[if_neg e]⟩ (dj (by
    simp only[Int.toNat_natCast]
    omega))
 obtain⟨ys,rfl,k⟩:=aa
 exact ⟨ys,af,k⟩
end sort
section sort
variable{T:Table}{v:V}{sl:List Slot}{id n:Nat}{t:Bool}{D:Int→Prop}{c:Int→Int→Int}{lt:Int→Int→Prop}
def Ordered (lt:Int→Int→Prop)(n a b:Nat)(xs ys:List Int):Prop:=
 ys.length=n∧ys.Perm xs∧(∀p,¬(a≤p∧p<b)→g ys p=g xs p)∧(∀p,a≤p→p<b→∃bO,a≤bO∧bO<b∧g ys p=g xs bO)∧∀p q,a≤p→p<q→q<b→lt (g ys p) (g ys q)
theorem zz{lt:Int→Int→Prop}(fy:∀x y z,lt x y→lt y z→lt x z){xs:List Int}{a b:Nat}(ad:∀p q,a≤p→p<q→q<b→lt (g xs p) (g xs q)){p q:Nat}{z:Int}(h1:a≤p)(h2:p≤q)(h3:q<b)(h:lt (g xs q) z):lt (g xs p) z:=by
 rcases Nat.lt_or_ge p q with aI|aI
 ·exact fy _ _ _ (ad p q h1 aI h3) h
 ·have:p=q:=by omega
  subst this;exact h
theorem zA{lt:Int→Int→Prop}(fy:∀x y z,lt x y→lt y z→lt x z){xs:List Int}{a b:Nat}(ad:∀p q,a≤p→p<q→q<b→lt (g xs p) (g xs q)){p q:Nat}{z:Int}(h1:a≤p)(h2:p≤q)(h3:q<b)(h:lt z (g xs p)):lt z (g xs q):=by
 rcases Nat.lt_or_ge p q with aI|aI
 ·exact fy _ _ _ h (ad p q h1 aI h3)
 ·have:p=q:=by omega
  subst this;exact h
theorem Xi(aT:id<sl.length)(lV:n<4611686018427387904)(ao:tC T v sl id n D c)(fy:∀x y z,lt x y→lt y z→lt x z){xs:List Int}(aM:xs.length=n){a b:Nat}(oc:a+1<b)(aE:b≤n)
  (cP:∀k,a≤k→k<b→D (g xs k))(fi:∀p q,a+1≤p→p<q→q<b→lt (g xs p) (g xs q))(hn:∀q,a+1≤q→q<b→rz c lt (g xs q) (g xs a)):
  ∃(s:Nat) (ys:List Int),iter bd (dz.aZ T (eo id n t) (a:Int) v) ((((a+1:Nat):Int),(b:Int)),bh sl id xs)=some (.aP (s:Int),bh sl id xs)∧
   iter bd (dz.cl T (eo id n t) (s:Int)) ((a:Int),bh sl id xs)=some (.aP (),bh sl id ys)∧Ordered lt n a b xs ys:=by
 obtain⟨s,h1,h2,h3,aI,ba⟩:=bsearch (f:=dz.aZ T (eo id n t) (a:Int) v) (hh:=bh sl id xs) (lo:=a+1) (hi:=b) (by omega) (by omega) (fun k=>decide (c (g xs k) (g xs a)<0)) (fun k=>lt (g xs k) (g xs a)) (fun k=>lt (g xs a) (g xs k))
  (fun i j aw aH aW=>by
   unfold dz.aZ
   try simp -implicitDefEqProofs only[gk,uN,sm]
   rw[decide_eq_true (by omega),cond_true,B1 (by omega),Int.toNat_natCast,Int.toNat_natCast,aS (by omega),kL aT aM (by omega)]
   try simp -implicitDefEqProofs only[Option.bind_some]
   rw[aS (by omega),kL aT aM (by omega)]
   try simp -implicitDefEqProofs only[Option.bind_some]
   rw[ao _ _ xs (cP _ (by omega) (by omega)) (cP _ (by omega) (by omega)) aM]
   try simp -implicitDefEqProofs only[B8,Option.bind_some]
   rw[dO (by omega)]
   by_cases aq:c (g xs ((i+j)/2)) (g xs a)<0
   ·simp -implicitDefEqProofs only[decide_eq_true aq,cond_true,if_true];rfl
   ·simp -implicitDefEqProofs only[decide_eq_false aq,cond_false];rfl)
  (fun i=>by
   unfold dz.aZ
   try simp -implicitDefEqProofs only[]
   rw[decide_eq_false (by omega)]
   rfl)
  (fun k aw aH aW e_ bq bU=>zz fy fi bq bU aH ((hn k aw aH).1 (of_decide_eq_true aW)))
  (fun k aw aH aW e_ bq bU=>zA fy fi aw bq bU ((hn k aw aH).2 (of_decide_eq_false aW)))
 obtain⟨ys,bu,bs,b6,cd⟩:=aaM (T:=T) (t:=t) aT lV aM (a:=a) (i:=s) (by omega) (by omega)
 refine⟨s,ys,h1,bu,bs,b6,fun p aa=>?_,fun p dh cH=>?_,fun p q dh cH fS=>?_⟩
 ·rw[cd,if_neg (by omega),if_neg (by omega)]
 ·rw[cd]
  by_cases bL:a≤p∧p<s-1
  ·rw[if_pos bL];exact ⟨p+1,by omega,by omega,rfl⟩
  ·rw[if_neg bL]
   by_cases a_:p=s-1
   ·rw[if_pos a_];exact ⟨a,by omega,by omega,rfl⟩
   ·rw[if_neg a_];exact ⟨p,dh,cH,rfl⟩
 ·rw[cd,cd]
  by_cases bL:p<s-1
  ·rw[if_pos (by omega)]
   by_cases a_:q<s-1
   ·rw[if_pos (by omega)];exact fi _ _ (by omega) (by omega) (by omega)
   ·rw[if_neg (by omega)]
    by_cases cY:q=s-1
    ·rw[if_pos cY];exact aI _ (by omega) (by omega)
    ·rw[if_neg cY];exact fi _ _ (by omega) (by omega) (by omega)
  ·rw[if_neg (by omega)]
   by_cases cY:p=s-1
   ·rw[if_pos cY,if_neg (by omega),if_neg (by omega)];exact ba _ (by omega) (by omega)
   ·rw[if_neg cY,if_neg (by omega),if_neg (by omega)];exact fi _ _ (by omega) (by omega) (by omega)
theorem merge_right (aT:id<sl.length)(lV:n<4611686018427387904)(ao:tC T v sl id n D c)(fy:∀x y z,lt x y→lt y z→lt x z){xs:List Int}(aM:xs.length=n){a m:Nat}(Aw:a<m)(hm:m<n)
  (cP:∀k,a≤k→k<m+1→D (g xs k))(iu:∀p q,a≤p→p<q→q<m→lt (g xs p) (g xs q))(hn:∀p,a≤p→p<m→rz c lt (g xs m) (g xs p)):
  ∃(s:Nat) (ys:List Int),iter bd (dz.fM T (eo id n t) (m:Int) v) (((a:Int),(m:Int)),bh sl id xs)=some (.aP (s:Int),bh sl id xs)∧
   iter bd (dz.nU T (eo id n t) (s:Int)) ((m:Int),bh sl id xs)=some (.aP (),bh sl id ys)∧Ordered lt n a (m+1) xs ys:=by
 obtain⟨s,h1,h2,h3,aI,ba⟩:=bsearch (f:=dz.fM T (eo id n t) (m:Int) v) (hh:=bh sl id xs) (lo:=a) (hi:=m) (by omega) (by omega) (fun k=>!decide (c (g xs m) (g xs k)<0)) (fun k=>lt (g xs k) (g xs m)) (fun k=>lt (g xs m) (g xs k))
  (fun i j aw aH aW=>by
   unfold dz.fM
   try simp -implicitDefEqProofs only[gk,uN,sm]
   rw[decide_eq_true (by omega),cond_true,B1 (by omega),Int.toNat_natCast,Int.toNat_natCast,aS (by omega),kL aT aM (by omega)]
   try simp -implicitDefEqProofs only[Option.bind_some]
   rw[aS (by omega),kL aT aM (by omega)]
   try simp -implicitDefEqProofs only[Option.bind_some]
   rw[ao _ _ xs (cP _ (by omega) (by omega)) (cP _ (by omega) (by omega)) aM]
   try simp -implicitDefEqProofs only[B8,Option.bind_some]
   rw[dO (by omega)]
   by_cases aq:c (g xs m) (g xs ((i+j)/2))<0
   ·simp -implicitDefEqProofs only[decide_eq_true aq,cond_true,cond_false,Bool.not_true];rfl
   ·simp -implicitDefEqProofs only[decide_eq_false aq,cond_true,cond_false,Bool.not_false,if_true];rfl)
  (fun i=>by
   unfold dz.fM
   try simp -implicitDefEqProofs only[]
   rw[decide_eq_false (by omega)]
   rfl)
  (fun k aw aH aW e_ bq bU=>zz fy iu bq bU aH ((hn k aw aH).2 (by simpa using aW)))
  (fun k aw aH aW e_ bq bU=>zA fy iu aw bq bU ((hn k aw aH).1 (by simpa using aW)))
 obtain⟨ys,bu,bs,b6,cd⟩:=aaN (T:=T) (t:=t) aT lV aM (m:=m) (i:=s) (by omega) (by omega)
 refine⟨s,ys,h1,bu,bs,b6,fun p aa=>?_,fun p dh cH=>?_,fun p q dh cH fS=>?_⟩
 ·rw[cd,if_neg (by omega),if_neg (by omega)]
 ·rw[cd]
  by_cases bL:s<p∧p≤m
  ·rw[if_pos bL];exact ⟨p-1,by omega,by omega,rfl⟩
  ·rw[if_neg bL]
   by_cases a_:p=s
   ·rw[if_pos a_];exact ⟨m,by omega,by omega,rfl⟩
   ·rw[if_neg a_];exact ⟨p,dh,cH,rfl⟩
 ·rw[cd,cd]
  by_cases bL:p<s
  ·rw[if_neg (show ¬(s<p∧p≤m) by omega),if_neg (by omega)]
   by_cases a_:s<q
   ·rw[if_pos (by omega)];exact iu _ _ (by omega) (by omega) (by omega)
   ·rw[if_neg (by omega)]
    by_cases cY:q=s
    ·rw[if_pos cY];exact aI _ (by omega) (by omega)
    ·rw[if_neg cY];exact iu _ _ (by omega) (by omega) (by omega)
  ·by_cases cY:p=s
   ·rw[if_neg (show ¬(s<p∧p≤m) by omega),if_pos cY,if_pos (by omega)];exact ba _ (by omega) (by omega)
   ·rw[if_pos (show s<p∧p≤m by omega),if_pos (by omega)];exact iu _ _ (by omega) (by omega) (by omega)
theorem IE(aT:id<sl.length)(lV:n<1152921504606846976)(ao:tC T v sl id n D c)(fy:∀x y z,lt x y→lt y z→lt x z):∀(d a m b:Nat) (xs:List Int),xs.length=n→a<m→m<b→b≤n→b-a≤2^d→
  (∀k,a≤k→k<b→D (g xs k))→(∀p q,a≤p→p<q→q<m→lt (g xs p) (g xs q))→(∀p q,m≤p→p<q→q<b→lt (g xs p) (g xs q))→(∀p q,a≤p→p<m→m≤q→q<b→rz c lt (g xs q) (g xs p))→
  ∃ys,dz.ka T d (eo id n t) (a:Int) (m:Int) (b:Int) v (bh sl id xs)=some ((),bh sl id ys)∧Ordered lt n a b xs ys
 |0,a,m,b,xs,aM,Aw,u1,aE,bF,cP,iu,fi,hn=>by omega
 |d+1,a,m,b,xs,aM,Aw,u1,aE,bF,cP,iu,fi,hn=>by
  show∃ys,dz.step T (dz.ka T d) (eo id n t) (a:Int) (m:Int) (b:Int) v (bh sl id xs)=some ((),bh sl id ys)∧Ordered lt n a b xs ys
  unfold dz.step
  rw[g8 (z:=(m:Int)-a) (m:=m-a) (by omega) (by omega)]
  by_cases h1:m-a=1
  ·have ahP:m=a+1:=by omega
   subst ahP
   obtain⟨s,ys,aw,aH,aW⟩:=Xi (t:=t) aT (by omega) ao fy aM (a:=a) (b:=b) (by omega) aE cP fi (fun q cy dd=>hn a q (Nat.le_refl _) (by omega) cy dd)
   refine⟨ys, ?_,aW⟩
   rw[decide_eq_true (by omega),aw]
   try simp -implicitDefEqProofs only[cond_true,Option.bind_some]
   rw[aH]
   rfl
  ·rw[decide_eq_false (show ¬(((m-a:Nat):Int)=1) by omega),g8 (z:=(b:Int)-m) (m:=b-m) (by omega) (by omega)]
   try simp -implicitDefEqProofs only[cond_false]
   by_cases h2:b-m=1
   ·have G9:b=m+1:=by omega
    subst G9
    obtain⟨s,ys,aw,aH,aW⟩:=merge_right (t:=t) aT (by omega) ao fy aM (a:=a) (m:=m) Aw (by omega) cP iu (fun p dh cH=>hn p m dh cH (Nat.le_refl _) (by omega))
    refine⟨ys, ?_,aW⟩
    rw[decide_eq_true (by omega),aw]
    try simp -implicitDefEqProofs only[cond_true,Option.bind_some]
    rw[aH]
    rfl
   ·rw[decide_eq_false (show ¬(((b-m:Nat):Int)=1) by omega),B1 (i:=a) (j:=b) (by omega)]
    try simp -implicitDefEqProofs only[cond_false]
    obtain⟨mid,SY⟩:∃mid,mid=(a+b)/2:=⟨_,rfl⟩
    rw[←SY,g8 (z:=(mid:Int)+m) (m:=mid+m) (by omega) (by omega)]
    obtain⟨lo,hY⟩:∃lo,lo=if mid<m then mid+m-b else a:=⟨_,rfl⟩
    obtain⟨hi,xj⟩:∃hi,hi=if mid<m then mid else m:=⟨_,rfl⟩
    have oX:(bif decide ((mid:Int)<(m:Int))then(some (.next (IntKind.wrap .i64 (((mid+m:Nat):Int)-(b:Int)),(mid:Int)),bh sl id xs):Option (bG (Int×Int) Unit×H))else some (.next ((a:Int),(m:Int)),bh sl id xs))=some (.next ((lo:Int),(hi:Int)),bh sl id xs):=by
     by_cases e:mid<m
     ·rw[decide_eq_true (by omega),g8 (z:=((mid+m:Nat):Int)-b) (m:=mid+m-b) (by omega) (by omega),hY,xj,if_pos e,if_pos e];rfl
     ·rw[decide_eq_false (by omega),hY,xj,if_neg e,if_neg e];rfl
    rw[oX]
    try simp -implicitDefEqProofs only[Option.bind_some]
    have b8:lo≤hi∧a≤lo∧hi≤m∧hi≤mid∧(lo=a∨lo=mid+m-b)∧(hi=mid∨hi=m)∧mid+m-lo≤b:=by
     by_cases e:mid<m
     ·rw[if_pos e]at hY xj;omega
     ·rw[if_neg e]at hY xj;omega
    clear hY xj oX
    obtain⟨b8,b2,mi,AP,NO,UX,alg⟩:=b8
    obtain⟨s,bu,bs,b6,cd,cp⟩:=bsearch (f:=dz.pV T (eo id n t) (a:Int) (m:Int) (b:Int) v) (hh:=bh sl id xs) (lo:=lo) (hi:=hi) b8 (by omega) (fun k=>!decide (c (g xs (mid+m-1-k)) (g xs k)<0)) (fun k=>lt (g xs k) (g xs (mid+m-1-k))) (fun k=>lt (g xs (mid+m-1-k)) (g xs k))
     (fun i j aw aH aW=>by
      unfold dz.pV
      try simp -implicitDefEqProofs only[gk,uN,sm]
      rw[decide_eq_true (by omega),cond_true,B1 (i:=a) (j:=b) (by omega),B1 (i:=i) (j:=j) (by omega),←SY,g8 (z:=(mid:Int)+m) (m:=mid+m) (by omega) (by omega),g8 (z:=((mid+m:Nat):Int)-1) (m:=mid+m-1) (by omega) (by omega),g8 (z:=((mid+m-1:Nat):Int)-(((i+j)/2:Nat):Int)) (m:=mid+m-1-(i+j)/2) (by omega) (by omega),Int.toNat_natCast,Int.toNat_natCast,aS (by omega),kL aT aM (by omega)]
      try simp -implicitDefEqProofs only[Option.bind_some]
      rw[aS (by omega),kL aT aM (by omega)]
      try simp -implicitDefEqProofs only[Option.bind_some]
      rw[ao _ _ xs (cP _ (by omega) (by omega)) (cP _ (by omega) (by omega)) aM]
      try simp -implicitDefEqProofs only[B8,Option.bind_some]
      rw[dO (by omega)]
      by_cases aq:c (g xs (mid+m-1-(i+j)/2)) (g xs ((i+j)/2))<0
      ·simp -implicitDefEqProofs only[decide_eq_true aq,cond_true,cond_false,Bool.not_true];rfl
      ·simp -implicitDefEqProofs only[decide_eq_false aq,cond_true,cond_false,Bool.not_false,if_true];rfl)
     (fun i=>by
      unfold dz.pV
      try simp -implicitDefEqProofs only[]
      rw[decide_eq_false (by omega)]
      rfl)
     (fun k aw aH aW e_ bq bU=>by
      have aO:=(hn k (mid+m-1-k) (by omega) (by omega) (by omega) (by omega)).2 (by simpa using aW)
      exact zz fy iu (by omega) bU (by omega) (zA fy fi (p:=mid+m-1-k) (by omega) (by omega) (by omega) aO))
     (fun k aw aH aW e_ bq bU=>by
      have aO:=(hn k (mid+m-1-k) (by omega) (by omega) (by omega) (by omega)).1 (by simpa using aW)
      exact zA fy iu (p:=k) (by omega) bq (by omega) (zz fy fi (p:=mid+m-1-e_) (q:=mid+m-1-k) (by omega) (by omega) (by omega) aO))
    rw[bu]
    try simp -implicitDefEqProofs only[Option.bind_some]
    obtain⟨e,he⟩:∃e,e=mid+m-s:=⟨_,rfl⟩
    rw[g8 (z:=((mid+m:Nat):Int)-s) (m:=e) (by omega) (by omega)]
    have ajB:a<s→e<b→lt (g xs (s-1)) (g xs e):=fun h1 h2=>by
     have:=cd (s-1) (by omega) (by omega)
     rwa [show mid+m-1-(s-1)=e by omega]at this
    have ajC:s<m→m<e→lt (g xs (e-1)) (g xs s):=fun h1 h2=>by
     have:=cp s (Nat.le_refl _) (by omega)
     rwa [show mid+m-1-s=e-1 by omega]at this
    clear cd cp bu
    have afc:∃ys,((bif decide ((s:Int)<(m:Int))then some (decide ((m:Int)<(e:Int)),bh sl id xs)else some (false,bh sl id xs):Option (Bool×H)).bind fun x=>(bif x.1 then((iE (dz.tb T) (eo id n t) (s:Int) (m:Int) (e:Int) v x.2).bind fun x=>some (.next (),x.2))else some (.next (),x.2):Option (bG Unit Unit×H)))=some (.next (),bh sl id ys)∧
      ys.length=n∧ys.Perm xs∧∀p,g ys p=if s≤p∧p<mid then g xs (p+(m-s))else if mid≤p∧p<e then g xs (p-(e-m))else g xs p:=by
     by_cases bw:s<m∧m<e
     ·obtain⟨ys,aw,aH,aW,bq⟩:=X9 (T:=dz.tb T) (v:=v) (t:=t) aT (by omega) aM (a:=s) (m:=m) (b:=e) bw.1 bw.2 (by omega)
      refine⟨ys, ?_,aH,aW,fun p=>?_⟩
      ·rw[decide_eq_true (by omega),decide_eq_true (by omega)]
       try simp -implicitDefEqProofs only[cond_true,Option.bind_some,aw]
      ·rw[bq p,show s+(e-m)=mid by omega]
     ·refine⟨xs, ?_,aM,.refl _,fun p=>?_⟩
      ·by_cases bJ:s<m
       ·rw[decide_eq_true (by omega),decide_eq_false (by omega)];rfl
       ·rw[decide_eq_false (by omega)];rfl
      ·by_cases bL:s≤p∧p<mid
       ·rw[if_pos bL];congr 1;omega
       ·rw[if_neg bL]
        by_cases a_:mid≤p∧p<e
        ·rw[if_pos a_];congr 1;omega
        ·rw[if_neg a_]
    obtain⟨ys,bw,bJ,ch,bQ⟩:=afc
    have Ax:∀p,a≤p→p<s→g ys p=g xs p:=fun p h1 h2=>by rw[bQ,if_neg (by omega),if_neg (by omega)]
    have Ay:∀p,s≤p→p<mid→g ys p=g xs (p+(m-s)):=fun p h1 h2=>by rw[bQ,if_pos ⟨h1,h2⟩]
    have xl:∀p,mid≤p→p<e→g ys p=g xs (p-(e-m)):=fun p h1 h2=>by rw[bQ,if_neg (by omega),if_pos ⟨h1,h2⟩]
    have xm:∀p,e≤p→g ys p=g xs p:=fun p h1=>by rw[bQ,if_neg (by omega),if_neg (by omega)]
    have Ua:∀k,a≤k→k<b→D (g ys k):=fun k h1 h2=>by
     by_cases bL:k<s
     ·rw[Ax k h1 bL];exact cP k h1 h2
     ·by_cases a_:k<mid
      ·rw[Ay k (by omega) a_];exact cP _ (by omega) (by omega)
      ·by_cases cY:k<e
       ·rw[xl k (by omega) cY];exact cP _ (by omega) (by omega)
       ·rw[xm k (by omega)];exact cP k h1 h2
    rw[←Option.bind_assoc,bw]
    try simp -implicitDefEqProofs only[Option.bind_some]
    have s1:∀p q,a≤p→p<q→q<s→lt (g ys p) (g ys q):=fun p q h1 h2 h3=>by rw[Ax p h1 (by omega),Ax q (by omega) h3];exact iu p q h1 h2 (by omega)
    have s2:∀p q,s≤p→p<q→q<mid→lt (g ys p) (g ys q):=fun p q h1 h2 h3=>by rw[Ay p h1 (by omega),Ay q (by omega) h3];exact fi _ _ (by omega) (by omega) (by omega)
    have cU:∀p q,mid≤p→p<q→q<e→lt (g ys p) (g ys q):=fun p q h1 h2 h3=>by rw[xl p h1 (by omega),xl q (by omega) h3];exact iu _ _ (by omega) (by omega) (by omega)
    have eD:∀p q,e≤p→p<q→q<b→lt (g ys p) (g ys q):=fun p q h1 h2 h3=>by rw[xm p h1,xm q (by omega)];exact fi _ _ (by omega) (by omega) (by omega)
    have Gl:∃cC,((bif decide ((a:Int)<(s:Int))then some (decide ((s:Int)<(mid:Int)),bh sl id ys)else some (false,bh sl id ys):Option (Bool×H)).bind fun x=>(bif x.1 then((dz.ka T d (eo id n t) (a:Int) (s:Int) (mid:Int) v x.2).bind fun x=>some (.next (),x.2))else some (.next (),x.2):Option (bG Unit Unit×H)))=some (.next (),bh sl id cC)∧Ordered lt n a mid ys cC:=by
     by_cases bL:a<s∧s<mid
     ·obtain⟨cC,aw,aH⟩:=IE aT lV ao fy d a s mid ys bJ bL.1 bL.2 (by omega) (by rw[Nat.pow_succ]at bF;omega) (fun k h1 h2=>Ua k h1 (by omega)) s1 s2 (fun p q h1 h2 h3 aI=>by
       rw[Ax p h1 h2,Ay q h3 aI];exact hn _ _ h1 (by omega) (by omega) (by omega))
      refine⟨cC, ?_,aH⟩
      rw[decide_eq_true (by omega),decide_eq_true (by omega)]
      try simp -implicitDefEqProofs only[cond_true,Option.bind_some,aw]
     ·refine⟨ys, ?_,bJ,.refl _,fun _ _=>rfl,fun p h1 h2=>⟨p,h1,h2,rfl⟩,fun p q h1 h2 h3=>?_⟩
      ·by_cases a_:a<s
       ·rw[decide_eq_true (by omega),decide_eq_false (by omega)];rfl
       ·rw[decide_eq_false (by omega)];rfl
      ·by_cases a_:a<s
       ·exact s1 p q h1 h2 (by omega)
       ·exact s2 p q (by omega) h2 h3
    obtain⟨cC,iz,hH,xD,HQ,rX,US⟩:=Gl
    rw[←Option.bind_assoc,iz]
    try simp -implicitDefEqProofs only[Option.bind_some]
    have qM:∀p,mid≤p→g cC p=g ys p:=fun p h=>HQ p (by omega)
    have aaO:∃ws,((bif decide ((mid:Int)<(e:Int))then some (decide ((e:Int)<(b:Int)),bh sl id cC)else some (false,bh sl id cC):Option (Bool×H)).bind fun x=>(bif x.1 then((dz.ka T d (eo id n t) (mid:Int) (e:Int) (b:Int) v x.2).bind fun x=>some (.next (),x.2))else some (.next (),x.2):Option (bG Unit Unit×H)))=some (.next (),bh sl id ws)∧Ordered lt n mid b cC ws:=by
     by_cases bL:mid<e∧e<b
     ·obtain⟨ws,aw,aH⟩:=IE aT lV ao fy d mid e b cC hH bL.1 bL.2 (by omega) (by rw[Nat.pow_succ]at bF;omega) (fun k h1 h2=>by rw[qM k h1];exact Ua k (by omega) h2) (fun p q h1 h2 h3=>by rw[qM p h1,qM q (by omega)];exact cU p q h1 h2 h3) (fun p q h1 h2 h3=>by rw[qM p (by omega),qM q (by omega)];exact eD p q h1 h2 h3) (fun p q h1 h2 h3 aI=>by
       rw[qM p h1,qM q (by omega),xl p h1 h2,xm q h3];exact hn _ _ (by omega) (by omega) (by omega) (by omega))
      refine⟨ws, ?_,aH⟩
      rw[decide_eq_true (by omega),decide_eq_true (by omega)]
      try simp -implicitDefEqProofs only[cond_true,Option.bind_some,aw]
     ·refine⟨cC, ?_,hH,.refl _,fun _ _=>rfl,fun p h1 h2=>⟨p,h1,h2,rfl⟩,fun p q h1 h2 h3=>?_⟩
      ·by_cases a_:mid<e
       ·rw[decide_eq_true (by omega),decide_eq_false (by omega)];rfl
       ·rw[decide_eq_false (by omega)];rfl
      ·rw[qM p h1,qM q (by omega)]
       by_cases a_:mid<e
       ·exact cU p q h1 h2 (by omega)
       ·exact eD p q (by omega) h2 h3
    obtain⟨ws,w1,w2,iA,mQ,NJ,ajD⟩:=aaO
    rw[←Option.bind_assoc,w1]
    try simp -implicitDefEqProofs only[Option.bind_some]
    refine⟨ws,rfl,w2,iA.trans (xD.trans ch),fun p aa=>?_,fun p h1 h2=>?_,fun p q h1 h2 h3=>?_⟩
    ·rw[mQ p (by omega),HQ p (by omega),bQ,if_neg (by omega),if_neg (by omega)]
    ·have aK:∃bO,a≤bO∧bO<b∧g ws p=g ys bO:=by
      by_cases bL:p<mid
      ·obtain⟨bO,aw,aH,aW⟩:=rX p h1 bL
       exact ⟨bO,aw,by omega,by rw[mQ p (by omega),aW]⟩
      ·obtain⟨bO,aw,aH,aW⟩:=NJ p (by omega) h2
       exact ⟨bO,by omega,aH,by rw[aW,qM bO aw]⟩
     obtain⟨bO,aw,aH,aW⟩:=aK
     rw[aW]
     by_cases bL:bO<s
     ·exact ⟨bO,aw,aH,Ax bO aw bL⟩
     ·by_cases a_:bO<mid
      ·exact ⟨_,by omega,by omega,Ay bO (by omega) a_⟩
      ·by_cases cY:bO<e
       ·exact ⟨_,by omega,by omega,xl bO (by omega) cY⟩
       ·exact ⟨bO,aw,aH,xm bO (by omega)⟩
    ·by_cases bL:q<mid
     ·rw[mQ p (by omega),mQ q (by omega)]
      exact US p q h1 h2 bL
     ·by_cases a_:mid≤p
      ·exact ajD p q a_ h2 h3
      ·obtain⟨bO,aw,aH,aW⟩:=rX p h1 (by omega)
       obtain⟨qN,bq,bU,ek⟩:=NJ q (by omega) h3
       rw[mQ p (by omega),aW,ek,qM qN bq]
       by_cases d1:bO<s
       ·rw[Ax bO aw d1]
        by_cases d2:qN<e
        ·rw[xl qN bq d2]
         exact iu _ _ aw (by omega) (by omega)
        ·rw[xm qN (by omega)]
         exact zz fy iu aw (show bO≤s-1 by omega) (by omega) (zA fy fi (p:=e) (q:=qN) (by omega) (by omega) (by omega) (ajB (by omega) (by omega)))
       ·rw[Ay bO (by omega) aH]
        by_cases d2:qN<e
        ·rw[xl qN bq d2]
         exact zz fy fi (by omega) (show bO+(m-s)≤e-1 by omega) (by omega) (zA fy iu (p:=s) (q:=qN-(e-m)) (by omega) (by omega) (by omega) (ajC (by omega) (by omega)))
        ·rw[xm qN (by omega)]
         exact fi _ _ (by omega) (by omega) (by omega)
end sort
theorem BH{S F:Type}{f:S→Option (ca S F)}{s bc:S}{k:Nat}(h:f s=some (.more bc)):iter (k+1) f s=iter k f bc:=by simp[iter,h]
theorem vC{S F:Type}{f:S→Option (ca S F)}{s:S}{x:F}{k:Nat}(h:f s=some (.done x)):iter (k+1) f s=some x:=by simp[iter,h]
theorem wg:bd=bd-3+1+1+1:=by unfold bd;omega
section sort
variable{T:Table}{v:V}{sl:List Slot}{id n:Nat}{t:Bool}{D:Int→Prop}{c:Int→Int→Int}{lt:Int→Int→Prop}
def aaP(lt:Int→Int→Prop)(n w:Nat)(xs ys:List Int):Prop:=
 ys.length=n∧ys.Perm xs∧(∀p,p<n→∃bO,bO<n∧bO/w=p/w∧g ys p=g xs bO)∧∀p q,p<q→q<n→p/w=q/w→lt (g ys p) (g ys q)
theorem Zh(aT:id<sl.length)(wN:n≤64)(ao:tC T v sl id n D c)(fy:∀x y z,lt x y→lt y z→lt x z){xs:List Int}(aM:xs.length=n)
  (cP:∀k,k<n→D (g xs k))(hn:∀p q,p<q→q<n→rz c lt (g xs q) (g xs p)):
  ∃(a:Nat) (ys cC:List Int),iter bd (dN.aZ T (eo id n t) (n:Int) v) ((0,20),bh sl id xs)=some (.aP (a:Int),bh sl id ys)∧
   jz (dN.tb T) (eo id n t) (a:Int) (n:Int) v (bh sl id ys)=some ((),bh sl id cC)∧aaP lt n 20 xs cC:=by
 obtain⟨r,af,aa⟩:=ft (f:=dN.aZ T (eo id n t) (n:Int) v)
  (Inv:=fun st=>∃(k:Nat) (ys:List Int),st=((((20*k:Nat):Int),((20*k+20:Nat):Int)),bh sl id ys)∧20*k≤n∧ys.length=n∧ys.Perm xs∧(∀p,20*k≤p→g ys p=g xs p)∧
   (∀p,p<20*k→∃bO,bO<20*k∧bO/20=p/20∧g ys p=g xs bO)∧∀p q,p<q→q<20*k→p/20=q/20→lt (g ys p) (g ys q))
  (Post:=fun r=>∃(k:Nat) (ys:List Int),r=(.aP ((20*k:Nat):Int),bh sl id ys)∧20*k≤n∧n<20*k+20∧ys.length=n∧ys.Perm xs∧(∀p,20*k≤p→g ys p=g xs p)∧
   (∀p,p<20*k→∃bO,bO<20*k∧bO/20=p/20∧g ys p=g xs bO)∧∀p q,p<q→q<20*k→p/20=q/20→lt (g ys p) (g ys q))
  (fun st=>n+20-st.1.2.toNat) (fun st ej=>by
   obtain⟨k,ys,rfl,aN,aq,gv,ig,fA,hV⟩:=ej
   by_cases bn:20*k+20≤n
   ·left
    obtain⟨cC,h1,h2,h3,aI,ba,bp⟩:=OB (T:=dN.tb T) (t:=t) aT (by omega) (fun x y xs=>ao x y xs) fy aq (a:=20*k) (b:=20*k+20) (by omega) bn (fun p dh cH=>by rw[ig p dh];exact cP p (by omega)) (fun p q dh cH fS=>by
     rw[ig p dh,ig q (by omega)];exact hn p q cH (by omega))
    refine⟨((((20*(k+1):Nat):Int),((20*(k+1)+20:Nat):Int)),bh sl id cC), ?_,⟨k+1,cC,rfl,by omega,h2,h3.trans gv,fun p aa=>?_,fun p aa=>?_,fun p q bE h8 h9=>?_⟩,by simp only[Int.toNat_natCast];omega⟩
    ·unfold dN.aZ
     try simp -implicitDefEqProofs only[]
     rw[decide_eq_true (by omega),cond_true,h1]
     try simp -implicitDefEqProofs only[Option.bind_some]
     rw[g8 (z:=((20*k+20:Nat):Int)+20) (m:=20*(k+1)+20) (by omega) (by omega)]
     rfl
    ·rw[aI p (by omega),ig p (by omega)]
    ·by_cases bL:p<20*k
     ·obtain⟨bO,aG,e2,bP⟩:=fA p bL
      exact ⟨bO,by omega,e2,by rw[aI p (by omega),bP]⟩
     ·obtain⟨bO,aG,e2,bP⟩:=ba p (by omega) (by omega)
      exact ⟨bO,by omega,by omega,by rw[bP,ig bO aG]⟩
    ·by_cases bL:q<20*k
     ·rw[aI p (by omega),aI q (by omega)]
      exact hV p q bE bL h9
     ·exact bp p q (by omega) bE (by omega)
   ·right
    refine⟨_, ?_,k,ys,rfl,aN,by omega,aq,gv,ig,fA,hV⟩
    unfold dN.aZ
    try simp -implicitDefEqProofs only[]
    rw[decide_eq_false (by omega),cond_false]) bd ((0,20),bh sl id xs) ⟨0,xs,rfl,by omega,aM,.refl _,fun _ _=>rfl,fun p aa=>by omega,fun p q h1 h2=>by omega⟩ (dj (by
   show n+20-(20:Int).toNat<2^69
   omega))
 obtain⟨k,ys,rfl,aN,qo,aq,gv,ig,fA,hV⟩:=aa
 obtain⟨cC,h1,h2,h3,aI,ba,bp⟩:=OB (T:=dN.tb T) (t:=t) aT (by omega) (fun x y xs=>ao x y xs) fy aq (a:=20*k) (b:=n) aN (Nat.le_refl _) (fun p dh cH=>by rw[ig p dh];exact cP p cH) (fun p q dh cH fS=>by
  rw[ig p dh,ig q (by omega)];exact hn p q cH fS)
 refine⟨20*k,ys,cC,af,h1,h2,h3.trans gv,fun p aa=>?_,fun p q bE h8 h9=>?_⟩
 ·by_cases bL:p<20*k
  ·obtain⟨bO,aG,e2,bP⟩:=fA p bL
   exact ⟨bO,by omega,e2,by rw[aI p (by omega),bP]⟩
  ·obtain⟨bO,aG,e2,bP⟩:=ba p (by omega) aa
   exact ⟨bO,e2,by omega,by rw[bP,ig bO aG]⟩
 ·by_cases bL:q<20*k
  ·rw[aI p (by omega),aI q (by omega)]
   exact hV p q bE bL h9
  ·exact bp p q (by omega) bE h8
theorem E7(aT:id<sl.length)(wN:n≤64)(ao:tC T v sl id n D c)(fy:∀x y z,lt x y→lt y z→lt x z){xs ys:List Int}(aM:ys.length=n){w a m b:Nat}(hw:0<w)(Aw:a<m)(u1:m<b)(aE:b≤n)
  (cP:∀k,k<n→D (g xs k))(hn:∀p q,p<q→q<n→rz c lt (g xs q) (g xs p))(fA:∀p,a≤p→p<b→∃bO,bO<n∧bO/w=p/w∧g ys p=g xs bO)
  (h1:∀p q,a≤p→p<q→q<m→lt (g ys p) (g ys q))(h2:∀p q,m≤p→p<q→q<b→lt (g ys p) (g ys q))(afd:∀p q,p<m→m≤q→p/w<q/w):
  ∃cC,dz T (eo id n t) (a:Int) (m:Int) (b:Int) v (bh sl id ys)=some ((),bh sl id cC)∧Ordered lt n a b ys cC:=by
 refine IE aT (by omega) ao fy 40 a m b ys aM Aw u1 aE (by omega) (fun k aw aH=>?_) h1 h2 (fun p q dh cH fS pr=>?_)
 ·obtain⟨bO,aG,e2,bP⟩:=fA k aw aH
  rw[bP];exact cP bO aG
 ·obtain⟨bO,aG,e2,bP⟩:=fA p dh (by omega)
  obtain⟨qN,f1,f2,f3⟩:=fA q (by omega) pr
  rw[bP,f3]
  have ao:=afd p q cH fS
  refine hn bO qN ?_ f1
  rw[←e2,←f2]at ao
  exact Nat.lt_of_not_le fun h=>Nat.not_lt.2 (Nat.div_le_div_right (c:=w) h) ao
theorem VG(aT:id<sl.length)(wN:n≤64)(ao:tC T v sl id n D c)(fy:∀x y z,lt x y→lt y z→lt x z){xs:List Int}(aM:xs.length=n)
  (cP:∀k,k<n→D (g xs k))(hn:∀p q,p<q→q<n→rz c lt (g xs q) (g xs p)):
  ∃ys,hd T (eo id n t) v (bh sl id xs)=some ((),bh sl id ys)∧ys.length=n∧ys.Perm xs∧∀p q,p<q→q<n→lt (g ys p) (g ys q):=by
 unfold hd dN
 try simp -implicitDefEqProofs only[sm]
 obtain⟨a,akF,ys,h1,h2,aq,gv,fA,hV⟩:=Zh (T:=hd.tb T) (t:=t) aT wN (fun x y xs=>ao x y xs) fy aM cP hn
 rw[h1]
 try simp -implicitDefEqProofs only[Option.bind_some]
 rw[h2]
 try simp -implicitDefEqProofs only[Option.bind_some]
 have kE:tC (dN.tb (hd.tb T)) v sl id n D c:=fun x y xs=>ao x y xs
 have fin:∃cC,iter bd (dN.fM (hd.tb T) (eo id n t) (n:Int) v) (20,bh sl id ys)=some (.aP (),bh sl id cC)∧cC.length=n∧cC.Perm xs∧∀p q,p<q→q<n→lt (g cC p) (g cC q):=by
  by_cases bL:20<n
  ·by_cases a_:40≤n
   ·
    obtain⟨cC,aw,aH,aW,bq,bU,ek⟩:=E7 (t:=t) aT wN kE fy (xs:=xs) aq (w:=20) (a:=0) (m:=20) (b:=40) (by omega) (by omega) (by omega) a_ cP hn (fun p _ aa=>fA p (by omega)) (fun p q _ cH fS=>hV p q cH (by omega) (by omega)) (fun p q dh cH fS=>hV p q cH (by omega) (by omega)) (fun p q dh cH=>by omega)
    have Ng:∀p,p<n→∃bO,bO<n∧bO/20=p/20∧g cC p=g xs bO∨p<40:=fun p aa=>by
     by_cases e:p<40
     ·exact ⟨0,.inr e⟩
     ·obtain⟨bO,aG,e2,bP⟩:=fA p aa
      exact ⟨bO,.inl ⟨aG,e2,by rw[bq p (by omega),bP]⟩⟩
    have Ub:∀p,p<n→p<40→∃bO,bO<40∧g cC p=g xs bO:=fun p aa kK=>by
     obtain⟨bO,aG,e2,bP⟩:=bU p (by omega) kK
     obtain⟨cH,f1,f2,f3⟩:=fA bO (by omega)
     exact ⟨cH,by omega,by rw[bP,f3]⟩
    have acy:dN.cl (hd.tb T) (eo id n t) (n:Int) v 20 ((0,40),bh sl id ys)=some (.more ((40,80),bh sl id cC)):=by
     unfold dN.cl
     try simp -implicitDefEqProofs only[]
     rw[decide_eq_true (by omega),cond_true,show IntKind.wrap .i64 ((0:Int)+20)=((20:Nat):Int)from rfl,show(0:Int)=((0:Nat):Int)from rfl,show(40:Int)=((40:Nat):Int)from rfl,aw]
     rfl
    have acz:dN.cl (hd.tb T) (eo id n t) (n:Int) v 20 ((40,80),bh sl id cC)=some (.done (.aP 40,bh sl id cC)):=by
     unfold dN.cl
     try simp -implicitDefEqProofs only[]
     rw[decide_eq_false (by omega),cond_false]
    have inner:iter bd (dN.cl (hd.tb T) (eo id n t) (n:Int) v 20) ((0,IntKind.wrap .i64 (2*20)),bh sl id ys)=some (.aP 40,bh sl id cC):=by
     rw[wg,show IntKind.wrap .i64 ((2:Int)*20)=40 from rfl,BH acy,vC acz]
    have rest:∃ws,((bif decide (IntKind.wrap .i64 ((40:Int)+20)<(n:Int))then((dz (dN.tb (hd.tb T)) (eo id n t) 40 (IntKind.wrap .i64 ((40:Int)+20)) (n:Int) v (bh sl id cC)).bind fun x=>some (.next (),x.2))else some (.next (),bh sl id cC):Option (bG Unit Unit×H)))=some (.next (),bh sl id ws)∧
      ws.length=n∧ws.Perm xs∧(∀p,p<n→∃bO,bO<n∧bO/40=p/40∧g ws p=g xs bO)∧∀p q,p<q→q<n→p/40=q/40→lt (g ws p) (g ws q):=by
     by_cases cY:60<n
     ·obtain⟨ws,fo,jy,AQ,HU,ajE,ajF⟩:=E7 (t:=t) aT wN kE fy (xs:=xs) aH (w:=20) (a:=40) (m:=60) (b:=n) (by omega) (by omega) cY (Nat.le_refl _) cP hn (fun p dh cH=>by
        obtain⟨bO,h|h⟩:=Ng p cH
        ·exact ⟨bO,h⟩
        ·omega) (fun p q dh cH fS=>by rw[bq p (by omega),bq q (by omega)];exact hV p q cH (by omega) (by omega)) (fun p q dh cH fS=>by rw[bq p (by omega),bq q (by omega)];exact hV p q cH (by omega) (by omega)) (fun p q dh cH=>by omega)
      refine⟨ws, ?_,jy,AQ.trans (aW.trans gv),fun p aa=>?_,fun p q dh cH fS=>?_⟩
      ·rw[show IntKind.wrap .i64 ((40:Int)+20)=((60:Nat):Int)from rfl,decide_eq_true (by omega),cond_true,show(40:Int)=((40:Nat):Int)from rfl,fo]
       rfl
      ·by_cases e:p<40
       ·obtain⟨bO,aG,e2⟩:=Ub p aa e
        exact ⟨bO,by omega,by omega,by rw[HU p (by omega),e2]⟩
       ·obtain⟨bO,aG,e2,bP⟩:=ajE p (by omega) aa
        obtain⟨cH,h|h⟩:=Ng bO e2
        ·exact ⟨cH,h.1,by omega,by rw[bP,h.2.2]⟩
        ·omega
      ·by_cases e:q<40
       ·rw[HU p (by omega),HU q (by omega)];exact ek p q (by omega) dh e
       ·exact ajF p q (by omega) dh cH
     ·refine⟨cC, ?_,aH,aW.trans gv,fun p aa=>?_,fun p q dh cH fS=>?_⟩
      ·rw[show IntKind.wrap .i64 ((40:Int)+20)=((60:Nat):Int)from rfl,decide_eq_false (by omega)];rfl
      ·by_cases e:p<40
       ·obtain⟨bO,aG,e2⟩:=Ub p aa e
        exact ⟨bO,by omega,by omega,e2⟩
       ·obtain⟨cH,h|h⟩:=Ng p aa
        ·exact ⟨cH,h.1,by omega,h.2.2⟩
        ·omega
      ·by_cases e:q<40
       ·exact ek p q (by omega) dh e
       ·rw[bq p (by omega),bq q (by omega)];exact hV p q dh cH (by omega)
    obtain⟨ws,bw,bJ,ch,bQ,di⟩:=rest
    have Sr:dN.fM (hd.tb T) (eo id n t) (n:Int) v (20,bh sl id ys)=some (.more (40,bh sl id ws)):=by
     unfold dN.fM
     try simp -implicitDefEqProofs only[]
     rw[decide_eq_true (by omega),cond_true,inner]
     try simp -implicitDefEqProofs only[Option.bind_some]
     rw[bw]
     rfl
    by_cases bI:40<n
    ·obtain⟨us,gi,u7,EN,ajG,ajH,NP⟩:=E7 (t:=t) aT wN kE fy (xs:=xs) bJ (w:=40) (a:=0) (m:=40) (b:=n) (by omega) (by omega) bI (Nat.le_refl _) cP hn (fun p _ aa=>bQ p aa) (fun p q _ cH fS=>di p q cH (by omega) (by omega)) (fun p q dh cH fS=>di p q cH fS (by omega)) (fun p q dh cH=>by omega)
     have KM:dN.cl (hd.tb T) (eo id n t) (n:Int) v 40 ((0,80),bh sl id ws)=some (.done (.aP 0,bh sl id ws)):=by
      unfold dN.cl
      try simp -implicitDefEqProofs only[]
      rw[decide_eq_false (by omega),cond_false]
     have KN:dN.fM (hd.tb T) (eo id n t) (n:Int) v (40,bh sl id ws)=some (.more (80,bh sl id us)):=by
      unfold dN.fM
      try simp -implicitDefEqProofs only[]
      rw[decide_eq_true (by omega),cond_true,wg,show IntKind.wrap .i64 ((2:Int)*40)=80 from rfl,vC KM]
      try simp -implicitDefEqProofs only[Option.bind_some]
      rw[show IntKind.wrap .i64 ((0:Int)+40)=((40:Nat):Int)from rfl,decide_eq_true (by omega),cond_true,show(0:Int)=((0:Nat):Int)from rfl,gi]
      rfl
     have wh:dN.fM (hd.tb T) (eo id n t) (n:Int) v (80,bh sl id us)=some (.done (.aP (),bh sl id us)):=by
      unfold dN.fM
      try simp -implicitDefEqProofs only[]
      rw[decide_eq_false (by omega),cond_false]
     exact ⟨us,by rw[wg,BH Sr,BH KN,vC wh],u7,EN.trans ch,fun p q dh cH=>NP p q (by omega) dh cH⟩
    ·have wh:dN.fM (hd.tb T) (eo id n t) (n:Int) v (40,bh sl id ws)=some (.done (.aP (),bh sl id ws)):=by
      unfold dN.fM
      try simp -implicitDefEqProofs only[]
      rw[decide_eq_false (by omega),cond_false]
     exact ⟨ws,by rw[wg,BH Sr,vC wh],bJ,ch,fun p q dh cH=>di p q dh cH (by omega)⟩
   ·
    obtain⟨us,gi,u7,EN,ajG,ajH,NP⟩:=E7 (t:=t) aT wN kE fy (xs:=xs) aq (w:=20) (a:=0) (m:=20) (b:=n) (by omega) (by omega) bL (Nat.le_refl _) cP hn (fun p _ aa=>fA p aa) (fun p q _ cH fS=>hV p q cH (by omega) (by omega)) (fun p q dh cH fS=>hV p q cH fS (by omega)) (fun p q dh cH=>by omega)
    have KM:dN.cl (hd.tb T) (eo id n t) (n:Int) v 20 ((0,40),bh sl id ys)=some (.done (.aP 0,bh sl id ys)):=by
     unfold dN.cl
     try simp -implicitDefEqProofs only[]
     rw[decide_eq_false (by omega),cond_false]
    have KN:dN.fM (hd.tb T) (eo id n t) (n:Int) v (20,bh sl id ys)=some (.more (40,bh sl id us)):=by
     unfold dN.fM
     try simp -implicitDefEqProofs only[]
     rw[decide_eq_true (by omega),cond_true,wg,show IntKind.wrap .i64 ((2:Int)*20)=40 from rfl,vC KM]
     try simp -implicitDefEqProofs only[Option.bind_some]
     rw[show IntKind.wrap .i64 ((0:Int)+20)=((20:Nat):Int)from rfl,decide_eq_true (by omega),cond_true,show(0:Int)=((0:Nat):Int)from rfl,gi]
     rfl
    have wh:dN.fM (hd.tb T) (eo id n t) (n:Int) v (40,bh sl id us)=some (.done (.aP (),bh sl id us)):=by
     unfold dN.fM
     try simp -implicitDefEqProofs only[]
     rw[decide_eq_false (by omega),cond_false]
    exact ⟨us,by rw[wg,BH KN,vC wh],u7,EN.trans gv,fun p q dh cH=>NP p q (by omega) dh cH⟩
  ·have wh:dN.fM (hd.tb T) (eo id n t) (n:Int) v (20,bh sl id ys)=some (.done (.aP (),bh sl id ys)):=by
    unfold dN.fM
    try simp -implicitDefEqProofs only[]
    rw[decide_eq_false (by omega),cond_false]
   exact ⟨ys,by rw[wg,vC wh],aq,gv,fun p q dh cH=>hV p q dh cH (by omega)⟩
 obtain⟨cC,f1,f2,f3,f4⟩:=fin
 rw[f1]
 exact ⟨cC,rfl,f2,f3,f4⟩
end sort
def jS(a:Int)(ws:List Int):Int×Int:=
 if fE a=true then(if ws.length=0 then(0,9)else if 64<ws.length then(0,8)else if(ws.all fE&&fE ws.sum)=true then(if ws.sum=0 then(0,16)else (ws.sum,0))else (0,2))else (0,2)
theorem Io{ws:List Int}{i:Nat}(h:i<ws.length):(ws.take (i+1)).sum=(ws.take i).sum+ws[i]:=by
 rw[←List.take_append_getElem h,List.sum_append];simp
theorem FW:∀(ws:List Int),ws.all fE=true→0≤ws.sum∧ws.sum≤ws.length*128849018880000
 |[],_=>by simp
 |w::ws,h=>by
  simp only[List.all_cons,Bool.and_eq_true,k1]at h
  have:=FW ws h.2
  simp only[List.sum_cons,List.length_cons]
  have e:((ws.length+1:Nat):Int)*128849018880000=(ws.length:Int)*128849018880000+128849018880000:=by
   rw[Int.natCast_add,Int.add_mul];rfl
  omega
theorem QL{ws:List Int}(h:ws.all fE=true)(i:Nat):(ws.take i).all fE=true:=by
 rw[List.all_eq_true]at*
 exact fun x hx=>h x (List.mem_of_mem_take hx)
theorem QM(a:Int)(ws:List Int)(aq:ws.length<2^63):tP a ws=some (jS a ws):=by
 unfold tP qS jS
 rw[Jb]
 try simp -implicitDefEqProofs only[aF,reduceIte,av,az,aB,ax,an.un,aj.un,ai.un,LT.un,ab.un,ab.plain,LT.plain]
 cases bD:fE a with
 |false=>simp -implicitDefEqProofs only[aF,reduceIte,av,az,aB,ax,an.un,aj.un,ai.un,LT.un,ab.un,ab.plain,LT.plain];rfl
 |true=>
  try simp -implicitDefEqProofs only[aF,reduceIte,av,az,aB,ax,an.un,aj.un,ai.un,LT.un,ab.un,ab.plain,LT.plain]
  by_cases aO:ws.length=0
  ·rw[decide_eq_true (by omega),if_pos aO];simp -implicitDefEqProofs only[aF,reduceIte,av,az,aB,ax,an.un,aj.un,ai.un,LT.un,ab.un,ab.plain,LT.plain]
  ·rw[decide_eq_false (by omega),if_neg aO]
   try simp -implicitDefEqProofs only[aF,reduceIte,av,az,aB,ax,an.un,aj.un,ai.un,LT.un,ab.un,ab.plain,LT.plain]
   by_cases h1:64<ws.length
   ·rw[decide_eq_true (by omega),if_pos h1];simp -implicitDefEqProofs only[aF,reduceIte,av,az,aB,ax,an.un,aj.un,ai.un,LT.un,ab.un,ab.plain,LT.plain]
   ·rw[decide_eq_false (by omega),if_neg h1]
    try simp -implicitDefEqProofs only[aF,reduceIte,av,az,aB,ax,an.un,aj.un,ai.un,LT.un,ab.un,ab.plain,LT.plain]
    rw[Po ws aq]
    try simp -implicitDefEqProofs only[aF,reduceIte,av,az,aB,ax,an.un,aj.un,ai.un,LT.un,ab.un,ab.plain,LT.plain]
    cases h2:ws.all fE with
    |false=>simp -implicitDefEqProofs only[aF,reduceIte,av,az,aB,ax,an.un,aj.un,ai.un,LT.un,ab.un,ab.plain,LT.plain,Bool.false_and];rfl
    |true=>
     try simp -implicitDefEqProofs only[aF,reduceIte,av,az,aB,ax,an.un,aj.un,ai.un,LT.un,ab.un,ab.plain,LT.plain]
     have ad:=FW ws h2
     rw[kr (f:=qS.aZ (ae false [.int .i64] ws)) (x:=(.aP (ws.take ws.length).sum,H.empty)) (fun i=>(((ws.take i).sum,(i:Int)),H.empty)) (s0:=((0,0),H.empty)) rfl ws.length bd (fun i hi=>by
      have aw:=FW _ (QL h2 i)
      have aH:=FW _ (QL h2 (i+1))
      rw[List.length_take]at aw aH
      unfold qS.aZ
      try simp -implicitDefEqProofs only[bZ,Int.toNat_natCast]
      rw[decide_eq_true (by omega),cond_true,aS (by omega),uj,List.getElem?_eq_getElem hi]
      try simp -implicitDefEqProofs only[Option.bind_some]
      rw[←Io hi,i64_in _ (by omega),dO (by omega)]) (by
      unfold qS.aZ
      try simp -implicitDefEqProofs only[bZ]
      rw[decide_eq_false (by omega),cond_false]) (dj (by omega)),List.take_length]
     try simp -implicitDefEqProofs only[aF,reduceIte,av,az,aB,ax,an.un,aj.un,ai.un,LT.un,ab.un,ab.plain,LT.plain,Jb]
     cases h3:fE ws.sum with
     |false=>simp -implicitDefEqProofs only[aF,reduceIte,av,az,aB,ax,an.un,aj.un,ai.un,LT.un,ab.un,ab.plain,LT.plain];rfl
     |true=>
      try simp -implicitDefEqProofs only[aF,reduceIte,av,az,aB,ax,an.un,aj.un,ai.un,LT.un,ab.un,ab.plain,LT.plain]
      by_cases aI:ws.sum=0
      ·rw[decide_eq_true aI,if_pos aI];simp -implicitDefEqProofs only[aF,reduceIte,av,az,aB,ax,an.un,aj.un,ai.un,LT.un,ab.un,ab.plain,LT.plain]
      ·rw[decide_eq_false aI,if_neg aI];simp -implicitDefEqProofs only[aF,reduceIte,av,az,aB,ax,an.un,aj.un,ai.un,LT.un,ab.un,ab.plain,LT.plain]
theorem kC{xs:List Int}{k:Nat}(h:k<xs.length):g xs k=xs[k]:=by rw[g,List.getElem?_eq_getElem h];rfl
theorem wi{xs ys:List Int}(aq:xs.length=ys.length)(h:∀k,k<xs.length→g xs k=g ys k):xs=ys:=by
 refine List.ext_getElem aq fun k h1 h2=>?_
 rw[←kC h1,←kC h2];exact h k h1
theorem zB{f:Int→Int}{xs:List Int}{k:Nat}(h:k<xs.length):g (xs.map f) k=f (g xs k):=by
 rw[kC (by simpa using h),List.getElem_map,kC h]
theorem Ka{f:Nat→Int}{n k:Nat}(h:k<n):g ((List.range n).map f) k=f k:=by
 rw[kC (by simpa using h),List.getElem_map,List.getElem_range]
theorem Gm{xs:List Int}{k:Nat}(h:k<xs.length):g xs k∈xs:=by rw[kC h];exact List.getElem_mem h
def iota(n:Nat):List Int:=(List.range n).map fun k:Nat=>(k:Int)
theorem pB{n:Nat}:(iota n).length=n:=by simp[iota]
theorem B9{n k:Nat}(h:k<n):g (iota n) k=(k:Int):=Ka h
theorem QN{n:Nat}{x:Int}:x∈iota n↔0≤x∧x<n:=by
 simp only[iota,List.mem_map,List.mem_range]
 constructor
 ·rintro⟨k,aN,rfl⟩;omega
 ·intro h;exact ⟨x.toNat,by omega,by omega⟩
theorem Xj{n:Nat}:(iota n).Nodup:=by
 unfold iota
 rw[List.nodup_iff_pairwise_ne,List.pairwise_map]
 exact List.Pairwise.imp (fun h=>by omega) List.pairwise_lt_range
def iU(rs:List Int)(x y:Int):Prop:=g rs y.toNat<g rs x.toNat∨(g rs x.toNat=g rs y.toNat∧x<y)
instance (rs:List Int)(x y:Int):Decidable (iU rs x y):=by unfold iU;exact inferInstance
theorem P8{rs:List Int}(x y z:Int)(h1:iU rs x y)(h2:iU rs y z):iU rs x z:=by unfold iU at*;omega
theorem Ya{rs:List Int}{x y:Int}(h:x≠y):iU rs x y∨iU rs y x:=by unfold iU at*;omega
theorem Xk{rs:List Int}{x:Int}:¬iU rs x x:=by unfold iU;omega
def ord (rs:List Int):List Int:=(iota rs.length).mergeSort fun x y=>!decide (iU rs y x)
theorem yD{rs:List Int}:(ord rs).Perm (iota rs.length):=List.mergeSort_perm ..
theorem pE{rs:List Int}:(ord rs).length=rs.length:=by rw[yD.length_eq,pB]
theorem Jd{rs:List Int}:(ord rs).Nodup:=(yD.nodup_iff).2 Xj
theorem OC{rs:List Int}:(ord rs).Pairwise (iU rs):=by
 have h1:(ord rs).Pairwise fun x y=>(!decide (iU rs y x))=true:=List.pairwise_mergeSort (fun a b c=>by
  simp only[Bool.not_eq_true',decide_eq_false_iff_not]
  unfold iU;omega) (fun a b=>by
  simp only[Bool.or_eq_true,Bool.not_eq_true',decide_eq_false_iff_not]
  unfold iU;omega) _
 have h2:=Jd (rs:=rs)
 rw[List.nodup_iff_pairwise_ne]at h2
 refine List.Pairwise.imp₂ (fun a b h1 h2=>?_) h1 h2
 simp only[Bool.not_eq_true',decide_eq_false_iff_not]at h1
 rcases Ya (rs:=rs) h2 with h|h
 ·exact h
 ·exact absurd h h1
theorem Zi{rs ys:List Int}(aa:ys.Perm (iota rs.length))(ad:∀p q,p<q→q<rs.length→iU rs (g ys p) (g ys q)):ys=ord rs:=by
 have aq:ys.length=rs.length:=by rw[aa.length_eq,pB]
 refine List.Perm.eq_of_pairwise (le:=iU rs) (fun a b _ _ h1 h2=>?_) ?_ OC (aa.trans yD.symm)
 ·exact absurd (P8 _ _ _ h1 h2) Xk
 ·rw[List.pairwise_iff_getElem]
  intro i j hi aL iS
  have:=ad i j iS (by omega)
  rwa [kC hi,kC aL]at this
theorem aaQ{rs:List Int}{p q:Nat}(h:p<q)(aV:q<rs.length):iU rs (g (ord rs) p) (g (ord rs) q):=by
 have:=OC (rs:=rs)
 rw[List.pairwise_iff_getElem]at this
 have h2:=this p q (by rw[pE];omega) (by rw[pE];omega) h
 rwa [←kC,←kC]at h2
theorem Je{rs:List Int}{p:Nat}(h:p<rs.length):0≤g (ord rs) p∧g (ord rs) p<rs.length:=by
 have:=Gm (xs:=ord rs) (k:=p) (by rw[pE];exact h)
 exact QN.1 (yD.mem_iff.1 this)
def bump(qs os:List Int)(k:Nat):List Int:=(List.range qs.length).map fun i=>g qs i+if(i:Int)∈os.take k then 1 else 0
theorem pC{qs os:List Int}{k:Nat}:(bump qs os k).length=qs.length:=by simp[bump]
theorem uw{qs os:List Int}{k i:Nat}(h:i<qs.length):g (bump qs os k) i=g qs i+if(i:Int)∈os.take k then 1 else 0:=Ka h
theorem P9{qs os:List Int}:bump qs os 0=qs:=wi pC fun k aN=>by
 rw[pC]at aN
 rw[uw aN];simp
theorem P_{qs os:List Int}{k x:Nat}(aM:os.Nodup)(aN:k<os.length)(hx:g os k=(x:Int))(aV:x<qs.length):(bump qs os k).set x (g (bump qs os k) x+1)=bump qs os (k+1):=by
 refine wi (by simp[pC]) fun i hi=>?_
 rw[List.length_set,pC]at hi
 rw[CN (by rw[pC];exact aV)]
 have bk:os.take (k+1)=os.take k++[(x:Int)]:=by rw[←List.take_append_getElem aN,←kC aN,hx]
 have afe:(x:Int)∉os.take k:=by
  intro hm
  have h2:(os.take (k+1)).Nodup:=List.Nodup.sublist (List.take_sublist _ _) aM
  rw[bk,List.nodup_append]at h2
  exact h2.2.2 _ hm _ (by simp) rfl
 by_cases e:i=x
 ·subst e
  rw[if_pos rfl,uw hi,uw hi,bk,if_neg afe,if_pos (by simp)]
  omega
 ·rw[if_neg e,uw hi,uw hi,bk]
  congr 1
  by_cases h:(i:Int)∈os.take k
  ·rw[if_pos h,if_pos (by simp[h])]
  ·rw[if_neg h,if_neg (by simp[h];omega)]
def ez(a S:Int)(ws:List Int):List Int:=ws.map fun w=>a*w/S
def eM(a S:Int)(ws:List Int):List Int:=ws.map fun w=>a*w%S
def g4(a S:Int)(ws:List Int):List Int:=bump (ez a S ws) (ord (eM a S ws)) (a-(ez a S ws).sum).toNat
def Jx(a:Int)(ws:List Int):List Int×Int:=if(jS a ws).2=0 then(g4 a (jS a ws).1 ws,0)else ([],(jS a ws).2)
theorem IW{a:Int}{ws:List Int}(h:(jS a ws).2=0):fE a=true∧0<ws.length∧ws.length≤64∧ws.all fE=true∧fE ws.sum=true∧ws.sum≠0∧(jS a ws).1=ws.sum:=by
 unfold jS at*
 split at h
 ·rename_i bD
  rw[if_pos bD]
  split at h
  ·simp at h
  ·rename_i aO
   rw[if_neg aO]
   split at h
   ·simp at h
   ·rename_i h1
    rw[if_neg h1]
    split at h
    ·rename_i h2
     rw[if_pos h2]
     split at h
     ·simp at h
     ·rename_i h3
      rw[if_neg h3]
      simp only[Bool.and_eq_true]at h2
      exact ⟨bD,by omega,by omega,h2.1,h2.2,h3,rfl⟩
    ·simp at h
 ·simp at h
theorem jA{a S:Int}{ws:List Int}:(ez a S ws).length=ws.length:=by simp[ez]
theorem k0{a S:Int}{ws:List Int}:(eM a S ws).length=ws.length:=by simp[eM]
theorem Ro(a S:Int)(ws:List Int):S*(ez a S ws).sum+(eM a S ws).sum=a*ws.sum:=by
 induction ws with
 |nil=>simp[ez,eM]
 |cons w ws ih=>
  simp only[ez,eM,List.map_cons,List.sum_cons]at ih⊢
  rw[Int.mul_add,Int.mul_add a,←ih]
  have:=Int.mul_ediv_add_emod (a*w) S
  omega
theorem Xl{a S:Int}(bh:0<S)(ws:List Int):0≤(eM a S ws).sum∧(eM a S ws).sum≤ws.length*(S-1):=by
 induction ws with
 |nil=>simp[eM]
 |cons w ws ih=>
  simp only[eM,List.map_cons,List.sum_cons,List.length_cons]at ih⊢
  have h1:=Int.emod_nonneg (a*w) (show S≠0 by omega)
  have h2:=Int.emod_lt_of_pos (a*w) bh
  have e:((ws.length+1:Nat):Int)*(S-1)=(ws.length:Int)*(S-1)+(S-1):=by rw[Int.natCast_add,Int.add_mul];simp
  omega
theorem Bw{a:Int}{ws:List Int}(bh:0<ws.sum)(aq:0<ws.length):0≤a-(ez a ws.sum ws).sum∧a-(ez a ws.sum ws).sum<ws.length:=by
 have h1:=Ro a ws.sum ws
 obtain⟨h2,h3⟩:=Xl (a:=a) bh ws
 generalize (ez a ws.sum ws).sum=q at*
 generalize (eM a ws.sum ws).sum=r at*
 have e:ws.sum*(a-q)=r:=by rw[Int.mul_sub,Int.mul_comm ws.sum a];omega
 constructor
 ·rcases Int.lt_or_le (a-q) 0 with h|h
  ·have:ws.sum*(a-q)<0:=Int.mul_neg_of_pos_of_neg bh h
   omega
  ·exact h
 ·rcases Int.lt_or_le (a-q) (ws.length:Int)with h|h
  ·exact h
  ·have aI:ws.sum*(ws.length:Int)≤ws.sum*(a-q):=Int.mul_le_mul_of_nonneg_left h (by omega)
   have ba:(ws.length:Int)*(ws.sum-1)=ws.sum*(ws.length:Int)-ws.length:=by rw[Int.mul_sub,Int.mul_comm];omega
   omega
theorem Xm{a S:Int}{ws:List Int}(bD:0≤a)(bh:0<S)(hw:∀w∈ws,0≤w):∀q∈ez a S ws,0≤q:=by
 intro q aV
 obtain⟨w,G4,rfl⟩:=List.mem_map.1 aV
 exact Int.ediv_nonneg (Int.mul_nonneg bD (hw w G4)) (by omega)
theorem Fl:∀{xs:List Int},(∀x∈xs,0≤x)→0≤xs.sum
 |[],_=>by simp
 |x::xs,h=>by
  have:=Fl (xs:=xs) fun y aK=>h y (by simp[aK])
  have:=h x (by simp)
  simp only[List.sum_cons];omega
theorem E8{xs:List Int}(h:∀x∈xs,0≤x)(i:Nat):0≤(xs.take i).sum∧(xs.take i).sum≤xs.sum:=by
 have h1:xs.sum=(xs.take i).sum+(xs.drop i).sum:=by rw[←List.sum_append,List.take_append_drop]
 have h2:=Fl (xs:=xs.drop i) fun y aK=>h y (List.mem_of_mem_drop aK)
 have h3:=Fl (xs:=xs.take i) fun y aK=>h y (List.mem_of_mem_take aK)
 omega
theorem Fm:∀{xs:List Int} {x:Int},(∀y∈xs,0≤y)→x∈xs→x≤xs.sum
 |[],_,_,h=>by simp at h
 |y::xs,x,aM,h=>by
  have h1:=Fl (xs:=xs) fun z bH=>aM z (by simp[bH])
  have h2:=aM y (by simp)
  simp only[List.sum_cons]
  rcases List.mem_cons.1 h with rfl |h
  ·omega
  ·have:=Fm (xs:=xs) (fun z bH=>aM z (by simp[bH])) h
   omega
theorem vL{ws:List Int}(h:ws.all fE=true):∀w∈ws,0≤w∧w≤128849018880000:=fun w hw=>k1.1 (List.all_eq_true.1 h w hw)
theorem RU{a S w:Int}(bD:0≤a)(bh:0<S)(hw:w≤S):a*w/S≤a:=by
 exact Int.ediv_le_of_le_mul bh (Int.mul_le_mul_of_nonneg_left hw bD)
theorem Wv{a S w:Int}(bD:fE a=true)(bh:0<S)(aO:0≤w)(hw:w≤S):zy a w S=(a*w/S,a*w%S,true):=by
 unfold zy
 have:=RU (k1.1 bD).1 bh hw
 have:=(k1.1 bD).2
 rw[if_neg (by omega)]
def hO(xs:List Int)(i:Nat):List Int:=xs.take i++List.replicate (xs.length-i) 0
theorem r8{xs:List Int}{i:Nat}(h:i≤xs.length):(hO xs i).length=xs.length:=by simp[hO];omega
theorem Jy{xs:List Int}{i k:Nat}(hi:i≤xs.length)(aN:k<xs.length):g (hO xs i) k=if k<i then g xs k else 0:=by
 unfold hO g
 by_cases h:k<i
 ·rw[if_pos h,List.getElem?_append_left (by simp;omega),List.getElem?_take,if_pos h]
 ·rw[if_neg h,List.getElem?_append_right (by simp;omega),List.getElem?_replicate]
  split<;>rfl
theorem IX{xs:List Int}{i:Nat}(h:i<xs.length):(hO xs i).set i (g xs i)=hO xs (i+1):=by
 refine wi (by rw[List.length_set,r8 (by omega),r8 h]) fun k aN=>?_
 rw[List.length_set,r8 (by omega)]at aN
 rw[CN (by rw[r8 (by omega)];exact h),Jy h aN]
 by_cases e:k=i
 ·subst e;rw[if_pos rfl,if_pos (by omega)]
 ·rw[if_neg e,Jy (by omega) aN]
  by_cases h:k<i
  ·rw[if_pos h,if_pos (by omega)]
  ·rw[if_neg h,if_neg (by omega)]
theorem IY{xs:List Int}:hO xs xs.length=xs:=by simp[hO]
theorem Ww{xs:List Int}:hO xs 0=List.replicate xs.length 0:=by simp[hO]
theorem Wx(n:Nat):eI [.int .i64 0] n=bx [.int .i64] (List.replicate n 0):=by
 induction n with
 |zero=>rfl
 |succ n ih=>simp only[eI,ih,List.replicate_succ,bx,List.flatMap_cons,LT.lo,ab.lo]
theorem aaa(a b:Int):xV a b=some (if a<b then -1 else if b<a then 1 else 0):=by
 unfold xV A8
 have aM:∀x,vr x=some false:=fun x=>by unfold vr cmp_isNaN_int;simp -implicitDefEqProofs only[aF,reduceIte,av,az,aB,ax,an.un,aj.un,ai.un,LT.un,ab.un,ab.plain,LT.plain,decide_true]
 try simp -implicitDefEqProofs only[aM,aF,reduceIte,av,az,aB,ax,an.un,aj.un,ai.un,LT.un,ab.un,ab.plain,LT.plain]
 by_cases h:a<b
 ·rw[decide_eq_true h,if_pos h];rfl
 ·rw[decide_eq_false h,if_neg h]
  by_cases h2:b<a
  ·rw[decide_eq_true h2,if_pos h2];rfl
  ·rw[decide_eq_false h2,if_neg h2];rfl
def LW(rs:List Int)(x y:Int):Int:=if g rs y.toNat<g rs x.toNat then -1 else if g rs x.toNat<g rs y.toNat then 1 else 0
abbrev ib(xs:List Int):Slot:=.own (bx [.int .i64] xs) 1
def g2(p r o:List Int)(n:Nat):H:=ag [ib p,ib r,ib o,.own [.slice (.aa 1 n 0) n n true] 1]
theorem RV{p r o:List Int}{n:Nat}:ah (.leaf .slice) (g2 p r o n) (.aa 3 1 0)=some ⟨.aa 1 n 0,n,n,true⟩:=by
 unfold g2
 rw[e5 (g:=1) (cs:=[.slice (.aa 1 n 0) n n true]) (e:=1) rfl rfl]
 rfl
theorem RW{p r o:List Int}{n k:Nat}(aM:p.length=n):ah (.leaf (.int .i64)) (g2 p r o n) (.aa 0 n (k*1))=p[k]?:=by
 unfold g2
 rw[BP (ls:=[.int .i64]) (xs:=p) (w:=1) (e:=1) rfl (by simp[aM]) rfl (by omega)]
 cases p[k]?<;>simp[LT.lo,ab.lo,ab.pack]
theorem RX{p r o:List Int}{n k:Nat}(aM:r.length=n):ah (.leaf (.int .i64)) (g2 p r o n) (.aa 1 n (k*1))=r[k]?:=by
 unfold g2
 rw[BP (ls:=[.int .i64]) (xs:=r) (w:=1) (e:=1) rfl (by simp[aM]) rfl (by omega)]
 cases r[k]?<;>simp[LT.lo,ab.lo,ab.pack]
theorem aaR{p r o:List Int}{n k:Nat}(aM:o.length=n):ah (.leaf (.int .i64)) (g2 p r o n) (.aa 2 n (k*1))=o[k]?:=by
 unfold g2
 rw[BP (ls:=[.int .i64]) (xs:=o) (w:=1) (e:=1) rfl (by simp[aM]) rfl (by omega)]
 cases o[k]?<;>simp[LT.lo,ab.lo,ab.pack]
theorem RY{p r o:List Int}{n k:Nat}{x:Int}(aM:p.length=n)(aN:k<n):H.aY (g2 p r o n) (.aa 0 n (k*1)) [.int .i64 x]=some (g2 (p.set k x) r o n):=by
 unfold g2
 rw[yA (ls:=[.int .i64]) (xs:=p) (w:=1) (e:=1) (x:=x) (vs:=[.int .i64 x]) rfl (by simp[aM]) rfl (by omega) rfl]
 rfl
theorem aaS{p r o:List Int}{n k:Nat}{x:Int}(aM:r.length=n)(aN:k<n):H.aY (g2 p r o n) (.aa 1 n (k*1)) [.int .i64 x]=some (g2 p (r.set k x) o n):=by
 unfold g2
 rw[yA (ls:=[.int .i64]) (xs:=r) (w:=1) (e:=1) (x:=x) (vs:=[.int .i64 x]) rfl (by simp[aM]) rfl (by omega) rfl]
 rfl
theorem aaT{p r o:List Int}{n k:Nat}{x:Int}(aM:o.length=n)(aN:k<n):H.aY (g2 p r o n) (.aa 2 n (k*1)) [.int .i64 x]=some (g2 p r (o.set k x) n):=by
 unfold g2
 rw[yA (ls:=[.int .i64]) (xs:=o) (w:=1) (e:=1) (x:=x) (vs:=[.int .i64 x]) rfl (by simp[aM]) rfl (by omega) rfl]
 rfl
theorem KO{p r o dL:List Int}{n:Nat}:bh [ib p,ib r,ib dL,.own [.slice (.aa 1 n 0) n n true] 1] 2 o=g2 p r o n:=rfl
theorem Xn{p r o:List Int}{n:Nat}{x y:Int}(af:r.length=n)(hx:0≤x∧x<n)(aK:0≤y∧y<n):xR x y (.aa 3 1 0) (g2 p r o n)=some (LW r x y,g2 p r o n):=by
 unfold xR
 try simp -implicitDefEqProofs only[gk,RV,Option.bind_some]
 rw[aS (by omega),kv,RX af,sk (by omega)]
 try simp -implicitDefEqProofs only[Option.bind_some]
 rw[aS (by omega),kv,RX af,sk (by omega)]
 try simp -implicitDefEqProofs only[Option.bind_some,aaa]
 rfl
theorem V2{a S:Int}{ws:List Int}{f:Bool}(bD:fE a=true)(Uc:ws.all fE=true)(bh:fE S=true)(Ud:0<S)(ahQ:∀w∈ws,w≤S)(o1:(ez a S ws).sum≤a)(aq:ws.length≤64):
  iter bd (h7.aZ (ag []) a (ae f [.int .i64] ws) S) ((a,0),g2 (List.replicate ws.length 0) (List.replicate ws.length 0) (List.replicate ws.length 0) ws.length)=
   some (.aP (a-(ez a S ws).sum),g2 (ez a S ws) (eM a S ws) (iota ws.length) ws.length):=by
 have aV:=Xm (a:=a) (S:=S) (ws:=ws) (k1.1 bD).1 Ud (fun w hw=>(vL Uc w hw).1)
 have xk:=k1.1 bD
 have Ue:=k1.1 bh
 refine (kr (f:=h7.aZ (ag []) a (ae f [.int .i64] ws) S) (fun i=>((a-((ez a S ws).take i).sum,(i:Int)),g2 (hO (ez a S ws) i) (hO (eM a S ws) i) (hO (iota ws.length) i) ws.length)) ?_ ws.length bd (fun i hi=>?_) ?_ (dj (by omega)))
 ·simp only[List.take_zero,List.sum_nil,Int.sub_zero,Ww,jA,k0,pB]
  rfl
 ·have hw:=vL Uc _ (List.getElem_mem hi)
  have ahR:=ahQ _ (List.getElem_mem hi)
  have hx:=List.getElem?_eq_getElem hi
  have ahS:g (ez a S ws) i=a*ws[i]/S:=by rw[ez,zB hi,kC hi]
  have ahT:g (eM a S ws) i=a*ws[i]%S:=by rw[eM,zB hi,kC hi]
  have aw:=E8 aV i
  have aH:=E8 aV (i+1)
  have aW:=Io (ws:=ez a S ws) (i:=i) (by rw[jA];exact hi)
  rw[←kC]at aW
  unfold h7.aZ
  try simp -implicitDefEqProofs only[bZ,Int.toNat_natCast,Nat.mul_one,Nat.zero_add,gk,bR,List.length_nil]
  rw[decide_eq_true (by omega),cond_true,aS (by omega),show V.add (ae f [.int .i64] ws).a i=V.add (ae f [.int .i64] ws).a (i*1) by rw[Nat.mul_one],uj,hx]
  try simp -implicitDefEqProofs only[Option.bind_some,RV]
  rw[Pp bD (k1.2 hw) bh (by omega),Wv bD Ud hw.1 ahR,←ahS,←ahT]
  try simp -implicitDefEqProofs only[Option.bind_some]
  have d0:=RY (p:=hO (ez a S ws) i) (r:=hO (eM a S ws) i) (o:=hO (iota ws.length) i) (n:=ws.length) (k:=i) (x:=g (ez a S ws) i) (by rw[r8 (by rw[jA];omega),jA]) hi
  rw[IX (by rw[jA];exact hi),Nat.mul_one]at d0
  rw[aS (by omega),d0]
  try simp -implicitDefEqProofs only[Option.bind_some]
  have d1:=aaS (p:=hO (ez a S ws) (i+1)) (r:=hO (eM a S ws) i) (o:=hO (iota ws.length) i) (n:=ws.length) (k:=i) (x:=g (eM a S ws) i) (by rw[r8 (by rw[k0];omega),k0]) hi
  rw[IX (by rw[k0];exact hi),Nat.mul_one]at d1
  rw[aS (by omega),kv,d1]
  try simp -implicitDefEqProofs only[Option.bind_some]
  have d2:=aaT (p:=hO (ez a S ws) (i+1)) (r:=hO (eM a S ws) (i+1)) (o:=hO (iota ws.length) i) (n:=ws.length) (k:=i) (x:=g (iota ws.length) i) (by rw[r8 (by rw[pB];omega),pB]) hi
  rw[IX (by rw[pB];exact hi),Nat.mul_one,B9 hi]at d2
  rw[aS (p:=fg _ _=true) rfl,aS (by omega),d2]
  try simp -implicitDefEqProofs only[Option.bind_some]
  have d3:=RW (p:=hO (ez a S ws) (i+1)) (r:=hO (eM a S ws) (i+1)) (o:=hO (iota ws.length) (i+1)) (n:=ws.length) (k:=i) (by rw[r8 (by rw[jA];omega),jA])
  rw[Nat.mul_one,sk (by rw[r8 (by rw[jA];omega),jA];exact hi),Jy (by rw[jA];omega) (by rw[jA];exact hi),if_pos (by omega)]at d3
  rw[aS (by omega),d3]
  try simp -implicitDefEqProofs only[Option.bind_some]
  rw[i64_in _ (by omega),dO (by omega),show a-((ez a S ws).take i).sum-g (ez a S ws) i=a-((ez a S ws).take (i+1)).sum by omega]
 ·have aG:=IY (xs:=ez a S ws)
  have e2:=IY (xs:=eM a S ws)
  have bP:=IY (xs:=iota ws.length)
  rw[jA]at aG
  rw[k0]at e2
  rw[pB]at bP
  simp only[aG,e2,bP]
  rw[show(ez a S ws).take ws.length=ez a S ws by rw[←jA (a:=a) (S:=S) (ws:=ws),List.take_length]]
  unfold h7.aZ
  try simp -implicitDefEqProofs only[bZ]
  rw[decide_eq_false (by omega),cond_false]
theorem V3{qs rs os:List Int}{n k:Nat}{f:Bool}{ws:List Int}(hw:ws.length=n)(aV:qs.length=n)(a8:os.length=n)(jj:os.Nodup)(af:∀i,i<n→0≤g os i∧g os i<n)(aN:k≤n)(aM:n≤64)(aE:∀q∈qs,0≤q∧q≤128849018880000):
  iter bd (h7.cl (ag []) (ae f [.int .i64] ws) (k:Int)) (0,g2 qs rs os n)=some (.aP (),g2 (bump qs os k) rs os n):=by
 refine (kr (f:=h7.cl (ag []) (ae f [.int .i64] ws) (k:Int)) (fun i=>((i:Int),g2 (bump qs os i) rs os n)) ?_ k bd (fun i hi=>?_) ?_ (dj (by omega)))
 ·rw[P9];rfl
 ·have ahU:=af i (by omega)
  obtain⟨x,hx⟩:∃x:Nat,g os i=(x:Int):=⟨(g os i).toNat,by omega⟩
  have akG:=aE (g qs x) (Gm (by omega))
  unfold h7.cl
  try simp -implicitDefEqProofs only[bZ,Int.toNat_natCast,Nat.mul_one,Nat.zero_add,bR,List.length_nil,hw]
  have d2:=aaR (p:=bump qs os i) (r:=rs) (o:=os) (n:=n) (k:=i) a8
  rw[Nat.mul_one,sk (by omega),hx]at d2
  rw[decide_eq_true (by omega),cond_true,aS (by omega),d2]
  try simp -implicitDefEqProofs only[Option.bind_some,Int.toNat_natCast]
  have d0:=RW (p:=bump qs os i) (r:=rs) (o:=os) (n:=n) (k:=x) (by rw[pC,aV])
  rw[Nat.mul_one,sk (by rw[pC];omega)]at d0
  have Ai:0≤(x:Int)∧(x:Int)<(n:Int):=by rw[←hx];exact ahU
  rw[aS Ai,d0]
  try simp -implicitDefEqProofs only[Option.bind_some]
  have Hm:=uw (qs:=qs) (os:=os) (k:=i) (i:=x) (by omega)
  have hle:g (bump qs os i) x≤128849018880001∧0≤g (bump qs os i) x:=by
   rw[Hm];split<;>omega
  rw[aS Ai,i64_in _ (by omega)]
  have d1:=RY (p:=bump qs os i) (r:=rs) (o:=os) (n:=n) (k:=x) (x:=g (bump qs os i) x+1) (by rw[pC,aV]) (by omega)
  rw[Nat.mul_one,P_ jj (by omega) hx (by omega)]at d1
  rw[d1]
  try simp -implicitDefEqProofs only[Option.bind_some]
  rw[dO (by omega)]
 ·unfold h7.cl
  try simp -implicitDefEqProofs only[]
  rw[decide_eq_false (by omega),cond_false]
theorem Yb(a:Int)(ws:List Int)(aq:ws.length<2^63):vj a ws=some (Jx a ws):=by
 unfold vj h7 Jx
 try simp -implicitDefEqProofs only[aF,reduceIte,av,az,aB,ax,an.un,aj.un,ai.un,LT.un,ab.un,ab.plain,LT.plain,QM a ws aq]
 by_cases he:(jS a ws).2=0
 ·rw[if_pos he,he]
  obtain⟨bD,aO,fD,ey,Ht,bS,h1⟩:=IW he
  rw[h1]
  have Ue:=k1.1 Ht
  have akH:=Bw (a:=a) (ws:=ws) (by omega) aO
  have xk:=k1.1 bD
  try simp -implicitDefEqProofs only[decide_true,Bool.not_true,cond_false,Int.toNat_natCast,Nat.mul_one,hj,Ff,bR,List.length_nil,Nat.zero_add,List.replicate,List.nil_append,Wx]
  rw[aS (⟨by omega,by omega,by unfold ei;omega,by omega,trivial⟩),aS (⟨by omega,by omega,by unfold ei;omega,by omega,trivial⟩),aS (⟨by omega,by omega,by unfold ei;omega,by omega,trivial⟩)]
  rw[k5 (by simp),k5 (by simp),k5 (by simp),k5 (by simp)]
  try simp -implicitDefEqProofs only[List.set_cons_zero,List.set_cons_succ]
  rw[eS (g:=1) (cs:=[.slice .nil 0 0 false]) (e:=1) rfl rfl (by simp)]
  try simp -implicitDefEqProofs only[Option.bind_some,List.set_cons_zero,List.set_cons_succ,Ev.splice,List.take_zero,List.nil_append,List.length_cons,List.length_nil,Nat.zero_add,List.drop_succ_cons,List.drop_zero,List.drop_nil,List.append_nil]
  rw[aS (p:=fg _ _=true) rfl]
  have nb:=V2 (f:=false) bD ey Ht (by omega) (fun w hw=>Fm (fun y aK=>(vL ey y aK).1) hw) (by omega) fD
  unfold g2 at nb
  rw[nb]
  try simp -implicitDefEqProofs only[Option.bind_some]
  obtain⟨left,Gl⟩:∃k:Nat,a-(ez a ws.sum ws).sum=(k:Int):=⟨(a-(ez a ws.sum ws).sum).toNat,by omega⟩
  obtain⟨ys,s1,s2,cU,eD⟩:=VG (T:=h7.tb.t) (v:=.func 221 [.aa 3 1 0]) (sl:=[ib (ez a ws.sum ws),ib (eM a ws.sum ws),ib (iota ws.length),.own [.slice (.aa 1 ws.length 0) ws.length ws.length true] 1]) (id:=2) (n:=ws.length) (t:=true) (D:=fun x=>0≤x∧x<ws.length) (c:=LW (eM a ws.sum ws)) (lt:=iU (eM a ws.sum ws)) (by simp) fD
   (fun x y xs hx aK uW R k=>by
    show(xR x y (.aa 3 1 0) (bh [ib (ez a ws.sum ws),ib (eM a ws.sum ws),ib (iota ws.length),.own [.slice (.aa 1 ws.length 0) ws.length ws.length true] 1] 2 xs)).bind (fun p=>k (.int .i64 p.1) p.2)=_
    rw[KO,Xn k0 hx aK]
    rfl) (fun x y z=>P8 x y z) (xs:=iota ws.length) pB (fun k aN=>by rw[B9 aN];omega) (fun p q akI aV=>by
    rw[B9 (k:=q) aV,B9 (k:=p) (by omega)]
    unfold rz LW iU
    simp only[Int.toNat_natCast]
    constructor
    ·intro h;split at h
     ·left;assumption
     ·split at h<;>omega
    ·intro h;split at h
     ·omega
     ·split at h<;>omega)
  have tn:ys=ord (eM a ws.sum ws):=Zi (by rw[k0];exact cU) (fun p q h1 h2=>by rw[k0]at h2;exact eD p q h1 h2)
  rw[tn]at s1
  rw[KO,KO]at s1
  unfold g2 eo at s1
  rw[s1]
  try simp -implicitDefEqProofs only[Option.bind_some,Gl]
  have jk:=V3 (f:=false) (qs:=ez a ws.sum ws) (rs:=eM a ws.sum ws) (os:=ord (eM a ws.sum ws)) (n:=ws.length) (k:=left) (ws:=ws) rfl jA (by rw[pE,k0]) Jd (fun i hi=>by
    have:=Je (rs:=eM a ws.sum ws) (p:=i) (by rw[k0];exact hi)
    rwa [k0]at this) (by omega) fD (fun q aV=>by
    obtain⟨w,hw,rfl⟩:=List.mem_map.1 aV
    have aw:=vL ey w hw
    have aH:=Fm (fun y aK=>(vL ey y aK).1) hw
    have aW:=RU (a:=a) (S:=ws.sum) (w:=w) xk.1 (by omega) aH
    exact ⟨Int.ediv_nonneg (Int.mul_nonneg xk.1 aw.1) (by omega),by omega⟩)
  unfold g2 at jk
  rw[jk]
  try simp -implicitDefEqProofs only[Option.bind_some]
  unfold g4
  rw[Gl,Int.toNat_natCast]
  have aE:(bump (ez a ws.sum ws) (ord (eM a ws.sum ws)) left).length=ws.length:=by rw[pC,jA]
  have rl:=Bz (lp:=false) (ls:=[.int .i64]) (xs:=bump (ez a ws.sum ws) (ord (eM a ws.sum ws)) left) (sl:=[ib (bump (ez a ws.sum ws) (ord (eM a ws.sum ws)) left),ib (eM a ws.sum ws),ib (ord (eM a ws.sum ws)),.own [.slice (.aa 1 ws.length 0) ws.length ws.length true] 1]) (id:=0) (e:=1) (n:=ws.length) (c:=ws.length) (t:=true) rfl (by rw[aE];simp) rfl
  rw[aE]at rl
  rw[rl]
  rfl
 ·rw[if_neg he,decide_eq_false he]
  try simp -implicitDefEqProofs only[aF,reduceIte,av,az,aB,ax,an.un,aj.un,ai.un,LT.un,ab.un,ab.plain,LT.plain]
theorem Qa{id n:Nat}{ls:List ab}:(fh id ls n).len=n:=congrArg au.len (Eq.refl _)
theorem Yc{id n:Nat}{ls:List ab}:(fh id ls n).a=V.aa id (n*ls.length) 0:=congrArg au.a (Eq.refl _)
def fL(x:Int×Int):Bool:=decide (0≤x.1∧x.1≤10737418240000∧0≤x.2∧x.2≤128849018880000∧(0<x.2∨x.1=0))
theorem mq{x:Int×Int}:fL x=true↔0≤x.1∧x.1≤10737418240000∧0≤x.2∧x.2≤128849018880000∧(0<x.2∨x.1=0):=by simp[fL]
theorem vF(a v:Int):q5 (a,v)=some (fL (a,v)):=by
 unfold q5 BB fL
 try simp -implicitDefEqProofs only[aF,reduceIte,av,az,aB,ax,an.un,aj.un,ai.un,LT.un,ab.un,ab.plain,LT.plain,dm,List.replicate,Ev.splice,LT.pack,ab.pack,Nat.reduceAdd,Nat.reduceSub,Nat.reduceLeDiff,Nat.reduceLT,Nat.reduceEqDiff,LT.lo,ab.lo]
 by_cases h1:0≤a
 ·rw[decide_eq_true h1]
  try simp -implicitDefEqProofs only[aF,reduceIte,av,az,aB,ax,an.un,aj.un,ai.un,LT.un,ab.un,ab.plain,LT.plain,dm,List.replicate,Ev.splice,LT.pack,ab.pack,Nat.reduceAdd,Nat.reduceSub,Nat.reduceLeDiff,Nat.reduceLT,Nat.reduceEqDiff,LT.lo,ab.lo]
  by_cases h2:a≤10737418240000
  ·rw[decide_eq_true h2]
   try simp -implicitDefEqProofs only[aF,reduceIte,av,az,aB,ax,an.un,aj.un,ai.un,LT.un,ab.un,ab.plain,LT.plain,dm,List.replicate,Ev.splice,LT.pack,ab.pack,Nat.reduceAdd,Nat.reduceSub,Nat.reduceLeDiff,Nat.reduceLT,Nat.reduceEqDiff,LT.lo,ab.lo]
   by_cases h3:0≤v
   ·rw[decide_eq_true h3]
    try simp -implicitDefEqProofs only[aF,reduceIte,av,az,aB,ax,an.un,aj.un,ai.un,LT.un,ab.un,ab.plain,LT.plain,dm,List.replicate,Ev.splice,LT.pack,ab.pack,Nat.reduceAdd,Nat.reduceSub,Nat.reduceLeDiff,Nat.reduceLT,Nat.reduceEqDiff,LT.lo,ab.lo]
    by_cases aI:v≤128849018880000
    ·rw[decide_eq_true aI]
     try simp -implicitDefEqProofs only[aF,reduceIte,av,az,aB,ax,an.un,aj.un,ai.un,LT.un,ab.un,ab.plain,LT.plain,dm,List.replicate,Ev.splice,LT.pack,ab.pack,Nat.reduceAdd,Nat.reduceSub,Nat.reduceLeDiff,Nat.reduceLT,Nat.reduceEqDiff,LT.lo,ab.lo]
     by_cases ba:0<v
     ·rw[decide_eq_true ba]
      try simp -implicitDefEqProofs only[aF,reduceIte,av,az,aB,ax,an.un,aj.un,ai.un,LT.un,ab.un,ab.plain,LT.plain,dm,List.replicate,Ev.splice,LT.pack,ab.pack,Nat.reduceAdd,Nat.reduceSub,Nat.reduceLeDiff,Nat.reduceLT,Nat.reduceEqDiff,LT.lo,ab.lo]
      rw[decide_eq_true (by omega)]
     ·rw[decide_eq_false ba]
      try simp -implicitDefEqProofs only[aF,reduceIte,av,az,aB,ax,an.un,aj.un,ai.un,LT.un,ab.un,ab.plain,LT.plain,dm,List.replicate,Ev.splice,LT.pack,ab.pack,Nat.reduceAdd,Nat.reduceSub,Nat.reduceLeDiff,Nat.reduceLT,Nat.reduceEqDiff,LT.lo,ab.lo]
      by_cases bp:a=0
      ·rw[decide_eq_true bp,decide_eq_true (by omega)]
      ·rw[decide_eq_false bp,decide_eq_false (by omega)]
    ·rw[decide_eq_false aI,decide_eq_false (p:=_∧_) (by omega)]
     try simp -implicitDefEqProofs only[aF,reduceIte,av,az,aB,ax,an.un,aj.un,ai.un,LT.un,ab.un,ab.plain,LT.plain,dm,List.replicate,Ev.splice,LT.pack,ab.pack,Nat.reduceAdd,Nat.reduceSub,Nat.reduceLeDiff,Nat.reduceLT,Nat.reduceEqDiff,LT.lo,ab.lo]
   ·rw[decide_eq_false h3,decide_eq_false (p:=_∧_) (by omega)]
    try simp -implicitDefEqProofs only[aF,reduceIte,av,az,aB,ax,an.un,aj.un,ai.un,LT.un,ab.un,ab.plain,LT.plain,dm,List.replicate,Ev.splice,LT.pack,ab.pack,Nat.reduceAdd,Nat.reduceSub,Nat.reduceLeDiff,Nat.reduceLT,Nat.reduceEqDiff,LT.lo,ab.lo]
  ·rw[decide_eq_false h2,decide_eq_false (p:=_∧_) (by omega)]
   try simp -implicitDefEqProofs only[aF,reduceIte,av,az,aB,ax,an.un,aj.un,ai.un,LT.un,ab.un,ab.plain,LT.plain,dm,List.replicate,Ev.splice,LT.pack,ab.pack,Nat.reduceAdd,Nat.reduceSub,Nat.reduceLeDiff,Nat.reduceLT,Nat.reduceEqDiff,LT.lo,ab.lo]
 ·rw[decide_eq_false h1,decide_eq_false (p:=_∧_) (by omega)]
  try simp -implicitDefEqProofs only[aF,reduceIte,av,az,aB,ax,an.un,aj.un,ai.un,LT.un,ab.un,ab.plain,LT.plain,dm,List.replicate,Ev.splice,LT.pack,ab.pack,Nat.reduceAdd,Nat.reduceSub,Nat.reduceLeDiff,Nat.reduceLT,Nat.reduceEqDiff,LT.lo,ab.lo]
def y1 (x:Int×Int)(w:Int):(Int×Int)×(Int×Int)×Int:=
 if fL x=true then(if w<0 then((0,0),(0,0),2)else if x.2<w then((0,0),(0,0),17)else ((x.1*w/x.2,w),(x.1-x.1*w/x.2,x.2-w),0))else ((0,0),(0,0),1)
theorem QO{a w v:Int}(bD:0≤a)(hw:0≤w)(aU:0<v)(h:w≤v):0≤a*w/v∧a*w/v≤a:=by
 refine⟨Int.ediv_nonneg (Int.mul_nonneg bD hw) (by omega), ?_⟩
 have:=Int.ediv_le_ediv aU (Int.mul_le_mul_of_nonneg_left h bD)
 rwa [Int.mul_ediv_cancel _ (by omega)]at this
theorem aab(a v w:Int):yo (a,v) w=some (y1 (a,v) w):=by
 unfold yo BS y1
 try simp -implicitDefEqProofs only[aF,reduceIte,av,az,aB,ax,an.un,aj.un,ai.un,LT.un,ab.un,ab.plain,LT.plain,dm,List.replicate,Ev.splice,LT.pack,ab.pack,Nat.reduceAdd,Nat.reduceSub,Nat.reduceLeDiff,Nat.reduceLT,Nat.reduceEqDiff,LT.lo,ab.lo]
 rw[vF]
 try simp -implicitDefEqProofs only[aF,reduceIte,av,az,aB,ax,an.un,aj.un,ai.un,LT.un,ab.un,ab.plain,LT.plain,dm,List.replicate,Ev.splice,LT.pack,ab.pack,Nat.reduceAdd,Nat.reduceSub,Nat.reduceLeDiff,Nat.reduceLT,Nat.reduceEqDiff,LT.lo,ab.lo]
 cases h:fL (a,v)with
 |false=>simp -implicitDefEqProofs only[aF,reduceIte,av,az,aB,ax,an.un,aj.un,ai.un,LT.un,ab.un,ab.plain,LT.plain,dm,List.replicate,Ev.splice,LT.pack,ab.pack,Nat.reduceAdd,Nat.reduceSub,Nat.reduceLeDiff,Nat.reduceLT,Nat.reduceEqDiff,LT.lo,ab.lo];rfl
 |true=>
  rw[mq]at h
  simp only at h
  try simp -implicitDefEqProofs only[aF,reduceIte,av,az,aB,ax,an.un,aj.un,ai.un,LT.un,ab.un,ab.plain,LT.plain,dm,List.replicate,Ev.splice,LT.pack,ab.pack,Nat.reduceAdd,Nat.reduceSub,Nat.reduceLeDiff,Nat.reduceLT,Nat.reduceEqDiff,LT.lo,ab.lo]
  by_cases h1:w<0
  ·rw[decide_eq_true h1,if_pos h1]
   try simp -implicitDefEqProofs only[aF,reduceIte,av,az,aB,ax,an.un,aj.un,ai.un,LT.un,ab.un,ab.plain,LT.plain,dm,List.replicate,Ev.splice,LT.pack,ab.pack,Nat.reduceAdd,Nat.reduceSub,Nat.reduceLeDiff,Nat.reduceLT,Nat.reduceEqDiff,LT.lo,ab.lo]
  ·rw[decide_eq_false h1,if_neg h1]
   try simp -implicitDefEqProofs only[aF,reduceIte,av,az,aB,ax,an.un,aj.un,ai.un,LT.un,ab.un,ab.plain,LT.plain,dm,List.replicate,Ev.splice,LT.pack,ab.pack,Nat.reduceAdd,Nat.reduceSub,Nat.reduceLeDiff,Nat.reduceLT,Nat.reduceEqDiff,LT.lo,ab.lo]
   by_cases h2:v<w
   ·rw[decide_eq_true h2,if_pos h2]
    try simp -implicitDefEqProofs only[aF,reduceIte,av,az,aB,ax,an.un,aj.un,ai.un,LT.un,ab.un,ab.plain,LT.plain,dm,List.replicate,Ev.splice,LT.pack,ab.pack,Nat.reduceAdd,Nat.reduceSub,Nat.reduceLeDiff,Nat.reduceLT,Nat.reduceEqDiff,LT.lo,ab.lo]
   ·rw[decide_eq_false h2,if_neg h2]
    try simp -implicitDefEqProofs only[aF,reduceIte,av,az,aB,ax,an.un,aj.un,ai.un,LT.un,ab.un,ab.plain,LT.plain,dm,List.replicate,Ev.splice,LT.pack,ab.pack,Nat.reduceAdd,Nat.reduceSub,Nat.reduceLeDiff,Nat.reduceLT,Nat.reduceEqDiff,LT.lo,ab.lo]
    by_cases h3:v=0
    ·have bD:a=0:=by omega
     have hw:w=0:=by omega
     subst h3 bD hw
     rw[decide_eq_true rfl]
     try simp -implicitDefEqProofs only[aF,reduceIte,av,az,aB,ax,an.un,aj.un,ai.un,LT.un,ab.un,ab.plain,LT.plain,dm,List.replicate,Ev.splice,LT.pack,ab.pack,Nat.reduceAdd,Nat.reduceSub,Nat.reduceLeDiff,Nat.reduceLT,Nat.reduceEqDiff,LT.lo,ab.lo]
     rfl
    ·rw[decide_eq_false h3]
     have ad:=QO (a:=a) (w:=w) (v:=v) (by omega) (by omega) (by omega) (by omega)
     have ahV:GW a w v=(a*w/v,a*w%v,0):=by
      unfold GW
      rw[if_pos (by simp[k1];omega),if_neg h3,if_neg (by omega)]
     try simp -implicitDefEqProofs only[aF,reduceIte,av,az,aB,ax,an.un,aj.un,ai.un,LT.un,ab.un,ab.plain,LT.plain,dm,List.replicate,Ev.splice,LT.pack,ab.pack,Nat.reduceAdd,Nat.reduceSub,Nat.reduceLeDiff,Nat.reduceLT,Nat.reduceEqDiff,LT.lo,ab.lo,acx,ahV]
     rw[i64_in _ (by omega),i64_in _ (by omega)]
     rfl
def b7(xs:List (Int×Int))(i:Nat):Int×Int:=xs[i]?.getD (0,0)
theorem iP{xs:List (Int×Int)}{i:Nat}(h:i<xs.length):xs[i]? =some (b7 xs i):=by
 unfold b7
 rw[List.getElem?_eq_getElem h]
 rfl
theorem JN{xs:List (Int×Int)}{i:Nat}(h:i<xs.length):b7 xs i∈xs:=List.mem_of_getElem? (iP h)
theorem Kb{f:Bool}{xs:List (Int×Int)}{i:Nat}{h:H}(hi:i<xs.length):ah (.leaf (.int .i64)) h (((ae f aD xs).a.add (i*2)).add 0)=some (b7 xs i).1∧ah (.leaf (.int .i64)) h (((ae f aD xs).a.add (i*2)).add 1)=some (b7 xs i).2:=by
 refine⟨?_, ?_⟩<;>(rw[add_add,yX (ls:=aD) (w:=2) rfl (by omega),iP hi];rfl)
theorem Kc{f:Bool}{xs:List (Int×Int)}{i:Nat}(hi:i<xs.length):V.bm ((ae f aD xs).a.add (i*2))=true:=nL (by omega) (by simp)
def pT(f:Nat→Int)(n:Nat):Int:=(((List.range n).find? fun i=>!decide (f i=0)).map f).getD 0
theorem q3(f:Nat→Int):∀(n:Nat),((∀i,i<n→f i=0)∧pT f n=0)∨∃m,m<n∧f m≠0∧(∀i,i<m→f i=0)∧pT f n=f m:=fun n=>by
 unfold pT
 cases h:(List.range n).find? fun i=>!decide (f i=0)with
 |none=>
  refine .inl ⟨fun i hi=>?_,rfl⟩
  have:=List.find?_eq_none.1 h i (List.mem_range.2 hi)
  simpa using this
 |some m=>
  obtain⟨h1,us,fz,h2,h3⟩:=List.find?_eq_some_iff_append.1 h
  refine .inr ⟨m,List.mem_range.1 (by rw[h2];simp),by simpa using h1,fun i hi=>?_,rfl⟩
  have hm:us.length=m:=by
   have aI:(List.range n)[us.length]? =some m:=by rw[h2];simp
   rw[List.getElem?_eq_some_iff]at aI
   obtain⟨_,ba⟩:=aI
   simpa using ba
  have:i∈us:=by
   have aI:(List.range n)[i]? =us[i]?:=by rw[h2,List.getElem?_append_left (by omega)]
   have aM:m<n:=List.mem_range.1 (by rw[h2];simp)
   rw[List.getElem?_range (by omega)]at aI
   exact List.mem_of_getElem? aI.symm
  have:=h3 i this
  simpa using this
def kM(x:Int×Int):Bool:=decide (1≤x.1∧x.1≤1073741824∧1≤x.2∧x.2≤10737418240000)
theorem lI{x:Int×Int}:kM x=true↔1≤x.1∧x.1≤1073741824∧1≤x.2∧x.2≤10737418240000:=by simp[kM]
def b0(xs:List (Int×Int)):Int:=(xs.map (·.2)).sum
theorem Jf{xs:List (Int×Int)}{i:Nat}(h:i<xs.length):b0 (xs.take (i+1))=b0 (xs.take i)+(b7 xs i).2:=by
 have:=iP h
 obtain⟨hi,he⟩:=List.getElem?_eq_some_iff.1 this
 unfold b0
 rw[←List.take_append_getElem hi,he]
 simp
theorem vB:∀(xs:List (Int×Int)),(∀x∈xs,0≤x.2∧x.2≤1000000000000000)→0≤b0 xs∧b0 xs≤xs.length*1000000000000000
 |[],_=>by simp[b0]
 |x::xs,h=>by
  have h1:=h x (by simp)
  have h2:=vB xs fun y aK=>h y (by simp[aK])
  unfold b0 at h2⊢
  simp only[List.map_cons,List.sum_cons,List.length_cons]
  omega
def g5(xs:List (Int×Int))(i:Nat):Int:=if kM (b7 xs i)=true then(if 0<i∧(b7 xs i).1≤(b7 xs (i-1)).1 then 5 else 0)else 2
def g3(xs:List (Int×Int)):Int:=
 if 32<xs.length then 8 else if pT (g5 xs) xs.length=0 then(if 10737418240000<b0 xs then 15 else 0)else pT (g5 xs) xs.length
theorem Zj{bY b5:Int}{h:H}:(bif !(decide (bY<1))then(bif !(decide ((1073741824:Int)<bY))then(bif !(decide (b5<1))then some (decide ((10737418240000:Int)<b5),h)else some (true,h))else some (true,h))else some (true,h):Option (Bool×H))=some (!kM (bY,b5),h):=by
 unfold kM
 by_cases h1:bY<1
 ·rw[decide_eq_true h1,decide_eq_false (p:=_∧_) (by simp only;omega)];rfl
 ·rw[decide_eq_false h1]
  by_cases h2:(1073741824:Int)<bY
  ·rw[decide_eq_true h2,decide_eq_false (p:=_∧_) (by simp only;omega)];rfl
  ·rw[decide_eq_false h2]
   by_cases h3:b5<1
   ·rw[decide_eq_true h3,decide_eq_false (p:=_∧_) (by simp only;omega)];rfl
   ·rw[decide_eq_false h3]
    by_cases aI:(10737418240000:Int)<b5
    ·rw[decide_eq_true aI,decide_eq_false (p:=_∧_) (by simp only;omega)];rfl
    ·rw[decide_eq_false aI,decide_eq_true (p:=_∧_) (by simp only;omega)];rfl
theorem FA{xs:List (Int×Int)}{i:Nat}(h:g5 xs i=0):kM (b7 xs i)=true:=by
 unfold g5 at h
 by_cases h1:kM (b7 xs i)=true
 ·exact h1
 ·rw[if_neg h1]at h;simp at h
theorem Rp{xs:List (Int×Int)}{i:Nat}(hi:i≤xs.length)(h:∀j,j<i→g5 xs j=0):∀x∈xs.take i,0≤x.2∧x.2≤1000000000000000:=fun x hx=>by
 obtain⟨j,aL,e⟩:=List.getElem_of_mem hx
 rw[List.length_take]at aL
 rw[List.getElem_take]at e
 have h1:=lI.1 (FA (h j (by omega)))
 have:b7 xs j=x:=by
  have:=iP (xs:=xs) (i:=j) (by omega)
  rw[List.getElem?_eq_getElem (by omega),e]at this
  exact (Option.some.inj this).symm
 rw[this]at h1
 omega
theorem IF{xs:List (Int×Int)}{f:Bool}{i:Nat}(hi:i<xs.length)(c2:xs.length≤32)(aa:∀j,j<i→g5 xs j=0):
  oE.aZ (ae f aD xs) ((b0 (xs.take i),(i:Int)),ag ((xs.take i).map a_))=some (if g5 xs i=0 then .more ((b0 (xs.take (i+1)),((i+1:Nat):Int)),ag ((xs.take (i+1)).map a_))else .done (.ret (g5 xs i),ag ((xs.take (i+1)).map a_))):=by
 have mB:=iP hi
 have gR:(xs.take i).map a_++[a_ (b7 xs i)]=(xs.take (i+1)).map a_:=by
  obtain⟨h1,he⟩:=List.getElem?_eq_some_iff.1 mB
  rw[←List.take_append_getElem h1,he,List.map_append]
  rfl
 have dH:((xs.take i).map a_++[a_ (b7 xs i)])[((xs.take i).map a_).length]? =some (a_ (b7 xs i)):=by simp
 have bw:=lR dH
 have fq:=nM (sl:=(xs.take i).map a_) (x:=b7 xs i)
 have aE:=vB (xs.take i) (Rp (by omega) aa)
 rw[List.length_take,Nat.min_eq_left (by omega)]at aE
 have a6:=Jf hi
 have iw:0≤(i:Int)∧(i:Int)<(xs.length:Int):=by omega
 unfold oE.aZ
 try simp -implicitDefEqProofs only[Int.toNat_natCast,bZ,aS iw,gk]
 rw[decide_eq_true iw.2,cond_true,q8 (ls:=aD) (w:=2) rfl (by omega) rfl,mB]
 try simp -implicitDefEqProofs only[Option.bind_some,b9,bR]
 rw[fq]
 try simp -implicitDefEqProofs only[Option.bind_some,bw.1,bw.2]
 rw[Zj]
 unfold g5
 cases db:kM (b7 xs i)with
 |false=>
  try simp -implicitDefEqProofs only[aF,reduceIte,av,az,aB,ax,an.un,aj.un,ai.un,LT.un,ab.un,ab.plain,LT.plain,Bool.false_eq_true]
  rw[gR,if_neg (by simp)]
 |true=>
  have aff:=lI.1 db
  try simp -implicitDefEqProofs only[aF,reduceIte,av,az,aB,ax,an.un,aj.un,ai.un,LT.un,ab.un,ab.plain,LT.plain,Bool.false_eq_true]
  cases i with
  |zero=>
   rw[decide_eq_false (show ¬(0:Int)<((0:Nat):Int) by omega)]
   try simp -implicitDefEqProofs only[aF,reduceIte,av,az,aB,ax,an.un,aj.un,ai.un,LT.un,ab.un,ab.plain,LT.plain,Bool.false_eq_true]
   rw[bw.2]
   try simp -implicitDefEqProofs only[aF,reduceIte,av,az,aB,ax,an.un,aj.un,ai.un,LT.un,ab.un,ab.plain,LT.plain]
   rw[if_neg (show ¬((0:Nat)<0∧_) by omega),if_pos rfl,gR,i64_in _ (by omega),dO (by omega),a6]
  |succ j=>
   have aL:((j+1:Nat):Int)-1=((j:Nat):Int):=by omega
   have hA:0≤(j:Int)∧(j:Int)<(xs.length:Int):=by omega
   rw[decide_eq_true (show(0:Int)<((j+1:Nat):Int) by omega),aL,i64_in (j:Int) (by omega)]
   try simp -implicitDefEqProofs only[aF,reduceIte,av,az,aB,ax,an.un,aj.un,ai.un,LT.un,ab.un,ab.plain,LT.plain,Int.toNat_natCast]
   rw[aS hA,aS (Kc (by omega)),(Kb (by omega)).1]
   try simp -implicitDefEqProofs only[aF,reduceIte,av,az,aB,ax,an.un,aj.un,ai.un,LT.un,ab.un,ab.plain,LT.plain]
   rw[bw.1]
   try simp -implicitDefEqProofs only[aF,reduceIte,av,az,aB,ax,an.un,aj.un,ai.un,LT.un,ab.un,ab.plain,LT.plain]
   rw[Nat.add_sub_cancel]
   by_cases hle:(b7 xs (j+1)).1≤(b7 xs j).1
   ·rw[decide_eq_true hle]
    try simp -implicitDefEqProofs only[aF,reduceIte,av,az,aB,ax,an.un,aj.un,ai.un,LT.un,ab.un,ab.plain,LT.plain]
    rw[if_pos (show(0<j+1∧(b7 xs (j+1)).1≤(b7 xs j).1)from⟨by omega,hle⟩),if_neg (by omega),gR]
   ·rw[decide_eq_false hle]
    try simp -implicitDefEqProofs only[aF,reduceIte,av,az,aB,ax,an.un,aj.un,ai.un,LT.un,ab.un,ab.plain,LT.plain,Bool.false_eq_true]
    rw[bw.2]
    try simp -implicitDefEqProofs only[aF,reduceIte,av,az,aB,ax,an.un,aj.un,ai.un,LT.un,ab.un,ab.plain,LT.plain]
    rw[if_neg (show ¬(0<j+1∧(b7 xs (j+1)).1≤(b7 xs j).1)from fun h=>hle h.2),if_pos rfl,gR,i64_in _ (by omega),dO (by omega),a6]
theorem Yd (xs:List (Int×Int))(aq:xs.length<2^63):x7 xs=some (g3 xs):=by
 unfold x7 oE g3
 try simp -implicitDefEqProofs only[aF,reduceIte,av,az,aB,ax,an.un,aj.un,ai.un,LT.un,ab.un,ab.plain,LT.plain,hj]
 by_cases c2:32<xs.length
 ·rw[if_pos c2,decide_eq_true (show(32:Int)<(xs.length:Int) by omega)]
  try simp -implicitDefEqProofs only[aF,reduceIte,av,az,aB,ax,an.un,aj.un,ai.un,LT.un,ab.un,ab.plain,LT.plain]
 ·rw[if_neg c2,decide_eq_false (show ¬(32:Int)<(xs.length:Int) by omega)]
  try simp -implicitDefEqProofs only[aF,reduceIte,av,az,aB,ax,an.un,aj.un,ai.un,LT.un,ab.un,ab.plain,LT.plain]
  rcases q3 (g5 xs) xs.length with⟨h1,h2⟩|⟨m,h1,h2,h3,aI⟩
  ·rw[h2,if_pos rfl]
   rw[kr (s0:=(((0:Int),(0:Int)),ag [])) (f:=oE.aZ (ae false aD xs)) (x:=(.aP (b0 xs),ag (xs.map a_))) (fun i=>((b0 (xs.take i),(i:Int)),ag ((xs.take i).map a_))) rfl xs.length bd (fun i hi=>by
    rw[IF hi (by omega) (fun j aL=>h1 j (by omega)),if_pos (h1 i hi)]) (by
    unfold oE.aZ
    try simp -implicitDefEqProofs only[bZ]
    rw[decide_eq_false (by omega),cond_false,List.take_length]) (dj (by omega))]
   try simp -implicitDefEqProofs only[aF,reduceIte,av,az,aB,ax,an.un,aj.un,ai.un,LT.un,ab.un,ab.plain,LT.plain]
   by_cases ad:10737418240000<b0 xs
   ·rw[decide_eq_true ad,if_pos ad];simp -implicitDefEqProofs only[aF,reduceIte,av,az,aB,ax,an.un,aj.un,ai.un,LT.un,ab.un,ab.plain,LT.plain]
   ·rw[decide_eq_false ad,if_neg ad];simp -implicitDefEqProofs only[aF,reduceIte,av,az,aB,ax,an.un,aj.un,ai.un,LT.un,ab.un,ab.plain,LT.plain]
  ·rw[aI,if_neg h2]
   rw[kr (s0:=(((0:Int),(0:Int)),ag [])) (f:=oE.aZ (ae false aD xs)) (x:=(.ret (g5 xs m),ag ((xs.take (m+1)).map a_))) (fun i=>((b0 (xs.take i),(i:Int)),ag ((xs.take i).map a_))) rfl m bd (fun i hi=>by
    rw[IF (by omega) (by omega) (fun j aL=>h3 j (by omega)),if_pos (h3 i hi)]) (by
    rw[IF h1 (by omega) h3,if_neg h2]) (dj (by omega))]
   try simp -implicitDefEqProofs only[aF,reduceIte,av,az,aB,ax,an.un,aj.un,ai.un,LT.un,ab.un,ab.plain,LT.plain]
theorem mo{xs:List (Int×Int)}(h:g3 xs=0):xs.length≤32∧(∀i,i<xs.length→g5 xs i=0)∧(∀x∈xs,kM x=true)∧b0 xs≤10737418240000:=by
 unfold g3 at h
 by_cases c2:32<xs.length
 ·rw[if_pos c2]at h;simp at h
 ·rw[if_neg c2]at h
  rcases q3 (g5 xs) xs.length with⟨h1,h2⟩|⟨m,h1,h2,h3,aI⟩
  ·rw[h2,if_pos rfl]at h
   by_cases ad:10737418240000<b0 xs
   ·rw[if_pos ad]at h;simp at h
   ·refine⟨by omega,h1,fun x hx=>?_,by omega⟩
    obtain⟨i,hi,e⟩:=List.getElem_of_mem hx
    have:=FA (h1 i hi)
    have ba:=iP hi
    rw[List.getElem?_eq_getElem hi,e]at ba
    rw[Option.some.inj ba]
    exact this
  ·rw[aI,if_neg h2]at h
   exact absurd h h2
theorem BI{xs:List (Int×Int)}(h:∀x∈xs,kM x=true):∀x∈xs,0≤x.2∧x.2≤1000000000000000:=fun x hx=>by
 have:=lI.1 (h x hx)
 omega
theorem Xo{xs:List (Int×Int)}(h:∀x∈xs,0≤x.2∧x.2≤1000000000000000)(i:Nat)(hi:i≤xs.length):0≤b0 (xs.take i)∧b0 (xs.take i)≤i*1000000000000000:=by
 have:=vB (xs.take i) fun x hx=>h x (List.mem_of_mem_take hx)
 rw[List.length_take,Nat.min_eq_left hi]at this
 exact this
theorem Zk{xs:List (Int×Int)}{i:Nat}(h:i<xs.length):(xs.take (i+1)).map (·.2)=(xs.take i).map (·.2)++[(b7 xs i).2]:=by
 obtain⟨hi,he⟩:=List.getElem?_eq_some_iff.1 (iP h)
 rw[←List.take_append_getElem hi,he,List.map_append]
 rfl
theorem OD(xs:List (Int×Int))(aq:xs.length≤64)(aE:∀x∈xs,0≤x.2∧x.2≤1000000000000000):tV xs=some (xs.map (·.2),b0 xs):=by
 unfold tV qY
 try simp -implicitDefEqProofs only[aF,reduceIte,av,az,aB,ax,an.un,aj.un,ai.un,LT.un,ab.un,ab.plain,LT.plain,hj]
 obtain⟨x,h1,s,sl,o,rfl,h2⟩:=BG (f:=qY.aZ (ae false aD xs)) (fun i st=>∃s sl o,st=((s,b0 (xs.take i),(i:Int)),ag sl)∧Acc sl [.int .i64] ((xs.take i).map (·.2)) s o)
  (fun x=>∃s sl o,x=(.aP (s,b0 xs),ag sl)∧Acc sl [.int .i64] (xs.map (·.2)) s o) xs.length (fun i st hi a6=>by
   obtain⟨s,sl,o,rfl,dG⟩:=a6
   have mB:=iP hi
   have dH:(sl++[a_ (b7 xs i)])[sl.length]? =some (a_ (b7 xs i)):=by simp
   have fq:=nM (sl:=sl) (x:=b7 xs i)
   have DO:=Xo aE i (by omega)
   have hx:=aE _ (JN hi)
   have a6:=Jf hi
   have iw:0≤(i:Int)∧(i:Int)<(xs.length:Int):=by omega
   have Ss:(sl++[a_ (b7 xs i)]++List.replicate 1 Slot.fresh)[sl.length]? =some (a_ (b7 xs i)):=by simp
   have bw:=lR Ss
   have CO:Acc (sl++[a_ (b7 xs i)]++List.replicate 1 Slot.fresh) [.int .i64] ((xs.take i).map (·.2)) s o:=dG.more.more
   have hlen:(sl++[a_ (b7 xs i)]).length<(sl++[a_ (b7 xs i)]++List.replicate 1 Slot.fresh).length:=by simp
   have a8:o≠some (sl++[a_ (b7 xs i)]).length:=fun e=>by
    subst e
    have:=dG.lt
    simp at this
    omega
   have Uf:o≠some sl.length:=fun e=>by
    subst e
    have:=dG.lt
    omega
   obtain⟨bc,aC,id,aw,aH,aW,bq,bU⟩:=Acc.Y_ CO (b:=8) (w:=1) (x:=(b7 xs i).2) (vs:=[.int .i64 (b7 xs i).2]) hlen a8 rfl (by omega) (by rw[List.length_map,List.length_take];omega) (by omega) rfl
   have g9:aC[sl.length]? =some (a_ (b7 xs i)):=by
    rw[bU sl.length Uf (by simp),Ss]
   have bJ:=lR g9
   obtain⟨g,aQ⟩:=Acc.addr CO (cs:=[.int .i64 (b7 xs i).2]) (n:=1) (c:=1) (t:=false) (i:=(sl++[a_ (b7 xs i)]).length)
   have ir:o.getD (sl++[a_ (b7 xs i)]).length≠sl.length:=by
    cases o with
    |none=>simp
    |some id=>intro e;simp only[Option.getD_some]at e;exact Uf (by rw[e])
   refine⟨((bc,b0 (xs.take (i+1)),((i+1:Nat):Int)),ag aC), ?_,bc,aC,some id,rfl,by rw[Zk hi];exact aH⟩
   unfold qY.aZ
   try simp -implicitDefEqProofs only[Int.toNat_natCast,bZ,aS iw]
   rw[decide_eq_true iw.2,cond_true,q8 (ls:=aD) (w:=2) rfl (by omega) rfl,mB]
   try simp -implicitDefEqProofs only[Option.bind_some,b9,bR]
   rw[fq]
   try simp -implicitDefEqProofs only[Option.bind_some,Ff,bR]
   rw[bw.2]
   try simp -implicitDefEqProofs only[Option.bind_some]
   rw[aw]
   try simp -implicitDefEqProofs only[Option.bind_some]
   rw[bJ.2]
   try simp -implicitDefEqProofs only[Option.bind_some]
   rw[aQ,aS (QJ ir),i64_in _ (by omega),dO (by omega),a6]) (fun st a6=>by
   obtain⟨s,sl,o,rfl,dG⟩:=a6
   rw[List.take_length]at dG⊢
   refine⟨_, ?_,s,sl,o,rfl,dG⟩
   unfold qY.aZ
   try simp -implicitDefEqProofs only[bZ]
   rw[decide_eq_false (by omega),cond_false]) bd 0 ((⟨.nil,0,0,false⟩,0,0),ag []) (by omega) ⟨_,[],none,rfl,Acc.nil⟩ (by have:=dj (n:=xs.length) (by omega);omega)
 rw[h1]
 try simp -implicitDefEqProofs only[aF,reduceIte,av,az,aB,ax,an.un,aj.un,ai.un,LT.un,ab.un,ab.plain,LT.plain]
 rw[h2.read rfl]
 rfl
def BT(xs:List (Int×Int)):Int×Int:=if g3 xs=0 then(b0 xs,0)else (0,1)
theorem Rq(xs:List (Int×Int))(aq:xs.length<2^63):q6 xs=some (BT xs):=by
 unfold q6 BF BT
 try simp -implicitDefEqProofs only[aF,reduceIte,av,az,aB,ax,an.un,aj.un,ai.un,LT.un,ab.un,ab.plain,LT.plain]
 rw[Yd xs aq]
 try simp -implicitDefEqProofs only[aF,reduceIte,av,az,aB,ax,an.un,aj.un,ai.un,LT.un,ab.un,ab.plain,LT.plain]
 by_cases h:g3 xs=0
 ·obtain⟨h1,h2,h3,aI⟩:=mo h
  rw[decide_eq_true h,if_pos h]
  try simp -implicitDefEqProofs only[aF,reduceIte,av,az,aB,ax,an.un,aj.un,ai.un,LT.un,ab.un,ab.plain,LT.plain]
  rw[OD xs (by omega) (BI h3)]
  try simp -implicitDefEqProofs only[aF,reduceIte,av,az,aB,ax,an.un,aj.un,ai.un,LT.un,ab.un,ab.plain,LT.plain]
 ·rw[decide_eq_false h,if_neg h]
  try simp -implicitDefEqProofs only[aF,reduceIte,av,az,aB,ax,an.un,aj.un,ai.un,LT.un,ab.un,ab.plain,LT.plain]
def c4:List (Int×Int)→List (Int×Int)→List (Int×Int)
 |[],ys=>ys
 |x::xs,[]=>x::xs
 |x::xs,y::ys=>if x.1<y.1 then x::c4 xs (y::ys)else if y.1<x.1 then y::c4 (x::xs) ys else (x.1,x.2+y.2)::c4 xs ys
termination_by xs ys=>xs.length+ys.length
theorem pJ(xs:List (Int×Int)):c4 xs []=xs:=by cases xs<;>simp[c4]
theorem oK(xs:List (Int×Int)):c4 [] xs=xs:=by simp[c4]
theorem sg{x y:Int×Int}{xs ys:List (Int×Int)}(h:x.1<y.1):c4 (x::xs) (y::ys)=x::c4 xs (y::ys):=by rw[c4,if_pos h]
theorem sh{x y:Int×Int}{xs ys:List (Int×Int)}(h:y.1<x.1):c4 (x::xs) (y::ys)=y::c4 (x::xs) ys:=by rw[c4,if_neg (by omega),if_pos h]
theorem si{x y:Int×Int}{xs ys:List (Int×Int)}(h:x.1=y.1):c4 (x::xs) (y::ys)=(x.1,x.2+y.2)::c4 xs ys:=by rw[c4,if_neg (by omega),if_neg (by omega)]
theorem q4{P:List (Int×Int)→List (Int×Int)→Prop}(h1:∀ys,P [] ys)(h2:∀xs,P xs [])(h3:∀x xs y ys,x.1<y.1→P xs (y::ys)→P (x::xs) (y::ys))(aI:∀x xs y ys,y.1<x.1→P (x::xs) ys→P (x::xs) (y::ys))
  (ba:∀x xs y ys,x.1=y.1→P xs ys→P (x::xs) (y::ys)):∀(n:Nat) (xs ys:List (Int×Int)),xs.length+ys.length≤n→P xs ys
 |n,[],ys,_=>h1 ys
 |n,x::xs,[],_=>h2 _
 |0,x::xs,y::ys,h=>by simp at h
 |n+1,x::xs,y::ys,h=>by
  simp only[List.length_cons]at h
  rcases Int.lt_trichotomy x.1 y.1 with bp|bp|bp
  ·exact h3 x xs y ys bp (q4 h1 h2 h3 aI ba n xs (y::ys) (by simp only[List.length_cons];omega))
  ·exact ba x xs y ys bp (q4 h1 h2 h3 aI ba n xs ys (by omega))
  ·exact aI x xs y ys bp (q4 h1 h2 h3 aI ba n (x::xs) ys (by simp only[List.length_cons];omega))
theorem V4(xs ys:List (Int×Int)):(c4 xs ys).length≤xs.length+ys.length:=by
 refine q4 (P:=fun xs ys=>(c4 xs ys).length≤xs.length+ys.length) (fun ys=>by rw[oK];simp) (fun xs=>by rw[pJ];simp) (fun x xs y ys h ih=>?_) (fun x xs y ys h ih=>?_) (fun x xs y ys h ih=>?_) _ xs ys (Nat.le_refl _)
 ·rw[sg h];simp only[List.length_cons]at ih⊢;omega
 ·rw[sh h];simp only[List.length_cons]at ih⊢;omega
 ·rw[si h];simp only[List.length_cons]at ih⊢;omega
theorem Qb(xs ys:List (Int×Int)):b0 (c4 xs ys)=b0 xs+b0 ys:=by
 refine q4 (P:=fun xs ys=>b0 (c4 xs ys)=b0 xs+b0 ys) (fun ys=>by rw[oK];simp[b0]) (fun xs=>by rw[pJ];simp[b0]) (fun x xs y ys h ih=>?_) (fun x xs y ys h ih=>?_) (fun x xs y ys h ih=>?_) _ xs ys (Nat.le_refl _)
 ·rw[sg h];simp only[b0,List.map_cons,List.sum_cons]at ih⊢;omega
 ·rw[sh h];simp only[b0,List.map_cons,List.sum_cons]at ih⊢;omega
 ·rw[si h];simp only[b0,List.map_cons,List.sum_cons]at ih⊢;omega
theorem Fo(xs ys:List (Int×Int)):∀p∈c4 xs ys,(∃q∈xs,q.1=p.1)∨∃q∈ys,q.1=p.1:=by
 refine q4 (P:=fun xs ys=>∀p∈c4 xs ys,(∃q∈xs,q.1=p.1)∨∃q∈ys,q.1=p.1) (fun ys p aa=>by rw[oK]at aa;exact .inr ⟨p,aa,rfl⟩) (fun xs p aa=>by rw[pJ]at aa;exact .inl ⟨p,aa,rfl⟩) (fun x xs y ys h ih p aa=>?_) (fun x xs y ys h ih p aa=>?_) (fun x xs y ys h ih p aa=>?_) _ xs ys (Nat.le_refl _)
 ·rw[sg h]at aa
  rcases List.mem_cons.1 aa with rfl |aa
  ·exact .inl ⟨p,by simp,rfl⟩
  ·rcases ih p aa with⟨q,h1,h2⟩|h1
   ·exact .inl ⟨q,by simp[h1],h2⟩
   ·exact .inr h1
 ·rw[sh h]at aa
  rcases List.mem_cons.1 aa with rfl |aa
  ·exact .inr ⟨p,by simp,rfl⟩
  ·rcases ih p aa with h1|⟨q,h1,h2⟩
   ·exact .inl h1
   ·exact .inr ⟨q,by simp[h1],h2⟩
 ·rw[si h]at aa
  rcases List.mem_cons.1 aa with rfl |aa
  ·exact .inl ⟨x,by simp,rfl⟩
  ·rcases ih p aa with⟨q,h1,h2⟩|⟨q,h1,h2⟩
   ·exact .inl ⟨q,by simp[h1],h2⟩
   ·exact .inr ⟨q,by simp[h1],h2⟩
abbrev ku(xs:List (Int×Int)):Prop:=List.Pairwise (fun x y=>x.1<y.1) xs
theorem Iw(xs ys:List (Int×Int)):ku xs→ku ys→ku (c4 xs ys):=by
 refine q4 (P:=fun xs ys=>ku xs→ku ys→ku (c4 xs ys)) (fun ys _ h=>by rw[oK];exact h) (fun xs h _=>by rw[pJ];exact h) (fun x xs y ys h ih h1 h2=>?_) (fun x xs y ys h ih h1 h2=>?_) (fun x xs y ys h ih h1 h2=>?_) _ xs ys (Nat.le_refl _)
 ·have h3:=List.pairwise_cons.1 h1
  have aI:=List.pairwise_cons.1 h2
  rw[sg h]
  refine List.pairwise_cons.2 ⟨fun p aa=>?_,ih h3.2 h2⟩
  rcases Fo _ _ p aa with⟨q,aw,aH⟩|⟨q,aw,aH⟩
  ·have:=h3.1 q aw;omega
  ·rcases List.mem_cons.1 aw with rfl |aw
   ·omega
   ·have:=aI.1 q aw;omega
 ·have h3:=List.pairwise_cons.1 h1
  have aI:=List.pairwise_cons.1 h2
  rw[sh h]
  refine List.pairwise_cons.2 ⟨fun p aa=>?_,ih h1 aI.2⟩
  rcases Fo _ _ p aa with⟨q,aw,aH⟩|⟨q,aw,aH⟩
  ·rcases List.mem_cons.1 aw with rfl |aw
   ·omega
   ·have:=h3.1 q aw;omega
  ·have:=aI.1 q aw;omega
 ·have h3:=List.pairwise_cons.1 h1
  have aI:=List.pairwise_cons.1 h2
  rw[si h]
  refine List.pairwise_cons.2 ⟨fun p aa=>?_,ih h3.2 aI.2⟩
  simp only
  rcases Fo _ _ p aa with⟨q,aw,aH⟩|⟨q,aw,aH⟩
  ·have:=h3.1 q aw;omega
  ·have:=aI.1 q aw;omega
def dS(f:Int)(xs:List (Int×Int)):Int:=((xs.filter fun x=>decide (x.1=f)).map (·.2)).sum
theorem q7{f:Int}:dS f []=0:=rfl
theorem mT{f:Int}{x:Int×Int}{xs:List (Int×Int)}:dS f (x::xs)=(if x.1=f then x.2 else 0)+dS f xs:=by
 unfold dS
 by_cases h:x.1=f
 ·rw[List.filter_cons_of_pos (by simpa using h),if_pos h];simp
 ·rw[List.filter_cons_of_neg (by simpa using h),if_neg h];simp
theorem OE{f:Int}:∀{xs ys:List (Int×Int)},dS f (xs++ys)=dS f xs+dS f ys
 |[],ys=>by simp[q7]
 |x::xs,ys=>by rw[List.cons_append,mT,mT,OE];omega
theorem yk{f:Int}:∀{xs:List (Int×Int)},(∀x∈xs,x.1≠f)→dS f xs=0
 |[],_=>rfl
 |x::xs,h=>by rw[mT,if_neg (h x (by simp)),yk fun y aK=>h y (by simp[aK])];rfl
theorem yq:∀{xs:List (Int×Int)} {x:Int×Int},ku xs→x∈xs→dS x.1 xs=x.2
 |[],_,_,h=>by cases h
 |y::ys,x,ad,h=>by
  have h3:=List.pairwise_cons.1 ad
  rw[mT]
  rcases List.mem_cons.1 h with rfl |h
  ·rw[if_pos rfl,yk fun z bH=>by have:=h3.1 z bH;omega];omega
  ·have:=h3.1 x h
   rw[if_neg (by omega),yq h3.2 h];omega
theorem Bx(f:Int)(xs ys:List (Int×Int)):dS f (c4 xs ys)=dS f xs+dS f ys:=by
 refine q4 (P:=fun xs ys=>dS f (c4 xs ys)=dS f xs+dS f ys) (fun ys=>by rw[oK];simp[q7]) (fun xs=>by rw[pJ];simp[q7]) (fun x xs y ys h ih=>?_) (fun x xs y ys h ih=>?_) (fun x xs y ys h ih=>?_) _ xs ys (Nat.le_refl _)
 ·rw[sg h,mT,ih,mT (x:=x)];omega
 ·rw[sh h,mT,ih,mT (x:=y)];omega
 ·rw[si h,mT,ih,mT (x:=x),mT (x:=y)]
  simp only
  by_cases ak:x.1=f
  ·rw[if_pos ak,if_pos ak,if_pos (by omega)];omega
  ·rw[if_neg ak,if_neg ak,if_neg (by omega)];omega
theorem Ye (xs ys:List (Int×Int))(hx:ku xs)(aK:ku ys):((c4 xs ys).map (·.1)).map (fun f=>(f,dS f xs+dS f ys))=c4 xs ys:=by
 rw[List.map_map]
 have:∀p∈c4 xs ys,((fun f=>(f,dS f xs+dS f ys))∘fun x:Int×Int=>x.1) p=p:=fun p aa=>by
  simp only[Function.comp]
  rw[←Bx,yq (Iw xs ys hx aK) aa]
 rw[List.map_congr_left this,List.map_id']
theorem yE{xs:List (Int×Int)}{i:Nat}(h:i<xs.length):xs.drop i=b7 xs i::xs.drop (i+1):=by
 have:=iP h
 rw[List.getElem?_eq_getElem h]at this
 rw[List.drop_eq_getElem_cons h,Option.some.inj this]
def uG{α:Type}(a b c:α):Nat→α
 |0=>a
 |1=>b
 |_=>c
theorem yH{α:Type}{a b c:α}:uG a b c 0=a:=rfl
theorem yI{α:Type}{a b c:α}:uG a b c 1=b:=rfl
theorem E9{sl:List Slot}{id n a c w b:Nat}{eA cs:List V}(ad:sl[id]? =some (.own eA w))(a8:eA.length=n*w)(ao:cs.length=c*w)(ak:a+c≤n)(aM:n≤2^36)(aE:b≤2^11):
  c7 (ag sl) none w b ⟨.aa id (n*w) 0,a,n,true⟩ cs c=some (⟨.aa id (n*w) 0,a+c,n,true⟩,ag (sl.set id (.own (Ev.splice eA (a*w) cs) w))):=by
 have aT:=(List.getElem?_eq_some_iff.1 ad).1
 simp only[c7,iF]
 by_cases aO:c=0
 ·subst aO
  have:cs=[]:=List.eq_nil_of_length_eq_zero (by simpa using ao)
  subst this
  rw[if_pos rfl]
  have:Ev.splice eA (a*w) []=eA:=by simp[Ev.splice]
  rw[this]
  have:sl.set id (.own eA w)=sl:=by
   obtain⟨h1,h2⟩:=List.getElem?_eq_some_iff.1 ad
   rw[←h2];exact List.set_getElem_self h1
  rw[this]
  rfl
 ·rw[if_neg aO,aS ⟨by unfold ei;omega,aE⟩,fO,ad]
  simp only[Option.getD_some]
  rw[if_neg (by omega),if_pos ak,Nat.zero_add,eS ad a8 (by rw[ao,←Nat.add_mul];exact Nat.mul_le_mul_right _ ak)]
  rfl
theorem aac{sl:List Slot}{n:Nat}(aM:n≤2^30):xK ⟨.nil,0,0,false⟩ (n:Int) (ag sl)=if n=0 then some (⟨.nil,0,0,false⟩,ag sl)else some (⟨.aa sl.length (n*2) 0,0,n,true⟩,ag (sl++[.own (eI [.int .i64 0,.int .i64 0] n) 2])):=by
 unfold xK
 rw[decide_eq_false (show ¬(n:Int)<0 by omega)]
 try simp -implicitDefEqProofs only[aF,reduceIte,av,az,aB,ax,an.un,aj.un,ai.un,LT.un,ab.un,ab.plain,LT.plain,Int.toNat_zero,Nat.sub_self]
 rw[show IntKind.wrap .i64 (((0:Nat):Int)-((0:Nat):Int))=0 from rfl,show(n:Int)-0=(n:Int) by omega,uk (by omega)]
 by_cases aO:n=0
 ·subst aO
  rw[if_pos rfl,decide_eq_false (show ¬(0:Int)<((0:Nat):Int) by omega)]
  try simp -implicitDefEqProofs only[aF,reduceIte,av,az,aB,ax,an.un,aj.un,ai.un,LT.un,ab.un,ab.plain,LT.plain]
 ·rw[if_neg aO,decide_eq_true (show(0:Int)<(n:Int) by omega)]
  try simp -implicitDefEqProofs only[aF,reduceIte,av,az,aB,ax,an.un,aj.un,ai.un,LT.un,ab.un,ab.plain,LT.plain]
  rw[aS (by omega),aS ⟨by omega,by unfold ei;omega,by omega⟩,Int.toNat_natCast]
  try simp -implicitDefEqProofs only[aF,reduceIte,av,az,aB,ax,an.un,aj.un,ai.un,LT.un,ab.un,ab.plain,LT.plain]
  simp only[c7,iF,V.add,newAt]
  rw[if_neg aO,aS ⟨by unfold ei;omega,by omega⟩,if_pos ⟨trivial,trivial,rfl⟩,b9,bR]
  try simp -implicitDefEqProofs only[aF,reduceIte,av,az,aB,ax,an.un,aj.un,ai.un,LT.un,ab.un,ab.plain,LT.plain]
  rw[aS (by omega)]
  try simp -implicitDefEqProofs only[aF,reduceIte,av,az,aB,ax,an.un,aj.un,ai.un,LT.un,ab.un,ab.plain,LT.plain]
  rfl
theorem QP{f:Bool}{h:H}{xs:List (Int×Int)}:cellsOf h (.slice (ae f aD xs).a xs.length xs.length true) 2=some (xs.length,bx aD xs):=by
 have e:(ae f aD xs).a=.lp f (bx aD xs) 0:=rfl
 have hlen:(bx aD xs).length=xs.length*2:=hK (ls:=aD) xs
 unfold cellsOf
 by_cases aO:xs.length=0
 ·have:xs=[]:=List.eq_nil_of_length_eq_zero aO
  subst this
  rfl
 ·simp only
  rw[if_neg aO,e]
  simp only[H.fv,H.from,Option.bind_some,List.drop_zero]
  rw[if_pos ⟨by omega,by omega⟩,List.take_of_length_le (by omega)]
  rfl
theorem Yf{sl:List Slot}(xs ys:List (Int×Int))(aq:xs.length+ys.length≤2^30):
  ∃s ext o,km ⟨.lp true [.slice (ae false aD xs).a xs.length xs.length true,.slice (ae false aD ys).a ys.length ys.length true] 0,2,2,false⟩ (ag sl)=some (s,ag (sl++ext))∧Acc (sl++ext) aD (xs++ys) s o∧∀id,o=some id→sl.length≤id:=by
 have eh:(V.add (V.lp true [.slice (ae false aD xs).a xs.length xs.length true,.slice (ae false aD ys).a ys.length ys.length true] 0) (0*1))=V.lp true [.slice (ae false aD xs).a xs.length xs.length true,.slice (ae false aD ys).a ys.length ys.length true] 0:=rfl
 have dp:∀h:H,ah (.leaf .slice) h (V.add (V.lp true [.slice (ae false aD xs).a xs.length xs.length true,.slice (ae false aD ys).a ys.length ys.length true] 0) (0*1))=some ⟨(ae false aD xs).a,xs.length,xs.length,true⟩:=fun h=>rfl
 have bw:∀h:H,ah (.leaf .slice) h (V.add (V.lp true [.slice (ae false aD xs).a xs.length xs.length true,.slice (ae false aD ys).a ys.length ys.length true] 0) (1*1))=some ⟨(ae false aD ys).a,ys.length,ys.length,true⟩:=fun h=>rfl
 have w1:IntKind.wrap .i64 ((0:Int)+(xs.length:Int))=(xs.length:Int):=by rw[i64_in _ (by omega)];omega
 have w2:IntKind.wrap .i64 ((xs.length:Int)+(ys.length:Int))=((xs.length+ys.length:Nat):Int):=by rw[i64_in _ (by omega)];omega
 have iA:IntKind.wrap .i64 ((0:Int)+1)=1:=rfl
 have mQ:IntKind.wrap .i64 ((1:Int)+1)=2:=rfl
 have iO:Int.toNat 0=0:=rfl
 have bL:Int.toNat 1=1:=rfl
 unfold km
 have qL:iter bd (km.aZ ⟨.lp true [.slice (ae false aD xs).a xs.length xs.length true,.slice (ae false aD ys).a ys.length ys.length true] 0,2,2,false⟩) ((0,0),ag sl)=some (.aP (((xs.length+ys.length:Nat):Int)),ag sl):=by
  refine kr (s0:=((0,0),ag sl)) (fun i=>((uG (0:Int) (xs.length:Int) ((xs.length+ys.length:Nat):Int) i,(i:Int)),ag sl)) rfl 2 bd (fun i hi=>?_) ?_ (dj (by omega))
  ·obtain rfl |rfl:i=0∨i=1:=by omega
   ·unfold km.aZ
    try simp -implicitDefEqProofs only[aF,reduceIte,av,az,aB,ax,an.un,aj.un,ai.un,LT.un,ab.un,ab.plain,LT.plain]
    rw[decide_eq_true (show(((0:Nat):Int)<((2:Nat):Int)) by omega),cond_true,aS (by omega)]
    rw[show Int.toNat (((0:Nat):Int))=0 from rfl,dp]
    try simp -implicitDefEqProofs only[aF,reduceIte,av,az,aB,ax,an.un,aj.un,ai.un,LT.un,ab.un,ab.plain,LT.plain]
    rw[yH,w1,decide_eq_false (show ¬(xs.length:Int)<0 by omega)]
    try simp -implicitDefEqProofs only[aF,reduceIte,av,az,aB,ax,an.un,aj.un,ai.un,LT.un,ab.un,ab.plain,LT.plain]
    rfl
   ·unfold km.aZ
    try simp -implicitDefEqProofs only[aF,reduceIte,av,az,aB,ax,an.un,aj.un,ai.un,LT.un,ab.un,ab.plain,LT.plain]
    rw[decide_eq_true (show(((1:Nat):Int)<((2:Nat):Int)) by omega),cond_true,aS (by omega)]
    rw[show Int.toNat (((1:Nat):Int))=1 from rfl,bw]
    try simp -implicitDefEqProofs only[aF,reduceIte,av,az,aB,ax,an.un,aj.un,ai.un,LT.un,ab.un,ab.plain,LT.plain]
    rw[yI,w2,decide_eq_false (show ¬((xs.length+ys.length:Nat):Int)<0 by omega)]
    try simp -implicitDefEqProofs only[aF,reduceIte,av,az,aB,ax,an.un,aj.un,ai.un,LT.un,ab.un,ab.plain,LT.plain]
    rfl
  ·unfold km.aZ
   try simp -implicitDefEqProofs only[aF,reduceIte,av,az,aB,ax,an.un,aj.un,ai.un,LT.un,ab.un,ab.plain,LT.plain]
   rw[decide_eq_false (show ¬(((2:Nat):Int)<((2:Nat):Int)) by omega),cond_false]
   rfl
 rw[qL]
 try simp -implicitDefEqProofs only[aF,reduceIte,av,az,aB,ax,an.un,aj.un,ai.un,LT.un,ab.un,ab.plain,LT.plain]
 rw[aac aq]
 have hx:∀h,cellsOf h (.slice (ae false aD xs).a xs.length xs.length true) 2=some (xs.length,bx aD xs):=fun h=>QP
 have aK:∀h,cellsOf h (.slice (ae false aD ys).a ys.length ys.length true) 2=some (ys.length,bx aD ys):=fun h=>QP
 have gY:(bx aD xs).length=xs.length*2:=hK (ls:=aD) xs
 have h5:(bx aD ys).length=ys.length*2:=hK (ls:=aD) ys
 have key:∀(t0 t1 t2:au×List Slot),c7 (ag t0.2) none 2 16 t0.1 (bx aD xs) xs.length=some (t1.1,ag t1.2)→c7 (ag t1.2) none 2 16 t1.1 (bx aD ys) ys.length=some (t2.1,ag t2.2)→
   iter bd (km.cl ⟨.lp true [.slice (ae false aD xs).a xs.length xs.length true,.slice (ae false aD ys).a ys.length ys.length true] 0,2,2,false⟩) ((t0.1,0),ag t0.2)=some (.aP t2.1,ag t2.2):=fun t0 t1 t2 h1 h2=>by
  refine kr (s0:=((t0.1,0),ag t0.2)) (fun i=>((uG t0.1 t1.1 t2.1 i,(i:Int)),ag (uG t0.2 t1.2 t2.2 i))) rfl 2 bd (fun i hi=>?_) ?_ (dj (by omega))
  ·obtain rfl |rfl:i=0∨i=1:=by omega
   ·unfold km.cl
    try simp -implicitDefEqProofs only[aF,reduceIte,av,az,aB,ax,an.un,aj.un,ai.un,LT.un,ab.un,ab.plain,LT.plain]
    rw[decide_eq_true (show(((0:Nat):Int)<((2:Nat):Int)) by omega),cond_true,aS (by omega)]
    rw[show Int.toNat (((0:Nat):Int))=0 from rfl,dp]
    try simp -implicitDefEqProofs only[aF,reduceIte,av,az,aB,ax,an.un,aj.un,ai.un,LT.un,ab.un,ab.plain,LT.plain]
    rw[hx]
    try simp -implicitDefEqProofs only[aF,reduceIte,av,az,aB,ax,an.un,aj.un,ai.un,LT.un,ab.un,ab.plain,LT.plain]
    rw[yH,yH,h1]
    try simp -implicitDefEqProofs only[aF,reduceIte,av,az,aB,ax,an.un,aj.un,ai.un,LT.un,ab.un,ab.plain,LT.plain]
    rfl
   ·unfold km.cl
    try simp -implicitDefEqProofs only[aF,reduceIte,av,az,aB,ax,an.un,aj.un,ai.un,LT.un,ab.un,ab.plain,LT.plain]
    rw[decide_eq_true (show(((1:Nat):Int)<((2:Nat):Int)) by omega),cond_true,aS (by omega)]
    rw[show Int.toNat (((1:Nat):Int))=1 from rfl,bw]
    try simp -implicitDefEqProofs only[aF,reduceIte,av,az,aB,ax,an.un,aj.un,ai.un,LT.un,ab.un,ab.plain,LT.plain]
    rw[aK]
    try simp -implicitDefEqProofs only[aF,reduceIte,av,az,aB,ax,an.un,aj.un,ai.un,LT.un,ab.un,ab.plain,LT.plain]
    rw[yI,yI,h2]
    try simp -implicitDefEqProofs only[aF,reduceIte,av,az,aB,ax,an.un,aj.un,ai.un,LT.un,ab.un,ab.plain,LT.plain]
    rfl
  ·unfold km.cl
   try simp -implicitDefEqProofs only[aF,reduceIte,av,az,aB,ax,an.un,aj.un,ai.un,LT.un,ab.un,ab.plain,LT.plain]
   rw[decide_eq_false (show ¬(((2:Nat):Int)<((2:Nat):Int)) by omega),cond_false]
   rfl
 by_cases aO:xs.length+ys.length=0
 ·have Nh:xs=[]:=List.eq_nil_of_length_eq_zero (by omega)
  have wY:ys=[]:=List.eq_nil_of_length_eq_zero (by omega)
  subst Nh wY
  rw[if_pos (show([]:List (Int×Int)).length+([]:List (Int×Int)).length=0 from rfl)]
  try simp -implicitDefEqProofs only[aF,reduceIte,av,az,aB,ax,an.un,aj.un,ai.un,LT.un,ab.un,ab.plain,LT.plain]
  rw[key (⟨.nil,0,0,false⟩,sl) (⟨.nil,0,0,false⟩,sl) (⟨.nil,0,0,false⟩,sl) rfl rfl]
  try simp -implicitDefEqProofs only[aF,reduceIte,av,az,aB,ax,an.un,aj.un,ai.un,LT.un,ab.un,ab.plain,LT.plain]
  exact ⟨⟨.nil,0,0,false⟩,[],none,by rw[List.append_nil],⟨rfl,.inl rfl⟩,fun _ h=>by cases h⟩
 ·rw[if_neg aO]
  try simp -implicitDefEqProofs only[aF,reduceIte,av,az,aB,ax,an.un,aj.un,ai.un,LT.un,ab.un,ab.plain,LT.plain]
  have s0:(sl++[Slot.own (eI [.int .i64 0,.int .i64 0] (xs.length+ys.length)) 2])[sl.length]? =some (.own (eI [.int .i64 0,.int .i64 0] (xs.length+ys.length)) 2):=by simp
  have a1:=E9 (b:=16) (a:=0) s0 (vi _ _) gY (by omega) (by omega) (by omega)
  have s1:((sl++[Slot.own (eI [.int .i64 0,.int .i64 0] (xs.length+ys.length)) 2]).set sl.length (.own (Ev.splice (eI [.int .i64 0,.int .i64 0] (xs.length+ys.length)) (0*2) (bx aD xs)) 2))[sl.length]? =some (.own (Ev.splice (eI [.int .i64 0,.int .i64 0] (xs.length+ys.length)) (0*2) (bx aD xs)) 2):=by rw[List.getElem?_set_self (by simp)]
  have ga:(eI [V.int .i64 0,V.int .i64 0] (xs.length+ys.length)).length=(xs.length+ys.length)*2:=vi _ _
  have a2:=E9 (b:=16) (a:=0+xs.length) s1 (n:=xs.length+ys.length) (by simp only[Ev.splice,List.length_append,List.length_take,List.length_drop,ga,gY];omega) h5 (by omega) (by omega) (by omega)
  rw[key (_,_) (_,_) (_,_) a1 a2]
  try simp -implicitDefEqProofs only[aF,reduceIte,av,az,aB,ax,an.un,aj.un,ai.un,LT.un,ab.un,ab.plain,LT.plain]
  have KP:Ev.splice (Ev.splice (eI [V.int .i64 0,V.int .i64 0] (xs.length+ys.length)) (0*2) (bx aD xs)) ((0+xs.length)*2) (bx aD ys)=bx aD (xs++ys):=by
   simp only[Ev.splice,Nat.zero_mul,List.take_zero,List.nil_append,Nat.zero_add]
   rw[←gY,List.take_left' rfl,List.drop_eq_nil_of_le (by rw[List.length_append,List.length_drop,ga,gY,h5];omega),List.append_nil]
   unfold bx
   rw[List.flatMap_append]
  rw[KP,List.set_set,List.set_append_right _ _ (Nat.le_refl _),Nat.sub_self]
  simp only[List.set_cons_zero]
  refine⟨_,[Slot.own (bx aD (xs++ys)) 2],some sl.length,rfl,⟨by simp only[List.length_append];omega, ?_, ?_⟩,fun id h=>by cases h;exact Nat.le_refl _⟩
  ·simp only[fh,List.length_append,Nat.zero_add]
   rfl
  ·simp
theorem Ip(k v:Int):∀es:List (Int×Int),getM k (iR k v es)=some v
 |[]=>by simp[iR,getM]
 |(a,u)::es=>by
  simp only[iR]
  by_cases h:k=a
  ·rw[if_pos h];simp[getM,h]
  ·rw[if_neg h];simp only[getM];rw[if_neg h];exact Ip k v es
theorem IG{k j:Int}(v:Int)(bS:k≠j):∀es:List (Int×Int),getM k (iR j v es)=getM k es
 |[]=>by simp[iR,getM,bS]
 |(a,u)::es=>by
  simp only[iR]
  by_cases h:j=a
  ·rw[if_pos h];simp only[getM];rw[if_neg (by omega),if_neg (by omega)]
  ·rw[if_neg h];simp only[getM];rw[IG v bS es]
def jf(xs:List (Int×Int)):List (Int×Int):=xs.foldl (fun es x=>iR x.1 ((getM x.1 es).getD 0+x.2) es) []
theorem Jg(k:Int)(xs:List (Int×Int)):(getM k (jf xs)).getD 0=dS k xs:=by
 have:∀(xs:List (Int×Int)) (es:List (Int×Int)),(getM k (xs.foldl (fun es x=>iR x.1 ((getM x.1 es).getD 0+x.2) es) es)).getD 0=(getM k es).getD 0+dS k xs:=fun xs=>by
  induction xs with
  |nil=>intro es;simp[q7]
  |cons x xs ih=>
   intro es
   rw[List.foldl_cons,ih,mT]
   by_cases h:x.1=k
   ·rw[if_pos h,h,Ip];simp only[Option.getD_some];omega
   ·rw[if_neg h,IG _ (fun e=>h e.symm)];omega
 have:=this xs []
 simpa[jf,getM]using this
theorem E_(k:Int):∀(xs:List (Int×Int)),(∀x∈xs,0≤x.2∧x.2≤1000000000000000)→0≤dS k xs∧dS k xs≤xs.length*1000000000000000
 |[],_=>by simp[q7]
 |x::xs,h=>by
  have h1:=h x (by simp)
  have h2:=E_ k xs fun y aK=>h y (by simp[aK])
  rw[mT]
  simp only[List.length_cons]
  split<;>omega
theorem Xp{xs:List (Int×Int)}{i:Nat}(h:i<xs.length):jf (xs.take (i+1))=iR (b7 xs i).1 ((getM (b7 xs i).1 (jf (xs.take i))).getD 0+(b7 xs i).2) (jf (xs.take i)):=by
 have:=iP h
 obtain⟨hi,he⟩:=List.getElem?_eq_some_iff.1 this
 unfold jf
 rw[←List.take_append_getElem hi,he,List.foldl_append]
 rfl
theorem RZ{sl:List Slot}{id j:Nat}(h:sl[id]? =some (.own [.map (some j)] 1)):ah (.leaf .map) (ag sl) (.aa id 1 0)=some (some j):=by
 rw[e5 (g:=1) h rfl];rfl
theorem FX{sl:List Slot}{id:Nat}{es:List (Int×Int)}(h:sl[id]? =some (.dk .i64 .i64 es)):H.dk (ag sl) id .i64 .i64=some es:=by
 simp[H.dk,fO,h]
abbrev hC(s:au):Slot:=.own [.slice s.a s.len s.cap s.tail] 1
theorem m6{sl:List Slot}{id:Nat}{s:au}(h:sl[id]? =some (hC s)):ah (.leaf .slice) (ag sl) (.aa id 1 0)=some s:=by
 rw[e5 (g:=1) h rfl];rfl
theorem uo{sl:List Slot}{id:Nat}{u v:V}(h:sl[id]? =some (.own [u] 1)):H.aY (ag sl) (.aa id 1 0) [v]=some (ag (sl.set id (.own [v] 1))):=by
 rw[eS (g:=1) h rfl (by simp)];rfl
theorem vM{l:List Slot}{s:Slot}:H.hP (ag l) s=ag (l++[s]):=by
 refine H.ext' (by simp[H.hP,ag]) fun i=>?_
 simp only[H.hP,ag]
 by_cases hi:i=l.length
 ·subst hi
  simp
 ·rw[c8 hi,cond_false]
  rcases Nat.lt_or_ge i l.length with h|h
  ·rw[List.getElem?_append_left h]
  ·rw[List.getElem?_eq_none h,List.getElem?_eq_none (by simp;omega)]
theorem Acc.afg{sl:List Slot}{cC:List (Int×Int)}{s:au}{o:Option Nat}{i:Nat}(h:Acc sl aD cC s o)(hi:i<cC.length):ah (.agg aD) (ag sl) (V.add s.a (i*2))=some (b7 cC i):=by
 cases o with
 |none=>obtain⟨rfl,_⟩:=h;simp at hi
 |some id=>
  obtain⟨h1,rfl,h3⟩:=h
  have:=Jt (i:=i) (ms:=aD) (w:=2) h3 rfl rfl rfl (by omega)
  simp only[fh,V.add,Nat.zero_add]
  rw[this]
  have e:=iP hi
  show(cC[i]?).bind _=_
  rw[e];rfl
theorem Wy{sl:List Slot}{cC:List (Int×Int)}{s:au}{o:Option Nat}{p q i:Nat}{h3:H}(dG:Acc sl aD cC s o)(hi:i<cC.length)(bH:∀x∈cC,0≤x.2∧x.2≤1000000000000000)(aq:cC.length≤4096)(aV:h3.next=q)(hz:sl[q]? =some (.own [.map (some p)] 1))(aa:sl[p]? =some (.dk .i64 .i64 (jf (cC.take i)))):
  kX.aZ h3 s ((i:Int),ag sl)=some (.more (((i+1:Nat):Int),ag ((sl++[a_ (b7 cC i)]).set p (.dk .i64 .i64 (jf (cC.take (i+1))))))):=by
 have iw:0≤(i:Int)∧(i:Int)<(s.len:Int):=by rw[dG.len];omega
 have dH:(sl++[a_ (b7 cC i)])[sl.length]? =some (a_ (b7 cC i)):=by simp
 have bw:=lR dH
 have jG:=(List.getElem?_eq_some_iff.1 aa).1
 have DI:(sl++[a_ (b7 cC i)])[q]? =some (.own [.map (some p)] 1):=by rw[List.getElem?_append_left (List.getElem?_eq_some_iff.1 hz).1,hz]
 have DL:(sl++[a_ (b7 cC i)])[p]? =some (.dk .i64 .i64 (jf (cC.take i))):=by rw[List.getElem?_append_left jG,aa]
 have aE:=E_ (b7 cC i).1 (cC.take i) fun x hx=>bH x (List.mem_of_mem_take hx)
 rw[List.length_take,Nat.min_eq_left (by omega)]at aE
 have hx:=bH _ (JN hi)
 unfold kX.aZ
 try simp -implicitDefEqProofs only[Int.toNat_natCast,aS iw]
 rw[decide_eq_true iw.2,cond_true,Acc.afg dG hi]
 try simp -implicitDefEqProofs only[Option.bind_some,b9,bR]
 rw[nM]
 try simp -implicitDefEqProofs only[Option.bind_some,aV]
 rw[RZ DI,bw.1]
 try simp -implicitDefEqProofs only[Option.bind_some]
 rw[FX DL]
 try simp -implicitDefEqProofs only[Option.bind_some]
 rw[bw.2]
 try simp -implicitDefEqProofs only[Option.bind_some]
 rw[k5 (by simp;omega),Jg,dO (by omega),i64_in _ (by omega),Xp hi,Jg]
theorem Yg{sl:List Slot}(xs ys:List (Int×Int))(hx:∀x∈xs,0≤x.2∧x.2≤1000000000000000)(aK:∀x∈ys,0≤x.2∧x.2≤1000000000000000)(aq:xs.length+ys.length≤4096):
  ∃aC,kX (ae false aD xs) (ae false aD ys) (ag sl)=some (.func 203 [.aa sl.length 1 0,.aa (sl.length+1) 1 0,.aa (sl.length+3) 1 0],ag aC)∧sl.length+4≤aC.length∧
   aC[sl.length]? =some (hC (ae false aD xs))∧aC[sl.length+1]? =some (hC (ae false aD ys))∧aC[sl.length+2]? =some (.dk .i64 .i64 (jf (xs++ys)))∧aC[sl.length+3]? =some (.own [.map (some (sl.length+2))] 1)∧∀j,j<sl.length→aC[j]? =sl[j]?:=by
 have bH:∀x∈xs++ys,0≤x.2∧x.2≤1000000000000000:=fun x h=>by
  rcases List.mem_append.1 h with h|h
  ·exact hx x h
  ·exact aK x h
 let mK:List Slot:=sl++[hC (ae false aD xs),hC (ae false aD ys),.dk .i64 .i64 [],.own [.map (some (sl.length+2))] 1]
 have akJ:mK.length=sl.length+4:=by simp[mK]
 have get:∀k,mK[sl.length+k]? =[hC (ae false aD xs),hC (ae false aD ys),.dk .i64 .i64 [],.own [.map (some (sl.length+2))] 1][k]?:=fun k=>by
  simp only[mK]
  rw[List.getElem?_append_right (by omega)]
  congr 1
  omega
 obtain⟨s,ext,o,aw,aH,aW⟩:=Yf (sl:=mK) xs ys (by omega)
 unfold kX
 try simp -implicitDefEqProofs only[aF,reduceIte,av,az,aB,ax,an.un,aj.un,ai.un,LT.un,ab.un,ab.plain,LT.plain,b9,vM,bR,List.append_assoc,List.cons_append,List.nil_append]
 have hw:H.aY (ag (sl++[Slot.own [.slice (ae false aD xs).a xs.length xs.length true] 1,Slot.own [.slice (ae false aD ys).a ys.length ys.length true] 1,.dk .i64 .i64 [],.own [.map none] 1])) (.aa (sl.length+3) 1 0) [.map (some (sl.length+2))]=some (ag mK):=by
  rw[uo (u:=.map none) (by rw[List.getElem?_append_right (by omega),show sl.length+3-sl.length=3 by omega];rfl),List.set_append_right _ _ (by omega),show sl.length+3-sl.length=3 by omega]
  rfl
 simp only[List.length_append,List.length_cons,List.length_nil,Nat.zero_add,Nat.reduceAdd]
 rw[hw]
 try simp -implicitDefEqProofs only[aF,reduceIte,av,az,aB,ax,an.un,aj.un,ai.un,LT.un,ab.un,ab.plain,LT.plain]
 rw[m6 (s:=ae false aD xs) (by have:=get 0;simpa using this)]
 try simp -implicitDefEqProofs only[aF,reduceIte,av,az,aB,ax,an.un,aj.un,ai.un,LT.un,ab.un,ab.plain,LT.plain]
 rw[m6 (s:=ae false aD ys) (by have:=get 1;simpa using this)]
 try simp -implicitDefEqProofs only[aF,reduceIte,av,az,aB,ax,an.un,aj.un,ai.un,LT.un,ab.un,ab.plain,LT.plain]
 rw[aw]
 try simp -implicitDefEqProofs only[aF,reduceIte,av,az,aB,ax,an.un,aj.un,ai.un,LT.un,ab.un,ab.plain,LT.plain]
 obtain⟨x,aG,aC,rfl,e2,bP,eC⟩:=BG (f:=kX.aZ (ag (sl++[Slot.own [.slice (ae false aD xs).a xs.length xs.length true] 1,Slot.own [.slice (ae false aD ys).a ys.length ys.length true] 1,.dk .i64 .i64 []])) s)
  (fun i st=>∃aC,st=((i:Int),ag aC)∧mK.length≤aC.length∧aC[sl.length+2]? =some (.dk .i64 .i64 (jf ((xs++ys).take i)))∧∀j,j≠sl.length+2→j<(mK++ext).length→aC[j]? =(mK++ext)[j]?)
  (fun x=>∃aC,x=(.aP (),ag aC)∧mK.length≤aC.length∧aC[sl.length+2]? =some (.dk .i64 .i64 (jf (xs++ys)))∧∀j,j≠sl.length+2→j<(mK++ext).length→aC[j]? =(mK++ext)[j]?) (xs++ys).length (fun i st hi a6=>by
   obtain⟨aC,rfl,f1,f2,f3⟩:=a6
   have dG:Acc aC aD (xs++ys) s o:=aH.frame fun id aT=>by
    have h1:=aW id aT
    subst aT
    exact f3 id (by omega) aH.lt
   refine⟨_,Wy (q:=sl.length+3) (p:=sl.length+2) dG hi bH (by rw[List.length_append];omega) (by simp[bR]) ?_ f2,_,rfl,by simp;omega, ?_,fun j aL dJ=>?_⟩
   ·rw[f3 _ (by omega) (by rw[List.length_append];omega),List.getElem?_append_left (by omega),get 3];rfl
   ·rw[List.getElem?_set_self (by simp;omega)]
   ·have h9:=f3 j aL dJ
    rw[List.getElem?_set_ne (Ne.symm aL)]
    have afh:j<aC.length:=by
     rcases Nat.lt_or_ge j aC.length with h|h
     ·exact h
     ·rw[List.getElem?_eq_none h,List.getElem?_eq_getElem dJ]at h9
      cases h9
    rw[List.getElem?_append_left afh,h9]) (fun st a6=>by
   obtain⟨aC,rfl,f1,f2,f3⟩:=a6
   rw[List.take_length]at f2
   refine⟨_, ?_,aC,rfl,f1,f2,f3⟩
   unfold kX.aZ
   try simp -implicitDefEqProofs only[aH.len]
   rw[decide_eq_false (by omega),cond_false]) bd 0 (0,ag (mK++ext)) (by omega) ⟨_,rfl,by simp,by rw[List.getElem?_append_left (by omega),get 2];rfl,fun _ _ _=>rfl⟩ (by have:=dj (n:=(xs++ys).length) (by rw[List.length_append];omega);omega)
 rw[aG]
 try simp -implicitDefEqProofs only[aF,reduceIte,av,az,aB,ax,an.un,aj.un,ai.un,LT.un,ab.un,ab.plain,LT.plain]
 have Ni:∀k,k<4→k≠2→aC[sl.length+k]? =[hC (ae false aD xs),hC (ae false aD ys),.dk .i64 .i64 [],.own [.map (some (sl.length+2))] 1][k]?:=fun k aN qo=>by
  rw[eC _ (by omega) (by rw[List.length_append];omega),List.getElem?_append_left (by omega),get k]
 refine⟨aC,rfl,by omega,Ni 0 (by omega) (by omega),Ni 1 (by omega) (by omega),bP,Ni 3 (by omega) (by omega),fun j aL=>?_⟩
 rw[eC j (by omega) (by rw[List.length_append];omega),List.append_assoc,List.getElem?_append_left aL]
theorem Zl{sl:List Slot}{acc:List (Int×Int)}{s:au}{o:Option Nat}{N:Nat}{h h3:H}{x:Int×Int}(aM:h.next=0)(kj:h3.next=N)(aO:sl[0]? =some (hC s))(aq:sl[N]? =some (.loop .ready))(dG:Acc sl aD acc s o)(a8:∀id,o=some id→N<id)(gD:0<N)(oq:acc.length≤8192):
  ∃aC bc id,kZ.yY h h3 x (ag sl)=some (ag aC)∧aC[0]? =some (hC bc)∧aC[N]? =some (.loop .ready)∧Acc aC aD (acc++[x]) bc (some id)∧N<id∧sl.length≤aC.length∧∀j,0<j→j<N→aC[j]? =sl[j]?:=by
 have Hu:=(List.getElem?_eq_some_iff.1 aq).1
 have aE:H.begin (ag sl) N=some (ag (sl.set N (.loop .busy))):=by
  unfold H.begin
  rw[fO,aq]
  simp only[Option.getD_some]
  rw[k5 Hu]
 have Nb:(sl.set N (.loop .busy))[0]? =some (hC s):=by rw[List.getElem?_set_ne (by omega),aO]
 have KQ:Acc (sl.set N (.loop .busy)) aD acc s o:=dG.frame fun id aT=>by
  have:=a8 id aT
  rw[List.getElem?_set_ne (by omega)]
 obtain⟨bc,nm,id,aw,aH,aW,bq,bU⟩:=KQ.append (b:=16) (w:=2) (x:=x) (vs:=[.int .i64 x.1,.int .i64 x.2]) rfl (by omega) (by omega) (by omega) rfl
 rw[List.length_set]at aW bq
 have aT:N<id:=by
  rcases aW with aW|⟨_,aW⟩
  ·exact a8 id aW
  ·omega
 have no:∀j,j≤N→o≠some j:=fun j aL e=>by have:=a8 j e;omega
 have afi:nm[0]? =some (hC s):=by rw[bU 0 (no 0 (by omega)) (by rw[List.length_set];omega),Nb]
 have SZ:nm[N]? =some (.loop .busy):=by rw[bU N (no N (by omega)) (by rw[List.length_set];omega),List.getElem?_set_self Hu]
 have nb:N<nm.length:=(List.getElem?_eq_some_iff.1 SZ).1
 refine⟨(nm.set 0 (hC bc)).set N (.loop .ready),bc,id, ?_, ?_, ?_, ?_,aT,by simp;omega,fun j Hv Ek=>?_⟩
 ·unfold kZ.yY
  try simp -implicitDefEqProofs only[kj,aM,aE,Option.bind_some]
  rw[m6 Nb]
  try simp -implicitDefEqProofs only[Option.bind_some]
  rw[aw]
  try simp -implicitDefEqProofs only[Option.bind_some]
  rw[uo afi]
  try simp -implicitDefEqProofs only[Option.bind_some]
  unfold H.GB
  rw[fO,List.getElem?_set_ne (by omega),SZ]
  simp only[Option.getD_some]
  rw[k5 (by rw[List.length_set];omega)]
 ·rw[List.getElem?_set_ne (by omega),List.getElem?_set_self (by omega)]
 ·rw[List.getElem?_set_self (by rw[List.length_set];omega)]
 ·refine aH.frame fun da afj=>?_
  cases afj
  rw[List.getElem?_set_ne (by omega),List.getElem?_set_ne (by omega)]
 ·rw[List.getElem?_set_ne (by omega),List.getElem?_set_ne (by omega),bU j (no j (by omega)) (by rw[List.length_set];omega),List.getElem?_set_ne (by omega)]
theorem Zm{xs ys:List Int}(h:xs.Perm ys):xs.sum=ys.sum:=by
 induction h with
 |nil=>rfl
 |cons x _ ih=>simp only[List.sum_cons,ih]
 |swap x y _=>simp only[List.sum_cons];omega
 |trans _ _ h1 h2=>rw[h1,h2]
theorem Rr:∀(xs:List Int) (i:Nat) (y:Int),i<xs.length→(xs.set i y).sum=xs.sum-g xs i+y
 |[],_,_,h=>by simp at h
 |x::xs,0,y,_=>by simp[g];omega
 |x::xs,i+1,y,h=>by
  have:=Rr xs i y (by simpa using h)
  simp only[List.set_cons_succ,List.sum_cons,this]
  simp[g]
  omega
theorem Ix:∀(xs:List Int) (p:Nat) (M:Int),0≤M→(∀x∈xs,x≤M)→(∀q,p≤q→q<xs.length→g xs q≤0)→xs.sum≤p*M
 |[],p,M,h,_,_=>by simpa using Int.mul_nonneg (by omega) h
 |x::xs,0,M,h,h1,h2=>by
  have aw:=h2 0 (by omega) (by simp)
  have aH:=Ix xs 0 M h (fun y aK=>h1 y (by simp[aK])) (fun q _ aV=>by have:=h2 (q+1) (by omega) (by simpa using aV);simpa[g]using this)
  simp only[g,List.getElem?_cons_zero,Option.getD_some]at aw
  simp only[List.sum_cons]
  omega
 |x::xs,p+1,M,h,h1,h2=>by
  have aw:=h1 x (by simp)
  have aH:=Ix xs p M h (fun y aK=>h1 y (by simp[aK])) (fun q aa aV=>by have:=h2 (q+1) (by omega) (by simpa using aV);simpa[g]using this)
  simp only[List.sum_cons]
  rw[Int.natCast_add,Int.natCast_one,Int.add_mul,Int.one_mul]
  omega
theorem QQ{qs rs:List Int}(aq:rs.length=qs.length):∀(k:Nat),k≤qs.length→(bump qs (ord rs) k).sum=qs.sum+k
 |0,_=>by rw[P9];simp
 |k+1,h=>by
  have af:=Je (rs:=rs) (p:=k) (by omega)
  obtain⟨x,hx⟩:∃x:Nat,g (ord rs) k=(x:Int):=⟨(g (ord rs) k).toNat,by omega⟩
  rw[←P_ Jd (by rw[pE];omega) hx (by omega),Rr _ _ _ (by rw[pC];omega),QQ aq k (by omega)]
  omega
theorem Ih{a S:Int}{ws:List Int}:(g4 a S ws).length=ws.length:=by unfold g4;rw[pC,jA]
theorem V5{a:Int}{ws:List Int}(bh:0<ws.sum)(aq:0<ws.length):(g4 a ws.sum ws).sum=a:=by
 have h:=Bw (a:=a) bh aq
 unfold g4
 rw[QQ (by rw[k0,jA]) _ (by rw[jA];omega)]
 omega
theorem Kd{a S:Int}{ws:List Int}{k:Nat}(h:k<ws.length):g (eM a S ws) k=a*g ws k%S:=zB h
theorem R0{a S:Int}{ws:List Int}{k:Nat}(h:k<ws.length):g (ez a S ws) k=a*g ws k/S:=zB h
theorem Zn(rs:List Int):(iota rs.length).map (fun x=>g rs x.toNat)=rs:=wi (by simp[pB]) fun k aN=>by
 rw[List.length_map,pB]at aN
 rw[zB (by rw[pB];exact aN),B9 aN,Int.toNat_natCast]
theorem Rs{a:Int}{ws:List Int}{p:Nat}(bh:0<ws.sum)(aq:0<ws.length)(aa:(p:Int)<a-(ez a ws.sum ws).sum):0<g (eM a ws.sum ws) (g (ord (eM a ws.sum ws)) p).toNat:=by
 have aE:=Bw (a:=a) bh aq
 have ad:=Ro a ws.sum ws
 have ga:=k0 (a:=a) (S:=ws.sum) (ws:=ws)
 generalize xn:eM a ws.sum ws=rs at*
 generalize (ez a ws.sum ws).sum=q at*
 have ahW:∀k,k<rs.length→0≤g rs k∧g rs k≤ws.sum-1:=fun k aN=>by
  rw[←xn,Kd (by omega)]
  have aw:=Int.emod_nonneg (a*g ws k) (b:=ws.sum) (by omega)
  have aH:=Int.emod_lt_of_pos (a*g ws k) bh
  omega
 have Mr:=Je (rs:=rs) (p:=p) (by omega)
 refine Int.not_le.1 fun hle=>?_
 have o1:rs.sum=((ord rs).map fun x=>g rs x.toNat).sum:=by
  rw[Zm (yD.map _),Zn]
 have S0:=Ix ((ord rs).map fun x=>g rs x.toNat) p (ws.sum-1) (by omega) (fun x hx=>by
   obtain⟨y,aK,rfl⟩:=List.mem_map.1 hx
   have:=QN.1 (yD.mem_iff.1 aK)
   exact (ahW _ (by omega)).2) (fun j aL dJ=>by
   rw[List.length_map,pE]at dJ
   rw[zB (by rw[pE];exact dJ)]
   by_cases e:j=p
   ·subst e;exact hle
   ·have:=aaQ (rs:=rs) (show p<j by omega) dJ
    unfold iU at this
    omega)
 rw[←o1]at S0
 have aG:rs.sum=ws.sum*(a-q):=by rw[Int.mul_sub,Int.mul_comm ws.sum a];omega
 have aw:ws.sum*(p+1)≤ws.sum*(a-q):=Int.mul_le_mul_of_nonneg_left (by omega) (by omega)
 rw[Int.mul_add,Int.mul_one,Int.mul_comm]at aw
 rw[Int.mul_sub,Int.mul_one]at S0
 omega
theorem Pq{a:Int}{ws:List Int}{i:Nat}(bD:0≤a)(bh:0<ws.sum)(ahX:a≤ws.sum)(hw:∀w∈ws,0≤w)(hi:i<ws.length):0≤g (g4 a ws.sum ws) i∧g (g4 a ws.sum ws) i≤g ws i:=by
 have aq:0<ws.length:=by omega
 have aE:=Bw (a:=a) bh aq
 have Ug:=hw _ (Gm hi)
 have aG:=Int.mul_ediv_add_emod (a*g ws i) ws.sum
 have e2:=Int.emod_nonneg (a*g ws i) (b:=ws.sum) (by omega)
 have bP:a*g ws i≤ws.sum*g ws i:=Int.mul_le_mul_of_nonneg_right ahX Ug
 have g0:0≤a*g ws i/ws.sum:=Int.ediv_nonneg (Int.mul_nonneg bD Ug) (by omega)
 have bn:(i:Int)∈(ord (eM a ws.sum ws)).take (a-(ez a ws.sum ws).sum).toNat→0<a*g ws i%ws.sum:=fun h=>by
  obtain⟨p,aa,e⟩:=List.getElem_of_mem h
  rw[List.getElem_take]at e
  rw[List.length_take,pE,k0]at aa
  have:=Rs (a:=a) (p:=p) bh aq (by omega)
  rw[kC (xs:=ord _) (by rw[pE,k0];omega),e,Int.toNat_natCast,Kd hi]at this
  exact this
 unfold g4
 rw[uw (by rw[jA];exact hi),R0 hi]
 generalize a*g ws i/ws.sum=q at*
 generalize a*g ws i%ws.sum=r at*
 by_cases h:(i:Int)∈(ord (eM a ws.sum ws)).take (a-(ez a ws.sum ws).sum).toNat
 ·rw[if_pos h]
  have:=bn h
  have:ws.sum*q<ws.sum*g ws i:=by omega
  have:=Int.lt_of_mul_lt_mul_left this (by omega)
  omega
 ·rw[if_neg h]
  have:ws.sum*q≤ws.sum*g ws i:=by omega
  have:=Int.le_of_mul_le_mul_left this bh
  omega
def less(ws ps:List Int)(k:Nat):List Int:=(List.range ws.length).map fun i:Nat=>if i<k then g ws i-g ps i else g ws i
theorem nB{ws ps:List Int}{k:Nat}:(less ws ps k).length=ws.length:=by simp[less]
theorem B_{ws ps:List Int}{k i:Nat}(h:i<ws.length):g (less ws ps k) i=if i<k then g ws i-g ps i else g ws i:=Ka h
theorem Yh{ws ps:List Int}:less ws ps 0=ws:=wi nB fun k aN=>by
 rw[nB]at aN
 rw[B_ aN];simp
theorem Yi{ws ps:List Int}{k:Nat}(aN:k<ws.length):(less ws ps k).set k (g ws k-g ps k)=less ws ps (k+1):=by
 refine wi (by simp[nB]) fun i hi=>?_
 rw[List.length_set,nB]at hi
 rw[CN (by rw[nB];exact aN),B_ hi,B_ hi]
 by_cases e:i=k
 ·subst e;rw[if_pos rfl,if_pos (by omega)]
 ·rw[if_neg e]
  by_cases h:i<k
  ·rw[if_pos h,if_pos (by omega)]
  ·rw[if_neg h,if_neg (by omega)]
def uH(ws:List Int)(a:Int):List Int×List Int×Int:=
 if(jS a ws).2=0 then(if(jS a ws).1<a then([],[],17)else (g4 a (jS a ws).1 ws,less ws (g4 a (jS a ws).1 ws) ws.length,0))else ([],[],(jS a ws).2)
theorem Yj{ws ps:List Int}{n:Nat}(hw:ws.length=n)(aa:ps.length=n)(aM:n≤64)(h:∀i,i<n→0≤g ps i∧g ps i≤g ws i∧g ws i≤128849018880000):
  iter bd (px.aZ ps (fh 0 [.int .i64] n)) (0,ag [ib ws])=some (.aP (),ag [ib (less ws ps n)]):=by
 have rR:∀{r:List Int} {k:Nat},r.length=n→k<n→ah (.leaf (.int .i64)) (ag [ib r]) (.aa 0 n (k*1))=some (g r k):=fun{r k} af aN=>by
  rw[BP (ls:=[.int .i64]) (xs:=r) (w:=1) (e:=1) rfl (by simp[af]) rfl (by omega),sk (by omega)]
  simp[LT.lo,ab.lo,ab.pack]
 refine (kr (f:=px.aZ ps (fh 0 [.int .i64] n)) (fun i=>((i:Int),ag [ib (less ws ps i)])) ?_ n bd (fun i hi=>?_) ?_ (dj (by omega)))
 ·rw[Yh];rfl
 ·have aE:=h i hi
  have zZ:=List.getElem?_eq_getElem (l:=ps) (i:=i) (by omega)
  have ahY:=kC (xs:=ps) (k:=i) (by omega)
  have d:=rR (r:=less ws ps i) (k:=i) (by rw[nB,hw]) hi
  rw[B_ (by omega),if_neg (by omega)]at d
  have NQ:=yA (ls:=[.int .i64]) (xs:=less ws ps i) (sl:=[ib (less ws ps i)]) (id:=0) (i:=i) (w:=1) (e:=1) (n:=n) (x:=g ws i-g ps i) (vs:=[.int .i64 (g ws i-g ps i)]) rfl (by simp[nB,hw]) rfl (by rw[nB];omega) rfl
  rw[Yi (by omega)]at NQ
  unfold px.aZ
  try simp -implicitDefEqProofs only[Int.toNat_natCast,Qa,Yc,List.length_cons,List.length_nil,Nat.zero_add,Nat.mul_one]
  rw[Nat.mul_one]at d NQ
  rw[decide_eq_true (show(i:Int)<(ps.length:Int) by omega),cond_true,aS (show 0≤(i:Int)∧(i:Int)<(ps.length:Int) by omega)]
  have af:=uj (f:=true) (k:=.i64) (xs:=ps) (i:=i) (h:=ag [ib (less ws ps i)])
  rw[Nat.mul_one]at af
  rw[af,zZ]
  try simp -implicitDefEqProofs only[Option.bind_some]
  rw[aS (by omega),kv,d]
  try simp -implicitDefEqProofs only[Option.bind_some]
  rw[aS (by omega),←ahY,i64_in _ (by omega),NQ]
  try simp -implicitDefEqProofs only[Option.bind_some]
  rw[dO (by omega)]
  rfl
 ·unfold px.aZ
  try simp -implicitDefEqProofs only[Qa]
  rw[decide_eq_false (by omega),cond_false]
theorem Zo(a:Int)(ws:List Int)(aq:ws.length<2^63):xW ws a=some (uH ws a):=by
 unfold xW px uH
 try simp -implicitDefEqProofs only[aF,reduceIte,av,az,aB,ax,an.un,aj.un,ai.un,LT.un,ab.un,ab.plain,LT.plain,QM a ws aq]
 by_cases he:(jS a ws).2=0
 ·rw[if_pos he,decide_eq_true he]
  obtain⟨bD,aO,fD,ey,Ht,bS,h1⟩:=IW he
  have bF:vj a ws=some (g4 a ws.sum ws,0):=by rw[Yb a ws aq,Jx,if_pos he,h1]
  rw[h1]
  have Ue:=k1.1 Ht
  have xk:=k1.1 bD
  try simp -implicitDefEqProofs only[aF,reduceIte,av,az,aB,ax,an.un,aj.un,ai.un,LT.un,ab.un,ab.plain,LT.plain]
  by_cases bn:ws.sum<a
  ·rw[if_pos bn,decide_eq_true bn]
   try simp -implicitDefEqProofs only[aF,reduceIte,av,az,aB,ax,an.un,aj.un,ai.un,LT.un,ab.un,ab.plain,LT.plain]
  ·rw[if_neg bn,decide_eq_false bn]
   try simp -implicitDefEqProofs only[aF,reduceIte,av,az,aB,ax,an.un,aj.un,ai.un,LT.un,ab.un,ab.plain,LT.plain]
   rw[bF]
   try simp -implicitDefEqProofs only[aF,reduceIte,av,az,aB,ax,an.un,aj.un,ai.un,LT.un,ab.un,ab.plain,LT.plain]
   rw[hj,Pf (ls:=[.int .i64]) (xs:=ws) (w:=1) rfl (by omega) rfl (by omega) (by omega),if_neg (by omega),if_neg (by omega)]
   try simp -implicitDefEqProofs only[Option.bind_some,List.nil_append,List.length_nil]
   have aE:∀i,i<ws.length→0≤g (g4 a ws.sum ws) i∧g (g4 a ws.sum ws) i≤g ws i∧g ws i≤128849018880000:=fun i hi=>by
    have aw:=Pq (a:=a) xk.1 (by omega) (by omega) (fun w hw=>(vL ey w hw).1) hi
    have aH:=vL ey _ (Gm hi)
    omega
   have m7:=Yj (n:=ws.length) (ws:=ws) (ps:=g4 a ws.sum ws) rfl Ih fD aE
   unfold ib at m7
   rw[m7]
   try simp -implicitDefEqProofs only[aF,reduceIte,av,az,aB,ax,an.un,aj.un,ai.un,LT.un,ab.un,ab.plain,LT.plain]
   have rl:=Bz (lp:=false) (ls:=[.int .i64]) (xs:=less ws (g4 a ws.sum ws) ws.length) (sl:=[ib (less ws (g4 a ws.sum ws) ws.length)]) (id:=0) (e:=1) (n:=ws.length*1) (c:=ws.length) (t:=true) rfl (by rw[nB];simp) rfl
   rw[nB]at rl
   unfold ib at rl
   unfold fh
   try simp -implicitDefEqProofs only[List.length_cons,List.length_nil,Nat.zero_add]
   rw[rl,show(⟨(ae true [.int .i64] (g4 a ws.sum ws)).a,(g4 a ws.sum ws).length,(g4 a ws.sum ws).length,true⟩:au)=ae true [.int .i64] (g4 a ws.sum ws)from rfl]
   try simp -implicitDefEqProofs only[aF,reduceIte,av,az,aB,ax,an.un,aj.un,ai.un,LT.un,ab.un,ab.plain,LT.plain]
 ·rw[if_neg he,decide_eq_false he]
  try simp -implicitDefEqProofs only[aF,reduceIte,av,az,aB,ax,an.un,aj.un,ai.un,LT.un,ab.un,ab.plain,LT.plain]
def g6(xs:List (Int×Int))(ns:List Int):List (Int×Int):=(xs.zip ns).filterMap fun p=>if 0<p.2 then some (p.1.1,p.2)else none
def ri(xs:List (Int×Int))(ns:List Int)(i:Nat):List (Int×Int):=((xs.zip ns).take i).filterMap fun p=>if 0<p.2 then some (p.1.1,p.2)else none
theorem Wz{xs:List (Int×Int)}{ns:List Int}{i:Nat}(h:i<xs.length)(aM:i<ns.length):ri xs ns (i+1)=if 0<g ns i then ri xs ns i++[((b7 xs i).1,g ns i)]else ri xs ns i:=by
 have bH:i<(xs.zip ns).length:=by rw[List.length_zip];omega
 obtain⟨h1,h2⟩:=List.getElem?_eq_some_iff.1 (iP h)
 unfold ri
 rw[←List.take_append_getElem bH,List.filterMap_append,List.getElem_zip,h2,←kC aM]
 by_cases aa:0<g ns i
 ·simp[aa]
 ·simp[aa]
theorem VH{xs:List (Int×Int)}{ns:List Int}{i:Nat}:(ri xs ns i).length≤i:=by
 unfold ri
 exact Nat.le_trans (List.length_filterMap_le ..) (by rw[List.length_take];omega)
theorem Rt (xs:List (Int×Int))(ns:List Int)(aq:xs.length≤64)(aM:ns.length=xs.length):vy xs ns=some (g6 xs ns):=by
 unfold vy pD
 try simp -implicitDefEqProofs only[aF,reduceIte,av,az,aB,ax,an.un,aj.un,ai.un,LT.un,ab.un,ab.plain,LT.plain,hj]
 obtain⟨x,h1,s,sl,o,rfl,h2⟩:=BG (f:=pD.aZ (ae false aD xs) (ae false [.int .i64] ns)) (fun i st=>∃s sl o,st=((s,(i:Int)),ag sl)∧Acc sl aD (ri xs ns i) s o)
  (fun x=>∃s sl o,x=(.aP s,ag sl)∧Acc sl aD (g6 xs ns) s o) xs.length (fun i st hi a6=>by
   obtain⟨s,sl,o,rfl,dG⟩:=a6
   have mB:=iP hi
   have dH:(sl++[a_ (b7 xs i)])[sl.length]? =some (a_ (b7 xs i)):=by simp
   have fq:=nM (sl:=sl) (x:=b7 xs i)
   have bw:=lR dH
   have iw:0≤(i:Int)∧(i:Int)<(xs.length:Int):=by omega
   have hA:0≤(i:Int)∧(i:Int)<(ns.length:Int):=by omega
   have CO:Acc (sl++[a_ (b7 xs i)]) aD (ri xs ns i) s o:=dG.more
   have akK:=VH (xs:=xs) (ns:=ns) (i:=i)
   have Gn:=Wz (xs:=xs) (ns:=ns) hi (by omega)
   obtain⟨bc,aC,id,aw,aH,aW,bq,bU⟩:=CO.append (b:=16) (w:=2) (x:=((b7 xs i).1,g ns i)) (vs:=[.int .i64 (b7 xs i).1,.int .i64 (g ns i)]) rfl (by omega) (by omega) (by omega) rfl
   by_cases aa:0<g ns i
   ·rw[if_pos aa]at Gn
    refine⟨((bc,((i+1:Nat):Int)),ag aC), ?_,bc,aC,some id,rfl,by rw[Gn];exact aH⟩
    unfold pD.aZ
    try simp -implicitDefEqProofs only[Int.toNat_natCast,bZ,aS iw,aS hA,uj,sk (xs:=ns) (show i<ns.length by omega)]
    rw[decide_eq_true iw.2,cond_true,q8 (ls:=aD) (w:=2) rfl (by omega) rfl,mB]
    try simp -implicitDefEqProofs only[Option.bind_some,b9,bR]
    rw[fq]
    try simp -implicitDefEqProofs only[Option.bind_some,gk]
    rw[decide_eq_true aa]
    try simp -implicitDefEqProofs only[aF,reduceIte,av,az,aB,ax,an.un,aj.un,ai.un,LT.un,ab.un,ab.plain,LT.plain]
    rw[bw.1]
    try simp -implicitDefEqProofs only[aF,reduceIte,av,az,aB,ax,an.un,aj.un,ai.un,LT.un,ab.un,ab.plain,LT.plain]
    rw[aw]
    try simp -implicitDefEqProofs only[aF,reduceIte,av,az,aB,ax,an.un,aj.un,ai.un,LT.un,ab.un,ab.plain,LT.plain]
    rw[dO (by omega)]
   ·rw[if_neg aa]at Gn
    refine⟨((s,((i+1:Nat):Int)),ag (sl++[a_ (b7 xs i)])), ?_,s,_,o,rfl,by rw[Gn];exact CO⟩
    unfold pD.aZ
    try simp -implicitDefEqProofs only[Int.toNat_natCast,bZ,aS iw,aS hA,uj,sk (xs:=ns) (show i<ns.length by omega)]
    rw[decide_eq_true iw.2,cond_true,q8 (ls:=aD) (w:=2) rfl (by omega) rfl,mB]
    try simp -implicitDefEqProofs only[Option.bind_some,b9,bR]
    rw[fq]
    try simp -implicitDefEqProofs only[Option.bind_some,gk]
    rw[decide_eq_false aa]
    try simp -implicitDefEqProofs only[aF,reduceIte,av,az,aB,ax,an.un,aj.un,ai.un,LT.un,ab.un,ab.plain,LT.plain]
    rw[dO (by omega)]) (fun st a6=>by
   obtain⟨s,sl,o,rfl,dG⟩:=a6
   have:ri xs ns xs.length=g6 xs ns:=by
    unfold ri g6
    rw[List.take_of_length_le (by rw[List.length_zip];omega)]
   rw[this]at dG
   refine⟨_, ?_,s,sl,o,rfl,dG⟩
   unfold pD.aZ
   try simp -implicitDefEqProofs only[bZ]
   rw[decide_eq_false (by omega),cond_false]) bd 0 ((⟨.nil,0,0,false⟩,0),ag []) (by omega) ⟨_,[],none,rfl,Acc.nil⟩ (by have:=dj (n:=xs.length) (by omega);omega)
 rw[h1]
 try simp -implicitDefEqProofs only[aF,reduceIte,av,az,aB,ax,an.un,aj.un,ai.un,LT.un,ab.un,ab.plain,LT.plain]
 rw[h2.read rfl]
theorem jQ{lp:Bool}{h:H}{xs:List (Int×Int)}:bB lp h [.int .i64,.int .i64] ⟨(ae true [.int .i64,.int .i64] xs).a,xs.length,xs.length,true⟩=some xs:=jb rfl
theorem mw{lp:Bool}{h:H}{xs:List Int}:bB lp h [.int .i64] ⟨(ae true [.int .i64] xs).a,xs.length,xs.length,true⟩=some xs:=jb rfl
def eY(xs:List (Int×Int)):List Int:=xs.map (·.2)
def oR(xs:List (Int×Int))(n:Int):List (Int×Int)×List (Int×Int)×Int:=
 if g3 xs=0 then(if n<0 then([],[],2)else if b0 xs<n then([],[],17)else if xs.length=0 then([],[],0)else (g6 xs (uH (eY xs) n).1,g6 xs (uH (eY xs) n).2.1,0))else ([],[],1)
theorem Pr{xs:List (Int×Int)}{n:Int}(h:g3 xs=0)(aO:0≤n)(h1:n≤b0 xs)(bS:0<xs.length):
  uH (eY xs) n=(g4 n (b0 xs) (eY xs),less (eY xs) (g4 n (b0 xs) (eY xs)) (eY xs).length,0)∧(jS n (eY xs))=(b0 xs,0):=by
 obtain⟨aw,aH,aW,bq⟩:=mo h
 have ey:(eY xs).all fE=true:=List.all_eq_true.2 fun y aK=>by
  obtain⟨x,hx,rfl⟩:=List.mem_map.1 aK
  have:=lI.1 (aW x hx)
  exact k1.2 (by omega)
 have hlen:(eY xs).length=xs.length:=by simp[eY]
 have gD:0<b0 xs:=by
  cases xs with
  |nil=>simp at bS
  |cons x xs=>
   have h2:=lI.1 (aW x (by simp))
   have h3:=vB xs fun y aK=>by have:=lI.1 (aW y (by simp[aK]));omega
   unfold b0 at h3⊢
   simp only[List.map_cons,List.sum_cons]
   omega
 have o1:(eY xs).sum=b0 xs:=rfl
 have hw:jS n (eY xs)=(b0 xs,0):=by
  unfold jS
  rw[if_pos (k1.2 (by omega)),if_neg (by omega),if_neg (by omega),if_pos (by rw[ey,o1];simp only[Bool.true_and];exact k1.2 (by omega)),if_neg (by omega),o1]
 refine⟨?_,hw⟩
 unfold uH
 rw[hw,if_pos rfl,if_neg (by omega)]
theorem Zp(xs:List (Int×Int))(n:Int)(aq:xs.length<2^63):x_ xs n=some (oR xs n):=by
 unfold x_ Bu oR
 try simp -implicitDefEqProofs only[aF,reduceIte,av,az,aB,ax,an.un,aj.un,ai.un,LT.un,ab.un,ab.plain,LT.plain,jQ,mw]
 rw[Rq xs aq]
 unfold BT
 by_cases h:g3 xs=0
 ·obtain⟨aw,aH,aW,bq⟩:=mo h
  rw[if_pos h,if_pos h]
  try simp -implicitDefEqProofs only[aF,reduceIte,av,az,aB,ax,an.un,aj.un,ai.un,LT.un,ab.un,ab.plain,LT.plain,eq_self,decide_true]
  by_cases aO:n<0
  ·rw[decide_eq_true aO,if_pos aO]
   try simp -implicitDefEqProofs only[aF,reduceIte,av,az,aB,ax,an.un,aj.un,ai.un,LT.un,ab.un,ab.plain,LT.plain,jQ,mw]
  ·rw[decide_eq_false aO,if_neg aO]
   try simp -implicitDefEqProofs only[aF,reduceIte,av,az,aB,ax,an.un,aj.un,ai.un,LT.un,ab.un,ab.plain,LT.plain,jQ,mw]
   by_cases h1:b0 xs<n
   ·rw[decide_eq_true h1,if_pos h1]
    try simp -implicitDefEqProofs only[aF,reduceIte,av,az,aB,ax,an.un,aj.un,ai.un,LT.un,ab.un,ab.plain,LT.plain,jQ,mw]
   ·rw[decide_eq_false h1,if_neg h1]
    try simp -implicitDefEqProofs only[aF,reduceIte,av,az,aB,ax,an.un,aj.un,ai.un,LT.un,ab.un,ab.plain,LT.plain,jQ,mw]
    by_cases h2:xs.length=0
    ·rw[decide_eq_true (show(xs.length:Int)=0 by omega),if_pos h2]
     try simp -implicitDefEqProofs only[aF,reduceIte,av,az,aB,ax,an.un,aj.un,ai.un,LT.un,ab.un,ab.plain,LT.plain,jQ,mw]
    ·rw[decide_eq_false (show ¬(xs.length:Int)=0 by omega),if_neg h2]
     try simp -implicitDefEqProofs only[aF,reduceIte,av,az,aB,ax,an.un,aj.un,ai.un,LT.un,ab.un,ab.plain,LT.plain,jQ,mw]
     rw[OD xs (by omega) (BI aW)]
     try simp -implicitDefEqProofs only[aF,reduceIte,av,az,aB,ax,an.un,aj.un,ai.un,LT.un,ab.un,ab.plain,LT.plain,jQ,mw]
     rw[show List.map (fun x:Int×Int=>x.2) xs=eY xs from rfl,Zo n (eY xs) (by unfold eY;rw[List.length_map];omega)]
     try simp -implicitDefEqProofs only[aF,reduceIte,av,az,aB,ax,an.un,aj.un,ai.un,LT.un,ab.un,ab.plain,LT.plain,jQ,mw]
     obtain⟨d1,_⟩:=Pr (n:=n) h (by omega) (by omega) (show 0<xs.length by omega)
     have aG:(uH (eY xs) n).1.length=xs.length:=by rw[d1];simp only[Ih];simp[eY]
     have e2:(uH (eY xs) n).2.1.length=xs.length:=by rw[d1];simp only[nB];simp[eY]
     rw[Rt xs _ (by omega) aG]
     try simp -implicitDefEqProofs only[aF,reduceIte,av,az,aB,ax,an.un,aj.un,ai.un,LT.un,ab.un,ab.plain,LT.plain,jQ,mw]
     rw[Rt xs _ (by omega) e2]
     try simp -implicitDefEqProofs only[aF,reduceIte,av,az,aB,ax,an.un,aj.un,ai.un,LT.un,ab.un,ab.plain,LT.plain,jQ,mw]
 ·simp only[if_neg h]
  try simp -implicitDefEqProofs only[aF,reduceIte,av,az,aB,ax,an.un,aj.un,ai.un,LT.un,ab.un,ab.plain,LT.plain,jQ,mw]
  rw[decide_eq_false (show ¬(1:Int)=0 by omega)]
  try simp -implicitDefEqProofs only[aF,reduceIte,av,az,aB,ax,an.un,aj.un,ai.un,LT.un,ab.un,ab.plain,LT.plain,jQ,mw]
theorem Yk(a b:List (Int×Int))(aq:a.length<2^63):ve a b=some (decide (a=b)):=by
 have afk:∀(x y:Int×Int),(decide (x.1=y.1)&&decide (x.2=y.2))=decide (x=y):=fun x y=>by
  obtain⟨x0,bY⟩:=x
  obtain⟨gj,bb⟩:=y
  simp[Prod.mk.injEq,Bool.decide_and]
 unfold ve r0
 try simp -implicitDefEqProofs only[bZ]
 by_cases oc:a.length=b.length
 ·rw[decide_eq_true (show(a.length:Int)=(b.length:Int) by omega)]
  try simp -implicitDefEqProofs only[aF,reduceIte,av,az,aB,ax,an.un,aj.un,ai.un,LT.un,ab.un,ab.plain,LT.plain,jQ,mw]
  rw[X1 a b oc aq (fun i x y hx aK hi=>by
   unfold r0.aZ
   try simp -implicitDefEqProofs only[bZ,Int.toNat_natCast,gk]
   rw[decide_eq_true (by omega),cond_true,aS (by omega),q8 (ls:=aD) (w:=2) rfl (by omega) rfl,hx,q8 (ls:=aD) (w:=2) rfl (by omega) rfl,aK]
   try simp -implicitDefEqProofs only[Option.bind_some,afk]
   rw[aS (by omega),dO (by omega)]
   cases decide (x=y)<;>rfl) (by
   unfold r0.aZ
   try simp -implicitDefEqProofs only[bZ]
   rw[decide_eq_false (by omega),cond_false])]
  by_cases he:a=b
  ·rw[if_pos he,decide_eq_true he];rfl
  ·rw[if_neg he,decide_eq_false he];rfl
 ·rw[decide_eq_false (show ¬(a.length:Int)=(b.length:Int) by omega),decide_eq_false (show ¬a=b from fun e=>oc (by rw[e]))]
  try simp -implicitDefEqProofs only[aF,reduceIte,av,az,aB,ax,an.un,aj.un,ai.un,LT.un,ab.un,ab.plain,LT.plain,jQ,mw]
theorem Iy{xs:List (Int×Int)}{ns:List Int}:(g6 xs ns).length≤xs.length:=by
 unfold g6
 exact Nat.le_trans (List.length_filterMap_le ..) (by rw[List.length_zip];omega)
theorem VI{xs:List (Int×Int)}{n:Int}:(oR xs n).1.length≤xs.length∧(oR xs n).2.1.length≤xs.length:=by
 unfold oR
 repeat' split
 all_goals first |exact ⟨Iy,Iy⟩|simp
def gB(xs:List (Int×Int))(i:Nat):au:=⟨(ae false aD xs).a.add (i*2),xs.length-i,xs.length-i,true⟩
theorem sa{xs:List (Int×Int)}{i:Nat}:(gB xs i).len=xs.length-i:=by unfold gB;exact rfl
theorem yl{xs:List (Int×Int)}{i:Nat}:(gB xs i).cap=xs.length-i:=by unfold gB;exact rfl
theorem yd{xs:List (Int×Int)}{i:Nat}:(gB xs i).tail=true:=by unfold gB;exact rfl
theorem ub{xs:List (Int×Int)}{i:Nat}{h:H}(hi:i<xs.length):ah (.leaf (.int .i64)) h (((gB xs i).a.add 0).add 0)=some (b7 xs i).1:=by
 have e:((gB xs i).a.add 0).add 0=((ae false aD xs).a.add (i*2)).add 0:=by unfold gB;simp only[add_add,Nat.add_zero]
 rw[e,(Kb hi).1]
theorem uc{xs:List (Int×Int)}{i:Nat}(hi:i<xs.length):V.bm ((gB xs i).a.add 0)=true:=by
 have e:(gB xs i).a.add 0=(ae false aD xs).a.add (i*2):=by unfold gB;simp only[add_add,Nat.add_zero]
 rw[e,Kc hi]
theorem ye{xs:List (Int×Int)}{i:Nat}:V.slice (V.add (gB xs i).a (Int.toNat 1*2)) (Int.toNat ((xs.length-i:Nat):Int)-Int.toNat 1) (xs.length-i-Int.toNat 1) true=.slice (gB xs (i+1)).a (gB xs (i+1)).len (gB xs (i+1)).cap (gB xs (i+1)).tail:=by
 have e:(gB xs i).a.add (Int.toNat 1*2)=(gB xs (i+1)).a:=by
  unfold gB
  simp only[add_add]
  congr 1
  show i*2+1*2=(i+1)*2
  omega
 rw[e,sa,yl,yd,Int.toNat_natCast,show Int.toNat 1=1 from rfl,show xs.length-i-1=xs.length-(i+1) by omega]
theorem Xq{N:Nat}{f:aj [.leaf (.int .i64),.leaf (.int .i64)]→H→Option H}{a b:Int}{h:H}{R:Type}{k:V→H→Option R}:
  eE (m2 Table.nil (qf [.leaf (.int .i64),.leaf (.int .i64)] N f)).dg (.hR N) [.int .i64 a,.int .i64 b] h k=(f (a,b) h).bind fun ar=>k (.bool true) ar:=by
 have:Nat.beq N N=true:=Nat.beq_refl N
 simp[eE,m2,qf,this,aj.pack,ai.pack,ab.pack]
theorem Yl:an.pack (.one (.leaf .bool)) (.bool true)=some true:=rfl
structure zQ(xs ys:List (Int×Int))(es:List (Int×Int))(N i k:Nat)(acc:List (Int×Int))(sl:List Slot):Prop where
 s1:sl[1]? =some (hC (gB xs i))
 s2:sl[2]? =some (hC (gB ys k))
 cU:sl[3]? =some (.dk .i64 .i64 es)
 eD:sl[4]? =some (.own [.map (some 3)] 1)
 alh:sl[N]? =some (.loop .ready)
 out:∃s o,sl[0]? =some (hC s)∧Acc sl aD acc s o∧∀id,o=some id→N<id
abbrev tL(es:List (Int×Int))(p:Int×Int):Int×Int:=(p.1,(getM p.1 es).getD 0)
theorem Xr{xs ys es acc:List (Int×Int)}{N i k:Nat}{sl:List Slot}{h h3:H}(aM:h.next=0)(kj:h3.next=N)(akL:4<N)(inv:zQ xs ys es N i k acc sl)(hi:i≤xs.length)(aN:k≤ys.length)(Uh:i<xs.length∨k<ys.length)(aq:xs.length+ys.length≤4096)(bD:acc.length≤i+k):
  ∃(Dq:List (Int×Int)) (aC:List Slot) (c3 e_:Nat),ko.aZ (m2 Table.nil (qf [.leaf (.int .i64),.leaf (.int .i64)] N (kZ.yY h h3))) (.hR N) (.aa 1 1 0) (.aa 2 1 0) (.aa 4 1 0) ((),ag sl)=some (.more ((),ag aC))∧zQ xs ys es N c3 e_ Dq aC∧Dq.length≤c3+e_∧c3≤xs.length∧e_≤ys.length∧i+k<c3+e_∧
   Dq++(c4 (xs.drop c3) (ys.drop e_)).map (tL es)=acc++(c4 (xs.drop i) (ys.drop k)).map (tL es):=by
 obtain⟨i1,i2,i3,i4,HV,s,o,aO,dG,a8⟩:=inv
 have fin:∀(nm:List Slot) (c3 e_:Nat) (f:Int),nm.length=sl.length→(∀j,j≠1→j≠2→nm[j]? =sl[j]?)→nm[1]? =some (hC (gB xs c3))→nm[2]? =some (hC (gB ys e_))→
   ∃aC,((ah (.leaf .map) (ag nm) (.aa 4 1 0)).bind fun MM=>(match(MM:Option Nat)with
    |none=>none
    |some MN=>((H.dk (ag nm) MN .i64 .i64).bind fun Ls=>(eE (m2 Table.nil (qf [.leaf (.int .i64),.leaf (.int .i64)] N (kZ.yY h h3))).dg (.hR N) [.int .i64 f,.int .i64 ((getM f Ls).getD 0)] (ag nm) fun MO pb=>(an.pack (.one (.leaf .bool)) MO).bind fun MP=>
     (bif (!MP)then(some (.done (.ret (),pb)))else (some (.more ((),pb))):Option (ca (Unit×H) (bG Unit Unit×H)))))))=some (.more ((),ag aC))∧zQ xs ys es N c3 e_ (acc++[(f,(getM f es).getD 0)]) aC:=fun nm c3 e_ f hlen dP aG e2=>by
  have acA:Acc nm aD acc s o:=dG.frame fun id aT=>by
   have:=a8 id aT
   rw[dP id (by omega) (by omega)]
  obtain⟨aC,bc,id,bw,bJ,ch,bQ,di,b4,fp⟩:=Zl (x:=(f,(getM f es).getD 0)) aM kj (by rw[dP 0 (by omega) (by omega),aO]) (by rw[dP N (by omega) (by omega),HV]) acA a8 (by omega) (by omega)
  refine⟨aC, ?_,⟨by rw[fp 1 (by omega) (by omega),aG],by rw[fp 2 (by omega) (by omega),e2],by rw[fp 3 (by omega) (by omega),dP 3 (by omega) (by omega),i3],by rw[fp 4 (by omega) (by omega),dP 4 (by omega) (by omega),i4],ch,bc,some id,bJ,bQ,fun da ar=>by cases ar;exact di⟩⟩
  rw[RZ (by rw[dP 4 (by omega) (by omega),i4])]
  try simp -implicitDefEqProofs only[Option.bind_some]
  rw[FX (by rw[dP 3 (by omega) (by omega),i3])]
  try simp -implicitDefEqProofs only[Option.bind_some]
  rw[Xq,bw]
  try simp -implicitDefEqProofs only[Option.bind_some,Yl,aF,reduceIte,av,az,aB,ax,an.un,aj.un,ai.un,LT.un,ab.un,ab.plain,LT.plain]
 have El:=m6 i1
 have Em:=m6 i2
 have iz:=(List.getElem?_eq_some_iff.1 i1).1
 have hH:=(List.getElem?_eq_some_iff.1 i2).1
 have first:(i<xs.length∧(k=ys.length∨k<ys.length∧(b7 xs i).1<(b7 ys k).1))∨(k<ys.length∧(i=xs.length∨i<xs.length∧(b7 ys k).1<(b7 xs i).1))∨(i<xs.length∧k<ys.length∧(b7 xs i).1=(b7 ys k).1):=by
  rcases Nat.lt_or_ge i xs.length with h1|h1
  ·rcases Nat.lt_or_ge k ys.length with h2|h2
   ·rcases Int.lt_trichotomy (b7 xs i).1 (b7 ys k).1 with h3|h3|h3
    ·exact .inl ⟨h1,.inr ⟨h2,h3⟩⟩
    ·exact .inr (.inr ⟨h1,h2,h3⟩)
    ·exact .inr (.inl ⟨h2,.inr ⟨h1,h3⟩⟩)
   ·exact .inl ⟨h1,.inl (by omega)⟩
  ·exact .inr (.inl ⟨by omega,.inl (by omega)⟩)
 have HW:i<xs.length→(0:Int)≤0∧(0:Int)<((xs.length-i:Nat):Int):=fun h=>by omega
 have HX:k<ys.length→(0:Int)≤0∧(0:Int)<((ys.length-k:Nat):Int):=fun h=>by omega
 have NR:i<xs.length→(0:Int)≤1∧(1:Int)≤((xs.length-i:Nat):Int)∧((xs.length-i:Nat):Int)≤((xs.length-i:Nat):Int):=fun h=>by omega
 have NS:k<ys.length→(0:Int)≤1∧(1:Int)≤((ys.length-k:Nat):Int)∧((ys.length-k:Nat):Int)≤((ys.length-k:Nat):Int):=fun h=>by omega
 have gx:i<xs.length→decide ((0:Int)<((xs.length-i:Nat):Int))=true:=fun h=>decide_eq_true (by omega)
 have mb:k<ys.length→decide ((0:Int)<((ys.length-k:Nat):Int))=true:=fun h=>decide_eq_true (by omega)
 have UY:i<xs.length→decide (((xs.length-i:Nat):Int)=0)=false:=fun h=>decide_eq_false (by omega)
 have HY:k<ys.length→decide (((ys.length-k:Nat):Int)=0)=false:=fun h=>decide_eq_false (by omega)
 rcases first with⟨h1,h2⟩|⟨h1,h2⟩|⟨h1,h2,h3⟩
 ·obtain⟨aC,f1,f2⟩:=fin (sl.set 1 (hC (gB xs (i+1)))) (i+1) k (b7 xs i).1 (by simp) (fun j aL _=>by rw[List.getElem?_set_ne (Ne.symm aL)]) (by rw[List.getElem?_set_self iz]) (by rw[List.getElem?_set_ne (by omega),i2])
  refine⟨_,aC,i+1,k, ?_,f2,by simp;omega,by omega,aN,by omega, ?_⟩
  ·unfold ko.aZ
   rcases h2 with h2|⟨h2,h3⟩
   ·simp -implicitDefEqProofs only[aF,reduceIte,av,az,aB,ax,an.un,aj.un,ai.un,LT.un,ab.un,ab.plain,LT.plain,El,Em,sa,yl,yd,gx h1,decide_eq_true (show((ys.length-k:Nat):Int)=0 by omega),aS (HW h1),aS (uc h1),ub h1,aS (NR h1)]
    rw[ye,uo i1]
    try simp -implicitDefEqProofs only[aF,reduceIte,av,az,aB,ax,an.un,aj.un,ai.un,LT.un,ab.un,ab.plain,LT.plain]
    exact f1
   ·simp -implicitDefEqProofs only[aF,reduceIte,av,az,aB,ax,an.un,aj.un,ai.un,LT.un,ab.un,ab.plain,LT.plain,El,Em,sa,yl,yd,gx h1,HY h2,aS (HW h1),aS (HX h2),aS (uc h1),aS (uc h2),ub h1,ub h2,aS (NR h1),decide_eq_true h3]
    rw[ye,uo i1]
    try simp -implicitDefEqProofs only[aF,reduceIte,av,az,aB,ax,an.un,aj.un,ai.un,LT.un,ab.un,ab.plain,LT.plain]
    exact f1
  ·rw[yE h1,List.append_assoc]
   rcases h2 with rfl |⟨h2,h3⟩
   ·simp[pJ]
   ·rw[yE h2,sg h3];rfl
 ·obtain⟨aC,f1,f2⟩:=fin (sl.set 2 (hC (gB ys (k+1)))) i (k+1) (b7 ys k).1 (by simp) (fun j _ aL=>by rw[List.getElem?_set_ne (Ne.symm aL)]) (by rw[List.getElem?_set_ne (by omega),i1]) (by rw[List.getElem?_set_self hH])
  refine⟨_,aC,i,k+1, ?_,f2,by simp;omega,hi,by omega,by omega, ?_⟩
  ·unfold ko.aZ
   rcases h2 with h2|⟨h2,h3⟩
   ·simp -implicitDefEqProofs only[aF,reduceIte,av,az,aB,ax,an.un,aj.un,ai.un,LT.un,ab.un,ab.plain,LT.plain,El,Em,sa,yl,yd,mb h1,HY h1,decide_eq_false (show ¬(0:Int)<((xs.length-i:Nat):Int) by omega),decide_eq_true (show((xs.length-i:Nat):Int)=0 by omega),aS (HX h1),aS (uc h1),ub h1,aS (NS h1)]
    rw[ye,uo i2]
    try simp -implicitDefEqProofs only[aF,reduceIte,av,az,aB,ax,an.un,aj.un,ai.un,LT.un,ab.un,ab.plain,LT.plain]
    exact f1
   ·simp -implicitDefEqProofs only[aF,reduceIte,av,az,aB,ax,an.un,aj.un,ai.un,LT.un,ab.un,ab.plain,LT.plain,El,Em,sa,yl,yd,gx h2,UY h2,HY h1,aS (HW h2),aS (HX h1),aS (uc h1),aS (uc h2),ub h1,ub h2,aS (NS h1),decide_eq_true h3,decide_eq_false (show ¬(b7 xs i).1<(b7 ys k).1 by omega)]
    rw[ye,uo i2]
    try simp -implicitDefEqProofs only[aF,reduceIte,av,az,aB,ax,an.un,aj.un,ai.un,LT.un,ab.un,ab.plain,LT.plain]
    exact f1
  ·rw[yE h1,List.append_assoc]
   rcases h2 with rfl |⟨h2,h3⟩
   ·simp[oK]
   ·rw[yE h2,sh h3];rfl
 ·obtain⟨aC,f1,f2⟩:=fin ((sl.set 1 (hC (gB xs (i+1)))).set 2 (hC (gB ys (k+1)))) (i+1) (k+1) (b7 xs i).1 (by simp) (fun j Hv aL=>by rw[List.getElem?_set_ne (Ne.symm aL),List.getElem?_set_ne (Ne.symm Hv)]) (by rw[List.getElem?_set_ne (by omega),List.getElem?_set_self iz]) (by rw[List.getElem?_set_self (by simpa using hH)])
  refine⟨_,aC,i+1,k+1, ?_,f2,by simp;omega,by omega,by omega,by omega, ?_⟩
  ·have ahZ:(sl.set 1 (hC (gB xs (i+1))))[2]? =some (hC (gB ys k)):=by rw[List.getElem?_set_ne (by omega),i2]
   unfold ko.aZ
   try simp -implicitDefEqProofs only[aF,reduceIte,av,az,aB,ax,an.un,aj.un,ai.un,LT.un,ab.un,ab.plain,LT.plain,El,Em,sa,yl,yd,gx h1,UY h1,HY h2,aS (HW h1),aS (HX h2),aS (uc h1),aS (uc h2),ub h1,ub h2,aS (NR h1),aS (NS h2),decide_eq_false (show ¬(b7 xs i).1<(b7 ys k).1 by omega),decide_eq_false (show ¬(b7 ys k).1<(b7 xs i).1 by omega)]
   rw[ye,ye,uo i1]
   try simp -implicitDefEqProofs only[aF,reduceIte,av,az,aB,ax,an.un,aj.un,ai.un,LT.un,ab.un,ab.plain,LT.plain]
   rw[uo ahZ]
   try simp -implicitDefEqProofs only[aF,reduceIte,av,az,aB,ax,an.un,aj.un,ai.un,LT.un,ab.un,ab.plain,LT.plain]
   rw[aS (by rfl)]
   try simp -implicitDefEqProofs only[aF,reduceIte,av,az,aB,ax,an.un,aj.un,ai.un,LT.un,ab.un,ab.plain,LT.plain]
   exact f1
  ·rw[yE h1,yE h2,si h3,List.append_assoc];rfl
theorem Xs{Y:Entry}{N a b c:Nat}{h:H}{α:Type}{k:H→Option α}:B4 (kZ.tb.t).dg Y (.func 203 [.aa a 1 0,.aa b 1 0,.aa c 1 0]) [.hR N] h k=((ko (m2 Table.nil Y) (.hR N) (.aa a 1 0) (.aa b 1 0) (.aa c 1 0) h).bind fun p=>some p.2).bind k:=by
 have:(kZ.tb.t).dg.it 203 Y=ko.i.e Y:=rfl
 simp only[B4,this,ko.i,Hj,e8]
 simp[aj.pack,ai.pack,ab.pack,Option.bind_assoc]
theorem Zq(xs ys:List (Int×Int))(hx:∀x∈xs,0≤x.2∧x.2≤1000000000000000)(aK:∀x∈ys,0≤x.2∧x.2≤1000000000000000)(aq:xs.length+ys.length≤4096)(ajI:ku xs)(ajJ:ku ys):x6 xs ys=some (c4 xs ys):=by
 obtain⟨sl,aw,aH,aW,bq,bU,ek,lD⟩:=Yg (sl:=[hC ⟨.nil,0,0,false⟩]) xs ys hx aK aq
 simp only[List.length_cons,List.length_nil,Nat.zero_add,Nat.reduceAdd]at aw aH aW bq bU ek lD
 unfold x6 kZ
 try simp -implicitDefEqProofs only[aF,reduceIte,av,az,aB,ax,an.un,aj.un,ai.un,LT.un,ab.un,ab.plain,LT.plain,hj,b9,bR,List.nil_append]
 rw[aw]
 try simp -implicitDefEqProofs only[aF,reduceIte,av,az,aB,ax,an.un,aj.un,ai.un,LT.un,ab.un,ab.plain,LT.plain,vM,bR]
 rw[Xs]
 have aQ:∀i,i<sl.length→(sl++[Slot.loop .ready])[i]? =sl[i]?:=fun i hi=>by rw[List.getElem?_append_left hi]
 have LX:zQ xs ys (jf (xs++ys)) sl.length 0 0 [] (sl++[Slot.loop .ready]):=
  ⟨by rw[aQ 1 (by omega),aW];rfl,by rw[aQ 2 (by omega),bq];rfl,by rw[aQ 3 (by omega),bU],by rw[aQ 4 (by omega),ek],by simp,⟨⟨.nil,0,0,false⟩,none,by rw[aQ 0 (by omega),lD 0 (by omega)];rfl,Acc.nil,fun _ h=>by cases h⟩⟩
 unfold ko
 obtain⟨x,h1,aC,rfl,h2⟩:=ft (f:=ko.aZ (m2 Table.nil (qf [.leaf (.int .i64),.leaf (.int .i64)] sl.length (kZ.yY (ag []) (ag sl)))) (.hR sl.length) (.aa 1 1 0) (.aa 2 1 0) (.aa 4 1 0))
  (Inv:=fun st=>∃(acc:List (Int×Int)) (aC:List Slot) (i k:Nat),st=((),ag aC)∧zQ xs ys (jf (xs++ys)) sl.length i k acc aC∧acc.length≤i+k∧i≤xs.length∧k≤ys.length∧acc++(c4 (xs.drop i) (ys.drop k)).map (tL (jf (xs++ys)))=(c4 xs ys).map (tL (jf (xs++ys))))
  (Post:=fun x=>∃aC,x=(.aP (),ag aC)∧zQ xs ys (jf (xs++ys)) sl.length xs.length ys.length ((c4 xs ys).map (tL (jf (xs++ys)))) aC) (fun st=>((ah (.leaf .slice) st.2 (.aa 1 1 0)).map (·.len)).getD 0+((ah (.leaf .slice) st.2 (.aa 2 1 0)).map (·.len)).getD 0) (fun st a6=>by
   obtain⟨acc,aC,i,k,rfl,inv,bD,hi,aN,he⟩:=a6
   by_cases Uh:i<xs.length∨k<ys.length
   ·obtain⟨Dq,cK,c3,e_,aG,e2,bP,eC,lB,nt,NT⟩:=Xr (N:=sl.length) (h:=ag []) (h3:=ag sl) rfl rfl (by omega) inv hi aN Uh aq bD
    refine .inl ⟨_,aG,⟨Dq,cK,c3,e_,rfl,e2,bP,eC,lB,by rw[NT,he]⟩, ?_⟩
    simp only[m6 inv.s1,m6 inv.s2,m6 e2.s1,m6 e2.s2,Option.map_some,Option.getD_some,sa]
    omega
   ·refine .inr ⟨(.aP (),ag aC), ?_,aC,rfl, ?_⟩
    ·unfold ko.aZ
     try simp -implicitDefEqProofs only[aF,reduceIte,av,az,aB,ax,an.un,aj.un,ai.un,LT.un,ab.un,ab.plain,LT.plain,m6 inv.s1,m6 inv.s2,sa,decide_eq_false (show ¬(0:Int)<((xs.length-i:Nat):Int) by omega),decide_eq_false (show ¬(0:Int)<((ys.length-k:Nat):Int) by omega)]
    ·rw[List.drop_eq_nil_of_le (show xs.length≤i by omega),List.drop_eq_nil_of_le (show ys.length≤k by omega),oK,List.map_nil,List.append_nil]at he
     obtain rfl:i=xs.length:=by omega
     obtain rfl:k=ys.length:=by omega
     rw[←he];exact inv) bd ((),ag (sl++[Slot.loop .ready])) ⟨[],_,0,0,rfl,LX,by simp,by omega,by omega,by simp⟩ (by
   simp only[m6 LX.s1,m6 LX.s2,Option.map_some,Option.getD_some,sa]
   have:=dj (n:=xs.length+ys.length) (by omega);omega)
 rw[h1]
 obtain⟨i1,i2,i3,i4,HV,s,o,aO,dG,a8⟩:=h2
 try simp -implicitDefEqProofs only[aF,reduceIte,av,az,aB,ax,an.un,aj.un,ai.un,LT.un,ab.un,ab.plain,LT.plain]
 unfold H.GC
 rw[fO,HV]
 simp only[Option.getD_some]
 have Hu:=(List.getElem?_eq_some_iff.1 HV).1
 rw[k5 Hu]
 try simp -implicitDefEqProofs only[aF,reduceIte,av,az,aB,ax,an.un,aj.un,ai.un,LT.un,ab.un,ab.plain,LT.plain]
 rw[m6 (s:=s) (by rw[List.length_nil,List.getElem?_set_ne (by omega),aO])]
 try simp -implicitDefEqProofs only[aF,reduceIte,av,az,aB,ax,an.un,aj.un,ai.un,LT.un,ab.un,ab.plain,LT.plain]
 have KQ:Acc (aC.set sl.length (.loop .exhausted)) aD ((c4 xs ys).map (tL (jf (xs++ys)))) s o:=dG.frame fun id aT=>by
  have:=a8 id aT
  rw[List.getElem?_set_ne (by omega)]
 rw[KQ.read rfl]
 have e:(c4 xs ys).map (tL (jf (xs++ys)))=c4 xs ys:=by
  have:=Ye xs ys ajI ajJ
  rw[List.map_map]at this
  rw[show tL (jf (xs++ys))=((fun f=>(f,dS f xs+dS f ys))∘fun x:Int×Int=>x.1)from by
   funext p
   simp only[tL,Function.comp,Jg,OE],this]
 rw[e]
theorem A5{xs:List (Int×Int)}(h:g3 xs=0):ku xs:=by
 obtain⟨_,h2,_,_⟩:=mo h
 have step:∀i,i+1<xs.length→(b7 xs i).1<(b7 xs (i+1)).1:=fun i hi=>by
  have h3:=h2 (i+1) hi
  have aI:=FA h3
  unfold g5 at h3
  rw[if_pos aI]at h3
  by_cases ba:0<i+1∧(b7 xs (i+1)).1≤(b7 xs (i+1-1)).1
  ·rw[if_pos ba]at h3;cases h3
  ·rw[Nat.add_sub_cancel]at ba
   have:¬(b7 xs (i+1)).1≤(b7 xs i).1:=fun bp=>ba ⟨by omega,bp⟩
   omega
 have all:∀d i,i+d+1<xs.length→(b7 xs i).1<(b7 xs (i+d+1)).1:=fun d=>by
  induction d with
  |zero=>exact fun i hi=>step i hi
  |succ d ih=>
   intro i hi
   have h3:=ih i (by omega)
   have aI:=step (i+d+1) hi
   rw[show i+(d+1)+1=i+d+1+1 by omega]
   omega
 refine List.pairwise_iff_getElem.2 fun i j hi aL iS=>?_
 have h3:=all (j-i-1) i (by omega)
 rw[show i+(j-i-1)+1=j by omega]at h3
 have aG:=iP hi
 have e2:=iP aL
 rw[List.getElem?_eq_getElem hi]at aG
 rw[List.getElem?_eq_getElem aL]at e2
 rw[Option.some.inj aG,Option.some.inj e2]
 exact h3
theorem Xt{xs:List (Int×Int)}(h:∀x∈xs,kM x=true):∀x∈xs,0≤x.2∧x.2≤10737418240000:=fun x hx=>by
 have:=lI.1 (h x hx)
 omega
theorem Zr{a:Int}{ws:List Int}{i:Nat}(bh:0<ws.sum)(hi:i<ws.length)(h:(i:Int)∈(ord (eM a ws.sum ws)).take (a-(ez a ws.sum ws).sum).toNat):0<a*g ws i%ws.sum:=by
 have aE:=Bw (a:=a) bh (show 0<ws.length by omega)
 obtain⟨p,aa,e⟩:=List.getElem_of_mem h
 rw[List.getElem_take]at e
 rw[List.length_take,pE,k0]at aa
 have:=Rs (a:=a) (p:=p) bh (by omega) (by omega)
 rw[kC (xs:=ord _) (by rw[pE,k0];omega),e,Int.toNat_natCast,Kd hi]at this
 exact this
theorem Ym{a:Int}{ws:List Int}{i:Nat}(bh:0<ws.sum)(hi:i<ws.length):ws.sum*g (g4 a ws.sum ws) i-a*g ws i<ws.sum∧-ws.sum<ws.sum*g (g4 a ws.sum ws) i-a*g ws i:=by
 have aG:=Int.mul_ediv_add_emod (a*g ws i) ws.sum
 have e2:=Int.emod_nonneg (a*g ws i) (b:=ws.sum) (by omega)
 have bP:=Int.emod_lt_of_pos (a*g ws i) bh
 have bn:=Zr (a:=a) bh hi
 unfold g4
 rw[uw (by rw[jA];exact hi),R0 hi]
 generalize a*g ws i/ws.sum=q at*
 generalize a*g ws i%ws.sum=r at*
 generalize a*g ws i=v at*
 by_cases h:(i:Int)∈(ord (eM a ws.sum ws)).take (a-(ez a ws.sum ws).sum).toNat
 ·rw[if_pos h]
  have:=bn h
  rw[Int.mul_add,Int.mul_one]
  generalize ws.sum*q=t at*
  omega
 ·rw[if_neg h,Int.add_zero]
  generalize ws.sum*q=t at*
  omega
theorem Ke{xs:List (Int×Int)}{i:Nat}(h:i<xs.length):g (eY xs) i=(b7 xs i).2:=by
 unfold eY g
 rw[List.getElem?_map,iP h]
 rfl
theorem vD{ns:List Int}:g6 [] ns=[]:=by simp[g6]
theorem By{x:Int×Int}{n:Int}{xs:List (Int×Int)}{ns:List Int}:g6 (x::xs) (n::ns)=if 0<n then(x.1,n)::g6 xs ns else g6 xs ns:=by
 unfold g6
 rw[List.zip_cons_cons]
 by_cases h:0<n
 ·rw[List.filterMap_cons_some (by simp only;rw[if_pos h]),if_pos h]
 ·rw[List.filterMap_cons_none (by simp only;rw[if_neg h]),if_neg h]
def pX:List (Int×Int)→List Int→Prop
 |[],[]=>True
 |x::xs,n::ns=>0≤n∧n≤x.2∧pX xs ns
 |_,_=>False
theorem QR:∀{xs:List (Int×Int)} {ns:List Int},ns.length=xs.length→(∀i,i<xs.length→0≤g ns i∧g ns i≤(b7 xs i).2)→pX xs ns
 |[],[],_,_=>trivial
 |[],_::_,h,_=>by simp at h
 |_::_,[],h,_=>by simp at h
 |x::xs,n::ns,h,aE=>by
  have aO:=aE 0 (by simp)
  refine⟨aO.1,aO.2,QR (by simpa using h) fun i hi=>?_⟩
  have:=aE (i+1) (by simpa using hi)
  simpa[g,b7]using this
theorem yr:∀{xs:List (Int×Int)} {ns:List Int},pX xs ns→∀p∈g6 xs ns,∃x∈xs,p.1=x.1∧0<p.2∧p.2≤x.2
 |[],[],_,p,aa=>by rw[vD]at aa;cases aa
 |[],_::_,h,_,_=>by cases h
 |_::_,[],h,_,_=>by cases h
 |x::xs,n::ns,h,p,aa=>by
  obtain⟨h1,h2,h3⟩:=h
  rw[By]at aa
  by_cases aO:0<n
  ·rw[if_pos aO]at aa
   rcases List.mem_cons.1 aa with rfl |aa
   ·exact ⟨x,by simp,rfl,aO,h2⟩
   ·obtain⟨y,aK,k⟩:=yr h3 p aa
    exact ⟨y,by simp[aK],k⟩
  ·rw[if_neg aO]at aa
   obtain⟨y,aK,k⟩:=yr h3 p aa
   exact ⟨y,by simp[aK],k⟩
theorem Iz:∀{xs:List (Int×Int)} {ns:List Int},pX xs ns→ku xs→ku (g6 xs ns)
 |[],[],_,_=>by rw[vD];exact List.Pairwise.nil
 |[],_::_,h,_=>by cases h
 |_::_,[],h,_=>by cases h
 |x::xs,n::ns,h,ad=>by
  obtain⟨h1,h2,h3⟩:=h
  have g9:=List.pairwise_cons.1 ad
  rw[By]
  by_cases aO:0<n
  ·rw[if_pos aO]
   refine List.pairwise_cons.2 ⟨fun p aa=>?_,Iz h3 g9.2⟩
   obtain⟨y,aK,aw,_⟩:=yr h3 p aa
   have:=g9.1 y aK
   simp only
   omega
  ·rw[if_neg aO]
   exact Iz h3 g9.2
theorem BJ:∀{xs:List (Int×Int)} {ns:List Int},pX xs ns→b0 (g6 xs ns)=ns.sum
 |[],[],_=>by rw[vD];rfl
 |[],_::_,h=>by cases h
 |_::_,[],h=>by cases h
 |x::xs,n::ns,h=>by
  obtain⟨h1,h2,h3⟩:=h
  have ih:=BJ h3
  rw[By]
  by_cases aO:0<n
  ·rw[if_pos aO]
   simp only[b0,List.map_cons,List.sum_cons]at ih⊢
   omega
  ·rw[if_neg aO]
   simp only[List.sum_cons]
   omega
theorem Qc:∀{xs:List (Int×Int)} {ns:List Int},pX xs ns→0≤ns.sum∧ns.sum≤b0 xs
 |[],[],_=>⟨by decide,by decide⟩
 |[],_::_,h=>by cases h
 |_::_,[],h=>by cases h
 |x::xs,n::ns,h=>by
  obtain⟨h1,h2,h3⟩:=h
  have ih:=Qc h3
  simp only[b0,List.map_cons,List.sum_cons]at ih⊢
  omega
theorem EX{xs:List (Int×Int)}(h1:xs.length≤32)(h2:∀x∈xs,kM x=true)(h3:ku xs)(aI:b0 xs≤10737418240000):g3 xs=0:=by
 have ak:∀i,i<xs.length→g5 xs i=0:=fun i hi=>by
  unfold g5
  rw[if_pos (h2 _ (JN hi))]
  by_cases aO:0<i
  ·have:=List.pairwise_iff_getElem.1 h3 (i-1) i (by omega) hi (by omega)
   have aG:=iP (xs:=xs) (i:=i-1) (by omega)
   have e2:=iP hi
   rw[List.getElem?_eq_getElem (by omega)]at aG
   rw[List.getElem?_eq_getElem hi]at e2
   rw[Option.some.inj aG,Option.some.inj e2]at this
   rw[if_neg (by omega)]
  ·rw[if_neg (fun h=>aO h.1)]
 unfold g3
 rw[if_neg (by omega)]
 rcases q3 (g5 xs) xs.length with⟨_,e⟩|⟨m,hm,bS,_⟩
 ·rw[e,if_pos rfl,if_neg (by omega)]
 ·exact absurd (ak m hm) bS
theorem OX{xs:List (Int×Int)}{ns:List Int}(h:g3 xs=0)(hu:pX xs ns):g3 (g6 xs ns)=0:=by
 obtain⟨aw,aH,aW,bq⟩:=mo h
 have aq:=Iy (xs:=xs) (ns:=ns)
 have ad:=Qc hu
 refine EX (by omega) (fun p aa=>?_) (Iz hu (A5 h)) (by rw[BJ hu];omega)
 obtain⟨x,hx,aG,e2,bP⟩:=yr hu p aa
 have:=lI.1 (aW x hx)
 exact lI.2 (by omega)
theorem WA{u:Int×Int}{A B:List (Int×Int)}(h:∀p∈B,u.1<p.1):c4 (u::A) B=u::c4 A B:=by
 cases B with
 |nil=>rw[pJ,pJ]
 |cons y ys=>rw[sg (h y (by simp))]
theorem V6{u:Int×Int}{A B:List (Int×Int)}(h:∀p∈A,u.1<p.1):c4 A (u::B)=u::c4 A B:=by
 cases A with
 |nil=>rw[oK,oK]
 |cons y ys=>rw[sh (h y (by simp))]
def pY(xs:List (Int×Int))(ns:List Int):List Int:=(xs.zip ns).map fun p=>p.1.2-p.2
theorem Ps{x:Int×Int}{n:Int}{xs:List (Int×Int)}{ns:List Int}:pY (x::xs) (n::ns)=(x.2-n)::pY xs ns:=rfl
theorem Fa:∀{xs:List (Int×Int)} {ns:List Int},pX xs ns→pX xs (pY xs ns)
 |[],[],_=>trivial
 |[],_::_,h=>by cases h
 |_::_,[],h=>by cases h
 |x::xs,n::ns,h=>by
  obtain⟨h1,h2,h3⟩:=h
  rw[Ps]
  exact ⟨by omega,by omega,Fa h3⟩
theorem Pt:∀{xs:List (Int×Int)} {ns:List Int},pX xs ns→ku xs→(∀x∈xs,0<x.2)→c4 (g6 xs ns) (g6 xs (pY xs ns))=xs
 |[],[],_,_,_=>by rw[vD,vD,pJ]
 |[],_::_,h,_,_=>by cases h
 |_::_,[],h,_,_=>by cases h
 |x::xs,n::ns,h,ad,aa=>by
  obtain⟨h1,h2,h3⟩:=h
  have g9:=List.pairwise_cons.1 ad
  have ih:=Pt h3 g9.2 fun y aK=>aa y (by simp[aK])
  have hx:=aa x (by simp)
  have eh:∀p∈g6 xs ns,x.1<p.1:=fun p aa=>by
   obtain⟨y,aK,aw,_⟩:=yr h3 p aa
   have:=g9.1 y aK
   omega
  have iy:∀p∈g6 xs (pY xs ns),x.1<p.1:=fun p aa=>by
   obtain⟨y,aK,aw,_⟩:=yr (Fa h3) p aa
   have:=g9.1 y aK
   omega
  rw[Ps,By,By]
  by_cases bL:0<n
  ·rw[if_pos bL]
   by_cases a_:0<x.2-n
   ·rw[if_pos a_,si (x:=(x.1,n)) (y:=(x.1,x.2-n)) rfl,ih]
    simp only
    rw[show n+(x.2-n)=x.2 by omega]
   ·rw[if_neg a_,WA (u:=(x.1,n)) iy,ih,show n=x.2 by omega]
  ·rw[if_neg bL,if_pos (show 0<x.2-n by omega),V6 (u:=(x.1,x.2-n)) eh,ih,show n=0 by omega,Int.sub_zero]
theorem Yn{xs:List (Int×Int)}{ps:List Int}(h:ps.length=xs.length):less (eY xs) ps (eY xs).length=pY xs ps:=by
 have aG:(eY xs).length=xs.length:=by simp[eY]
 refine wi (by rw[nB];simp[pY,eY,h]) fun k aN=>?_
 rw[nB,aG]at aN
 rw[B_ (by omega),if_pos (by omega),Ke aN]
 have:=iP aN
 unfold pY g
 rw[List.getElem?_map,List.getElem?_zip_eq_some.2 (⟨iP aN,List.getElem?_eq_getElem (show k<ps.length by omega)⟩:xs[k]? =some (b7 xs k,ps[k]).1∧ps[k]? =some (b7 xs k,ps[k]).2),List.getElem?_eq_getElem (show k<ps.length by omega)]
 rfl
theorem Zs{xs:List (Int×Int)}{n:Int}(h:(oR xs n).2.2=0):g3 xs=0∧0≤n∧n≤b0 xs∧∃ps:List Int,ps.length=xs.length∧pX xs ps∧ps.sum=n∧oR xs n=(g6 xs ps,g6 xs (pY xs ps),0)∧
  ∀i,i<xs.length→b0 xs*g ps i-n*(b7 xs i).2<b0 xs∧-b0 xs<b0 xs*g ps i-n*(b7 xs i).2:=by
 unfold oR at*
 by_cases h1:g3 xs=0
 ·rw[if_pos h1]at*
  by_cases h2:n<0
  ·rw[if_pos h2]at h;cases h
  ·rw[if_neg h2]at*
   by_cases h3:b0 xs<n
   ·rw[if_pos h3]at h;cases h
   ·rw[if_neg h3]at*
    by_cases aI:xs.length=0
    ·have hx:xs=[]:=List.eq_nil_of_length_eq_zero aI
     subst hx
     have bH:b0 []=0:=rfl
     rw[if_pos aI]
     refine⟨h1,by omega,by omega,[],rfl,trivial, ?_,by rw[vD,vD],fun i hi=>by simp at hi⟩
     show(0:Int)=n
     omega
    ·rw[if_neg aI]at*
     obtain⟨aw,aH,aW,bq⟩:=mo h1
     obtain⟨d1,hw⟩:=Pr (n:=n) h1 (by omega) (by omega) (show 0<xs.length by omega)
     have bS:=(IW (show(jS n (eY xs)).2=0 by rw[hw])).2.2.2.2.2.1
     have ad:(eY xs).sum=b0 xs:=rfl
     have aE:=(vB xs (BI aW)).1
     have oq:(eY xs).length=xs.length:=by simp[eY]
     have bh:0<(eY xs).sum:=by omega
     have jG:(g4 n (b0 xs) (eY xs)).length=xs.length:=by rw[Ih,oq]
     have ah0:∀w∈eY xs,0≤w:=fun w hw=>by
      obtain⟨x,hx,rfl⟩:=List.mem_map.1 hw
      exact (BI aW x hx).1
     rw[d1]
     refine⟨h1,by omega,by omega,g4 n (b0 xs) (eY xs),jG,QR jG fun i hi=>?_, ?_, ?_,fun i hi=>?_⟩
     ·have:=Pq (a:=n) (ws:=eY xs) (i:=i) (by omega) bh (by omega) ah0 (by omega)
      rw[ad,Ke hi]at this
      exact this
     ·have:=V5 (a:=n) (ws:=eY xs) bh (by omega)
      rw[ad]at this
      exact this
     ·simp only
      rw[Yn jG]
     ·have:=Ym (a:=n) (ws:=eY xs) (i:=i) bh (by omega)
      rw[ad,Ke hi]at this
      exact this
 ·rw[if_neg h1]at h;cases h
theorem VJ{T:Table}{v:V}{h:H}{xs:List (Int×Int)}{f:Bool}(p:Int×Int→Bool)(aM:xs.length<2^63)(ao:∀x∈xs,∀{R:Type} (k:V→H→Option R),eE T.dg v [.agg [.int .i64 x.1,.int .i64 x.2]] h k=k (.bool (p x)) h):
  qO T (ae f [.int .i64,.int .i64] xs) v h=some (idxOf p xs,h):=by
 unfold qO
 rw[I_ xs p (fun i=>(i:Int)) aM (fun i x hx=>by
  obtain⟨bn,rfl⟩:=List.getElem?_eq_some_iff.1 hx
  unfold qO.aZ
  simp only[bZ,Int.toNat_natCast]
  rw[decide_eq_true (by omega),cond_true,aS (by omega),q8 (ls:=aD) (w:=2) rfl (by omega) rfl,hx]
  simp only[Option.bind_some]
  rw[ao _ (List.getElem_mem bn)]
  simp only[an.pack,ai.pack,ab.pack,Option.bind_some]
  rw[dO (by omega)]
  cases p xs[i]<;>rfl) (by
  unfold qO.aZ
  simp only[bZ]
  rw[decide_eq_false (by omega),cond_false])]
 unfold idxOf
 cases xs.findIdx? p<;>rfl
theorem Vc{T:Table}{v:V}{h:H}{xs:List (Int×Int)}{f:Bool}(p:Int×Int→Bool)(aM:xs.length<2^63)(ao:∀x∈xs,∀{R:Type} (k:V→H→Option R),eE T.dg v [.agg [.int .i64 x.1,.int .i64 x.2]] h k=k (.bool (p x)) h):
  nv T (ae f [.int .i64,.int .i64] xs) v h=some (xs.any p,h):=by
 unfold nv
 rw[VJ (T:=nv.tb T) p aM ao]
 simp only[Option.bind_some,Oy]
theorem aad (a v:Int):yg (a,v)=some (!fL (a,v)):=by
 unfold yg BC
 try simp -implicitDefEqProofs only[aF,reduceIte,av,az,aB,ax,an.un,aj.un,ai.un,LT.un,ab.un,ab.plain,LT.plain,dm,List.replicate,Ev.splice,LT.pack,ab.pack,Nat.reduceAdd,Nat.reduceSub,Nat.reduceLeDiff,Nat.reduceLT,Nat.reduceEqDiff,LT.lo,ab.lo]
 rw[vF]
 try simp -implicitDefEqProofs only[aF,reduceIte,av,az,aB,ax,an.un,aj.un,ai.un,LT.un,ab.un,ab.plain,LT.plain,dm,List.replicate,Ev.splice,LT.pack,ab.pack,Nat.reduceAdd,Nat.reduceSub,Nat.reduceLeDiff,Nat.reduceLT,Nat.reduceEqDiff,LT.lo,ab.lo]
def cW(xs:List (Int×Int)):Int×Int:=((xs.map (·.1)).sum,(xs.map (·.2)).sum)
theorem Qd{xs:List (Int×Int)}{i:Nat}{x:Int×Int}(h:xs[i]? =some x):cW (xs.take (i+1))=((cW (xs.take i)).1+x.1,(cW (xs.take i)).2+x.2):=by
 obtain⟨hi,rfl⟩:=List.getElem?_eq_some_iff.1 h
 rw[←List.take_append_getElem hi]
 unfold cW
 simp only[List.map_append,List.map_cons,List.map_nil,List.sum_append,List.sum_cons,List.sum_nil,Int.add_zero]
theorem Pu{xs:List (Int×Int)}(h:∀x∈xs,fL x=true):0≤(cW xs).1∧(cW xs).1≤xs.length*10737418240000∧0≤(cW xs).2∧(cW xs).2≤xs.length*128849018880000:=by
 induction xs with
 |nil=>simp[cW]
 |cons x xs ih=>
  have h1:=ih fun y aK=>h y (by simp[aK])
  have h2:=mq.1 (h x (by simp))
  simp only[cW,List.map_cons,List.sum_cons,List.length_cons]at h1⊢
  omega
def lN(xs:List (Int×Int))(i:Nat):List Slot:=a_ (0,0)::a_ (cW (xs.take i))::(xs.take i).map a_
theorem WB{xs:List (Int×Int)}{i:Nat}{x:Int×Int}(h:xs[i]? =some x):(lN xs i++[a_ x]).set 1 (a_ ((cW (xs.take i)).1+x.1,(cW (xs.take i)).2+x.2))=lN xs (i+1):=by
 unfold lN
 rw[Qd h]
 obtain⟨hi,rfl⟩:=List.getElem?_eq_some_iff.1 h
 rw[←List.take_append_getElem hi,List.map_append]
 rfl
theorem aaU{sl:List Slot}{id:Nat}{x:Int×Int}{y:Int}(h:sl[id]? =some (a_ x)):H.aY (ag sl) (.aa id 2 0) [.int .i64 y]=some (ag (sl.set id (a_ (y,x.2)))):=by
 rw[eS (g:=2) h rfl (by simp)];rfl
theorem aaV{sl:List Slot}{id:Nat}{x:Int×Int}{y:Int}(h:sl[id]? =some (a_ x)):H.aY (ag sl) (.aa id 2 1) [.int .i64 y]=some (ag (sl.set id (a_ (x.1,y)))):=by
 rw[eS (g:=2) h rfl (by simp)];rfl
theorem Zt{xs:List (Int×Int)}(aq:xs.length≤8)(h:∀x∈xs,fL x=true):yh xs=some (cW xs):=by
 unfold yh pH
 try simp -implicitDefEqProofs only[hj,b9,bR,List.length_nil,List.nil_append,List.length_cons,Nat.zero_add,List.cons_append]
 have m7:iter bd (pH.aZ (ae false [.int .i64,.int .i64] xs) (ag [a_ (0,0)])) (0,ag [a_ (0,0),a_ (0,0)])=some (.aP (),ag (lN xs xs.length)):=by
  refine (kr (f:=pH.aZ (ae false [.int .i64,.int .i64] xs) (ag [a_ (0,0)])) (fun i=>((i:Int),ag (lN xs i))) rfl xs.length bd (fun i hi=>?_) ?_ (dj (by omega)))
  ·have mB:=List.getElem?_eq_getElem hi
   have aE:=Pu (xs:=xs.take i) (fun x hx=>h x (List.mem_of_mem_take hx))
   have hx:=mq.1 (h _ (List.getElem_mem hi))
   rw[List.length_take,Nat.min_eq_left (by omega)]at aE
   generalize eW:xs[i]=x at*
   have hlen:(lN xs i).length=i+2:=by simp[lN];omega
   have dH:(lN xs i++[a_ x])[(lN xs i).length]? =some (a_ x):=by simp
   have wI:(lN xs i++[a_ x])[1]? =some (a_ (cW (xs.take i))):=rfl
   have bw:=lR dH
   have t1:=lR wI
   have fq:=nM (sl:=lN xs i) (x:=x)
   have w1:=aaU (y:=(cW (xs.take i)).1+x.1) wI
   have acB:((lN xs i++[a_ x]).set 1 (a_ ((cW (xs.take i)).1+x.1,(cW (xs.take i)).2)))[1]? =some (a_ ((cW (xs.take i)).1+x.1,(cW (xs.take i)).2)):=rfl
   have w2:=aaV (y:=(cW (xs.take i)).2+x.2) acB
   rw[List.set_set,WB mB]at w2
   have iw:0≤(i:Int)∧(i:Int)<(xs.length:Int):=by omega
   unfold pH.aZ
   try simp -implicitDefEqProofs only[Int.toNat_natCast,bZ,gk,aS iw]
   rw[decide_eq_true iw.2,cond_true,q8 (ls:=aD) (w:=2) rfl (by omega) rfl,mB]
   try simp -implicitDefEqProofs only[Option.bind_some,b9,bR,List.length_cons,List.length_nil,Nat.zero_add]
   rw[fq]
   try simp -implicitDefEqProofs only[Option.bind_some,bw.1,bw.2,t1.1,t1.2]
   rw[i64_in _ (by omega),i64_in _ (by omega),w1]
   try simp -implicitDefEqProofs only[Option.bind_some]
   rw[w2]
   try simp -implicitDefEqProofs only[Option.bind_some]
   rw[aS (p:=fg _ _=true) (by rw[hlen];rfl),dO (by omega)]
  ·unfold pH.aZ
   try simp -implicitDefEqProofs only[bZ]
   rw[decide_eq_false (by omega),cond_false]
 simp only[a_]at m7
 rw[m7]
 have g0:(lN xs xs.length)[0]? =some (a_ (0,0)):=rfl
 have aG:(lN xs xs.length)[1]? =some (a_ (cW xs)):=by rw[lN,List.take_length];rfl
 have vc:=RT (y:=cW xs) g0
 have e2:((lN xs xs.length).set 0 (a_ (cW xs)))[0]? =some (a_ (cW xs)):=rfl
 try simp -implicitDefEqProofs only[Option.bind_some,(lR aG).1,(lR aG).2]
 rw[vc]
 try simp -implicitDefEqProofs only[Option.bind_some]
 rw[RS e2]
 try simp -implicitDefEqProofs only[aF,reduceIte,av,az,aB,ax,an.un,aj.un,ai.un,LT.un,ab.un,ab.plain,LT.plain]
def sumOf(xs:List (Int×Int)):(Int×Int)×Int:=
 if 8<xs.length then((0,0),8)else if xs.any (fun x=>!fL x)=true then((0,0),1)else if fL (cW xs)=true then(cW xs,0)else ((0,0),15)
theorem R1 (xs:List (Int×Int))(aq:xs.length<2^63):q9 xs=some (sumOf xs):=by
 unfold q9 pM sumOf
 try simp -implicitDefEqProofs only[aF,reduceIte,av,az,aB,ax,an.un,aj.un,ai.un,LT.un,ab.un,ab.plain,LT.plain,hj,b9,bR,List.length_nil,List.nil_append,List.length_cons,Nat.zero_add,List.cons_append]
 have g0:[a_ (0,0)][0]? =some (a_ (0,0)):=rfl
 have vc:=RT (y:=(0,0)) g0
 have dp:=RS g0
 simp only[List.set_cons_zero,a_]at vc dp
 by_cases h8:8<xs.length
 ·rw[if_pos h8,decide_eq_true (show(8:Int)<(xs.length:Int) by omega)]
  try simp -implicitDefEqProofs only[aF,reduceIte,av,az,aB,ax,an.un,aj.un,ai.un,LT.un,ab.un,ab.plain,LT.plain]
  rw[vc]
  try simp -implicitDefEqProofs only[aF,reduceIte,av,az,aB,ax,an.un,aj.un,ai.un,LT.un,ab.un,ab.plain,LT.plain]
  rw[dp]
  try simp -implicitDefEqProofs only[aF,reduceIte,av,az,aB,ax,an.un,aj.un,ai.un,LT.un,ab.un,ab.plain,LT.plain]
 ·rw[if_neg h8,decide_eq_false (show ¬(8:Int)<(xs.length:Int) by omega)]
  try simp -implicitDefEqProofs only[aF,reduceIte,av,az,aB,ax,an.un,aj.un,ai.un,LT.un,ab.un,ab.plain,LT.plain]
  rw[Vc (fun x=>!fL x) aq (fun x hx R k=>by
   obtain⟨a,v⟩:=x
   show(yg (a,v)).bind (fun r=>k ((an.one (.leaf .bool)).lo true r) _)=_
   rw[aad];rfl)]
  try simp -implicitDefEqProofs only[aF,reduceIte,av,az,aB,ax,an.un,aj.un,ai.un,LT.un,ab.un,ab.plain,LT.plain]
  cases LY:xs.any (fun x=>!fL x)with
  |true=>
   try simp -implicitDefEqProofs only[aF,reduceIte,av,az,aB,ax,an.un,aj.un,ai.un,LT.un,ab.un,ab.plain,LT.plain]
   rw[vc]
   try simp -implicitDefEqProofs only[aF,reduceIte,av,az,aB,ax,an.un,aj.un,ai.un,LT.un,ab.un,ab.plain,LT.plain]
   rw[dp]
   try simp -implicitDefEqProofs only[aF,reduceIte,av,az,aB,ax,an.un,aj.un,ai.un,LT.un,ab.un,ab.plain,LT.plain]
  |false=>
   have aa:∀x∈xs,fL x=true:=fun x hx=>by
    have:=List.any_eq_false.1 LY x hx
    simpa using this
   try simp -implicitDefEqProofs only[aF,reduceIte,av,az,aB,ax,an.un,aj.un,ai.un,LT.un,ab.un,ab.plain,LT.plain,Bool.false_eq_true]
   rw[Zt (by omega) aa]
   generalize cW xs=s
   obtain⟨s1,s2⟩:=s
   try simp -implicitDefEqProofs only[aF,reduceIte,av,az,aB,ax,an.un,aj.un,ai.un,LT.un,ab.un,ab.plain,LT.plain,dm,List.replicate,Ev.splice,LT.pack,ab.pack,Nat.reduceAdd,Nat.reduceSub,Nat.reduceLeDiff,Nat.reduceLT,Nat.reduceEqDiff,LT.lo,ab.lo]
   rw[vF]
   try simp -implicitDefEqProofs only[aF,reduceIte,av,az,aB,ax,an.un,aj.un,ai.un,LT.un,ab.un,ab.plain,LT.plain,dm,List.replicate,Ev.splice,LT.pack,ab.pack,Nat.reduceAdd,Nat.reduceSub,Nat.reduceLeDiff,Nat.reduceLT,Nat.reduceEqDiff,LT.lo,ab.lo]
   cases fL (s1,s2)with
   |true=>simp -implicitDefEqProofs only[aF,reduceIte,av,az,aB,ax,an.un,aj.un,ai.un,LT.un,ab.un,ab.plain,LT.plain,dm,List.replicate,Ev.splice,LT.pack,ab.pack,Nat.reduceAdd,Nat.reduceSub,Nat.reduceLeDiff,Nat.reduceLT,Nat.reduceEqDiff,LT.lo,ab.lo]
   |false=>simp -implicitDefEqProofs only[aF,reduceIte,av,az,aB,ax,an.un,aj.un,ai.un,LT.un,ab.un,ab.plain,LT.plain,dm,List.replicate,Ev.splice,LT.pack,ab.pack,Nat.reduceAdd,Nat.reduceSub,Nat.reduceLeDiff,Nat.reduceLT,Nat.reduceEqDiff,LT.lo,ab.lo];rfl
theorem V7{x:Int×Int}{w:Int}(aa:fL x=true)(aO:0≤w)(h1:w≤x.2):0≤x.1*w/x.2∧x.1*w/x.2≤x.1:=by
 rw[mq]at aa
 rcases Int.lt_or_le 0 x.2 with h|h
 ·exact QO aa.1 aO h h1
 ·have:x.1=0:=by omega
  rw[this];simp
abbrev bK:=Int×Int×Int×List (Int×Int)
abbrev aX:List ab:=[.int .i64,.int .i64,.int .i64,.row [.int .i64,.int .i64]]
abbrev dY(f:Bool)(x:bK):Int×Int×Int×au:=(x.1,x.2.1,x.2.2.1,ae f aD x.2.2.2)
theorem vQ{f:Bool}{h:H}{l:List bK}{i:Nat}{x:bK}(hx:l[i]? =some x):ah (.agg [.int .i64,.int .i64,.int .i64,.slice]) h ((ae f aX l).a.add (i*4))=some (dY f x):=by
 rw[FU (ls:=aX) (w:=4) rfl rfl (by omega),hx]
 rfl
theorem aae{f:Bool}{h:H}{l:List bK}{i:Nat}{x:bK}(hx:l[i]? =some x):ah (.leaf (.int .i64)) h (((ae f aX l).a.add (i*4)).add 0)=some x.1:=by
 rw[add_add,yX (ls:=aX) (w:=4) rfl (by omega),hx];rfl
theorem aaW{f:Bool}{l:List bK}{i:Nat}(hi:i<l.length):V.bm ((ae f aX l).a.add (i*4))=true:=nL (by omega) (by simp)
def jt (l:List bK)(i:Nat):bK:=l[i]?.getD (0,0,0,[])
theorem sj{l:List bK}{i:Nat}(h:i<l.length):l[i]? =some (jt l i):=by
 unfold jt
 rw[List.getElem?_eq_getElem h]
 rfl
theorem JO{l:List bK}{i:Nat}(h:i<l.length):jt l i∈l:=List.mem_of_getElem? (sj h)
abbrev aA(x:Int×Int×Int×au):Slot:=.own [.int .i64 x.1,.int .i64 x.2.1,.int .i64 x.2.2.1,.slice x.2.2.2.a x.2.2.2.len x.2.2.2.cap x.2.2.2.tail] 4
theorem jU{sl:List Slot}{x:Int×Int×Int×au}:H.aY (ag (sl++[aA (0,0,0,⟨.nil,0,0,false⟩)])) (.aa sl.length 4 0) [.int .i64 x.1,.int .i64 x.2.1,.int .i64 x.2.2.1,.slice x.2.2.2.a x.2.2.2.len x.2.2.2.cap x.2.2.2.tail]=some (ag (sl++[aA x])):=by
 rw[eS (g:=4) (cs:=[V.int .i64 0,V.int .i64 0,V.int .i64 0,V.slice .nil 0 0 false]) (e:=4) (by simp) rfl (by simp)]
 simp[Ev.splice]
theorem rj{sl:List Slot}{id:Nat}{x y:Int×Int×Int×au}(h:sl[id]? =some (aA x)):H.aY (ag sl) (.aa id 4 0) [.int .i64 y.1,.int .i64 y.2.1,.int .i64 y.2.2.1,.slice y.2.2.2.a y.2.2.2.len y.2.2.2.cap y.2.2.2.tail]=some (ag (sl.set id (aA y))):=by
 rw[eS (g:=4) h rfl (by simp)];rfl
theorem hl{sl:List Slot}{id:Nat}{x:Int×Int×Int×au}(h:sl[id]? =some (aA x)):ah (.agg [.int .i64,.int .i64,.int .i64,.slice]) (ag sl) (.aa id 4 0)=some x:=by
 rw[oQ (by simp),fO,h];rfl
theorem R2{sl:List Slot}{id:Nat}{x:Int×Int×Int×au}(h:sl[id]? =some (aA x)):ah (.agg [.int .i64,.int .i64]) (ag sl) (.aa id 4 1)=some (x.2.1,x.2.2.1):=by
 rw[oQ (by simp),fO,h];rfl
theorem ic{sl:List Slot}{id:Nat}{x:Int×Int×Int×au}(h:sl[id]? =some (aA x)):ah (.leaf (.int .i64)) (ag sl) (.aa id 4 0)=some x.1∧ah (.leaf (.int .i64)) (ag sl) (.aa id 4 1)=some x.2.1∧ah (.leaf (.int .i64)) (ag sl) (.aa id 4 2)=some x.2.2.1∧ah (.leaf .slice) (ag sl) (.aa id 4 3)=some x.2.2.2:=by
 refine⟨?_, ?_, ?_, ?_⟩<;>(rw[e5 (g:=4) h rfl];rfl)
theorem Xu{f t:Bool}{h:H}{d a m:Int}{xs:List (Int×Int)}:bB true h [.int .i64,.int .i64,.int .i64,.row [.int .i64,.int .i64]] ⟨.lp true [.int .i64 d,.int .i64 a,.int .i64 m,.slice (ae f aD xs).a xs.length xs.length true] 0,1,1,t⟩=some [(d,a,m,xs)]:=by
 have h1:cE true h (.row aD) (.slice (ae f aD xs).a xs.length xs.length true)=some xs:=hL rfl
 have e:H.fv h (.lp true [.int .i64 d,.int .i64 a,.int .i64 m,.slice (ae f aD xs).a xs.length xs.length true] 0) (1*4)=some [.int .i64 d,.int .i64 a,.int .i64 m,.slice (ae f aD xs).a xs.length xs.length true]:=rfl
 show((H.fv h (.lp true [.int .i64 d,.int .i64 a,.int .i64 m,.slice (ae f aD xs).a xs.length xs.length true] 0) (1*4)).bind fun cs=>jE (fun c=>ax true h aX c) (chunks 4 1 cs))=_
 rw[e]
 show((ax true h aX [.int .i64 d,.int .i64 a,.int .i64 m,.slice (ae f aD xs).a xs.length xs.length true]).bind fun x=>some [x])=_
 simp only[ax,IU,h1,Option.bind_some]
theorem pK{f:Bool}{h:H}{xs:List (Int×Int)}:bB true h [.int .i64,.int .i64] ⟨(ae f [.int .i64,.int .i64] xs).a,xs.length,xs.length,true⟩=some xs:=hL (f:=f) rfl
theorem Pv{t:Bool}{h:H}{a v:Int}:bB true h [.int .i64,.int .i64] ⟨.lp true [.int .i64 a,.int .i64 v] 0,1,1,t⟩=some [(a,v)]:=jb (xs:=([(a,v)]:List (LT aD))) rfl
def yJ(xs:List (Int×Int))(a:Int):Int:=if 32<xs.length then 12 else if pT (g5 xs) xs.length=0 then(if b0 xs=a then 0 else 14)else 10
theorem aaf{bY b5:Int}{h:H}{E:Option (Bool×H)}:(bif !(decide (bY<1))then(bif !(decide ((1073741824:Int)<bY))then(bif !(decide (b5<1))then(bif !(decide ((10737418240000:Int)<b5))then E else some (true,h))else some (true,h))else some (true,h))else some (true,h):Option (Bool×H))=if kM (bY,b5)=true then E else some (true,h):=by
 unfold kM
 by_cases h1:bY<1
 ·rw[decide_eq_true h1,decide_eq_false (p:=_∧_) (by simp only;omega)];rfl
 ·rw[decide_eq_false h1]
  by_cases h2:(1073741824:Int)<bY
  ·rw[decide_eq_true h2,decide_eq_false (p:=_∧_) (by simp only;omega)];rfl
  ·rw[decide_eq_false h2]
   by_cases h3:b5<1
   ·rw[decide_eq_true h3,decide_eq_false (p:=_∧_) (by simp only;omega)];rfl
   ·rw[decide_eq_false h3]
    by_cases aI:(10737418240000:Int)<b5
    ·rw[decide_eq_true aI,decide_eq_false (p:=_∧_) (by simp only;omega)];rfl
    ·rw[decide_eq_false aI,decide_eq_true (p:=_∧_) (by simp only;omega)];rfl
theorem IA{xs:List (Int×Int)}{L:Slot}{h:H}{y:Int×Int×Int}{i:Nat}(aO:h.next=0)(Nc:L=aA (y.1,y.2.1,y.2.2,ae false aD xs))(hi:i<xs.length)(c2:xs.length≤32)(aa:∀j,j<i→g5 xs j=0):
  oG.aZ h (ae false aD xs) ((b0 (xs.take i),(i:Int)),ag (L::(xs.take i).map a_))=some (if g5 xs i=0 then .more ((b0 (xs.take (i+1)),((i+1:Nat):Int)),ag (L::(xs.take (i+1)).map a_))else .done (.ret 10,ag (L::(xs.take (i+1)).map a_))):=by
 have mB:=iP hi
 have gR:(L::(xs.take i).map a_)++[a_ (b7 xs i)]=L::(xs.take (i+1)).map a_:=by
  obtain⟨h1,he⟩:=List.getElem?_eq_some_iff.1 mB
  rw[←List.take_append_getElem h1,he,List.map_append]
  rfl
 have dH:((L::(xs.take i).map a_)++[a_ (b7 xs i)])[(L::(xs.take i).map a_).length]? =some (a_ (b7 xs i)):=by simp
 have bw:=lR dH
 have fq:=nM (sl:=L::(xs.take i).map a_) (x:=b7 xs i)
 have aE:=vB (xs.take i) (Rp (by omega) aa)
 rw[List.length_take,Nat.min_eq_left (by omega)]at aE
 have a6:=Jf hi
 have iw:0≤(i:Int)∧(i:Int)<(xs.length:Int):=by omega
 have dp:ah (.leaf .slice) (ag ((L::(xs.take i).map a_)++[a_ (b7 xs i)])) (.aa 0 4 3)=some (ae false aD xs):=(ic (x:=(y.1,y.2.1,y.2.2,ae false aD xs)) (by rw[Nc];rfl)).2.2.2
 unfold oG.aZ
 try simp -implicitDefEqProofs only[Int.toNat_natCast,bZ,aS iw,gk,aO]
 rw[decide_eq_true iw.2,cond_true,q8 (ls:=aD) (w:=2) rfl (by omega) rfl,mB]
 try simp -implicitDefEqProofs only[Option.bind_some,b9,bR]
 rw[fq]
 try simp -implicitDefEqProofs only[Option.bind_some,bw.1,bw.2]
 rw[aaf]
 unfold g5
 cases db:kM (b7 xs i)with
 |false=>
  try simp -implicitDefEqProofs only[aF,reduceIte,av,az,aB,ax,an.un,aj.un,ai.un,LT.un,ab.un,ab.plain,LT.plain,Bool.false_eq_true]
  rw[gR,if_neg (by simp)]
 |true=>
  have aff:=lI.1 db
  try simp -implicitDefEqProofs only[aF,reduceIte,av,az,aB,ax,an.un,aj.un,ai.un,LT.un,ab.un,ab.plain,LT.plain,eq_self]
  cases i with
  |zero=>
   rw[decide_eq_false (show ¬(0:Int)<((0:Nat):Int) by omega)]
   try simp -implicitDefEqProofs only[aF,reduceIte,av,az,aB,ax,an.un,aj.un,ai.un,LT.un,ab.un,ab.plain,LT.plain,Bool.false_eq_true]
   rw[bw.2]
   try simp -implicitDefEqProofs only[aF,reduceIte,av,az,aB,ax,an.un,aj.un,ai.un,LT.un,ab.un,ab.plain,LT.plain]
   rw[if_neg (show ¬((0:Nat)<0∧_) by omega),if_pos rfl,gR,i64_in _ (by omega),dO (by omega),a6]
  |succ j=>
   have aL:((j+1:Nat):Int)-1=((j:Nat):Int):=by omega
   have hA:0≤(j:Int)∧(j:Int)<(xs.length:Int):=by omega
   rw[decide_eq_true (show(0:Int)<((j+1:Nat):Int) by omega),aL,i64_in (j:Int) (by omega)]
   try simp -implicitDefEqProofs only[aF,reduceIte,av,az,aB,ax,an.un,aj.un,ai.un,LT.un,ab.un,ab.plain,LT.plain,Int.toNat_natCast,dp]
   rw[aS hA,aS (Kc (by omega)),(Kb (by omega)).1]
   try simp -implicitDefEqProofs only[aF,reduceIte,av,az,aB,ax,an.un,aj.un,ai.un,LT.un,ab.un,ab.plain,LT.plain]
   rw[Nat.add_sub_cancel]
   by_cases hle:(b7 xs (j+1)).1≤(b7 xs j).1
   ·rw[decide_eq_true hle]
    try simp -implicitDefEqProofs only[aF,reduceIte,av,az,aB,ax,an.un,aj.un,ai.un,LT.un,ab.un,ab.plain,LT.plain]
    rw[if_pos (show(0<j+1∧(b7 xs (j+1)).1≤(b7 xs j).1)from⟨by omega,hle⟩),if_neg (by omega),gR]
   ·rw[decide_eq_false hle]
    try simp -implicitDefEqProofs only[aF,reduceIte,av,az,aB,ax,an.un,aj.un,ai.un,LT.un,ab.un,ab.plain,LT.plain,Bool.false_eq_true]
    rw[bw.2]
    try simp -implicitDefEqProofs only[aF,reduceIte,av,az,aB,ax,an.un,aj.un,ai.un,LT.un,ab.un,ab.plain,LT.plain]
    rw[if_neg (show ¬(0<j+1∧(b7 xs (j+1)).1≤(b7 xs j).1)from fun h=>hle h.2),if_pos rfl,gR,i64_in _ (by omega),dO (by omega),a6]
theorem Xv(y:bK):vx y=some (yJ y.2.2.2 y.2.1):=by
 obtain⟨d,a,m,xs⟩:=y
 unfold vx oG yJ
 try simp -implicitDefEqProofs only[aF,reduceIte,av,az,aB,ax,an.un,aj.un,ai.un,LT.un,ab.un,ab.plain,LT.plain,hj,b9,bR,List.nil_append,List.length_nil]
 have g0:[aA (d,a,m,ae false aD xs)][0]? =some (aA (d,a,m,ae false aD xs)):=rfl
 have dp:=ic g0
 simp only[aA,bZ,hg,hf]at dp
 rw[dp.2.2.2]
 try simp -implicitDefEqProofs only[aF,reduceIte,av,az,aB,ax,an.un,aj.un,ai.un,LT.un,ab.un,ab.plain,LT.plain]
 by_cases c2:32<xs.length
 ·rw[if_pos c2,decide_eq_true (show(32:Int)<(xs.length:Int) by omega)]
  try simp -implicitDefEqProofs only[aF,reduceIte,av,az,aB,ax,an.un,aj.un,ai.un,LT.un,ab.un,ab.plain,LT.plain]
 ·rw[if_neg c2,decide_eq_false (show ¬(32:Int)<(xs.length:Int) by omega)]
  try simp -implicitDefEqProofs only[aF,reduceIte,av,az,aB,ax,an.un,aj.un,ai.un,LT.un,ab.un,ab.plain,LT.plain]
  rcases q3 (g5 xs) xs.length with⟨h1,h2⟩|⟨n,h1,h2,h3,aI⟩
  ·rw[h2,if_pos rfl]
   have m7:=kr (s0:=(((0:Int),(0:Int)),ag [aA (d,a,m,ae false aD xs)])) (f:=oG.aZ (ag []) (ae false aD xs)) (x:=(.aP (b0 xs),ag (aA (d,a,m,ae false aD xs)::xs.map a_))) (fun i=>((b0 (xs.take i),(i:Int)),ag (aA (d,a,m,ae false aD xs)::(xs.take i).map a_))) rfl xs.length bd (fun i hi=>by
    rw[IA (y:=(d,a,m)) rfl rfl hi (by omega) (fun j aL=>h1 j (by omega)),if_pos (h1 i hi)]) (by
    unfold oG.aZ
    try simp -implicitDefEqProofs only[bZ]
    rw[decide_eq_false (by omega),cond_false,List.take_length]) (dj (by omega))
   simp only[aA,bZ,hg,hf]at m7
   rw[m7]
   try simp -implicitDefEqProofs only[aF,reduceIte,av,az,aB,ax,an.un,aj.un,ai.un,LT.un,ab.un,ab.plain,LT.plain]
   have bw:=ic (sl:=aA (d,a,m,ae false aD xs)::xs.map a_) (id:=0) (x:=(d,a,m,ae false aD xs)) rfl
   simp only[aA,bZ,hg,hf]at bw
   rw[bw.2.1]
   try simp -implicitDefEqProofs only[aF,reduceIte,av,az,aB,ax,an.un,aj.un,ai.un,LT.un,ab.un,ab.plain,LT.plain]
   by_cases ad:b0 xs=a
   ·rw[decide_eq_true ad,if_pos ad];simp -implicitDefEqProofs only[aF,reduceIte,av,az,aB,ax,an.un,aj.un,ai.un,LT.un,ab.un,ab.plain,LT.plain]
   ·rw[decide_eq_false ad,if_neg ad];simp -implicitDefEqProofs only[aF,reduceIte,av,az,aB,ax,an.un,aj.un,ai.un,LT.un,ab.un,ab.plain,LT.plain]
  ·rw[aI,if_neg h2]
   have m7:=kr (s0:=(((0:Int),(0:Int)),ag [aA (d,a,m,ae false aD xs)])) (f:=oG.aZ (ag []) (ae false aD xs)) (x:=(.ret 10,ag (aA (d,a,m,ae false aD xs)::(xs.take (n+1)).map a_))) (fun i=>((b0 (xs.take i),(i:Int)),ag (aA (d,a,m,ae false aD xs)::(xs.take i).map a_))) rfl n bd (fun i hi=>by
    rw[IA (y:=(d,a,m)) rfl rfl (by omega) (by omega) (fun j aL=>h3 j (by omega)),if_pos (h3 i hi)]) (by
    rw[IA (y:=(d,a,m)) rfl rfl h1 (by omega) h3,if_neg h2]) (dj (by omega))
   simp only[aA,bZ,hg,hf]at m7
   rw[m7]
   try simp -implicitDefEqProofs only[aF,reduceIte,av,az,aB,ax,an.un,aj.un,ai.un,LT.un,ab.un,ab.plain,LT.plain]
theorem Yo(a v:Int):r_ (a,v)=some (fL (a,v)):=by
 unfold r_ BD
 try simp -implicitDefEqProofs only[aF,reduceIte,av,az,aB,ax,an.un,aj.un,ai.un,LT.un,ab.un,ab.plain,LT.plain,dm,List.replicate,Ev.splice,LT.pack,ab.pack,Nat.reduceAdd,Nat.reduceSub,Nat.reduceLeDiff,Nat.reduceLT,Nat.reduceEqDiff,LT.lo,ab.lo,Pv]
 rw[R1 _ (by simp)]
 have ad:cW [(a,v)]=(a,v):=by simp[cW]
 unfold sumOf
 rw[ad]
 try simp -implicitDefEqProofs only[aF,reduceIte,av,az,aB,ax,an.un,aj.un,ai.un,LT.un,ab.un,ab.plain,LT.plain,dm,List.replicate,Ev.splice,LT.pack,ab.pack,Nat.reduceAdd,Nat.reduceSub,Nat.reduceLeDiff,Nat.reduceLT,Nat.reduceEqDiff,LT.lo,ab.lo,List.any_cons,List.any_nil]
 cases h:fL (a,v)with
 |false=>rfl
 |true=>rfl
def oneOf(x:bK):Int:=if fL (x.2.1,x.2.2.1)=true∧x.2.2.1≠0 then yJ x.2.2.2 x.2.1 else 1
def ck(n:Int):Bool:=decide (1≤n∧n≤1073741824)
theorem uf{n:Int}:ck n=true↔1≤n∧n≤1073741824:=by simp[ck]
def k6(l:List bK)(i:Nat):Int:=if ck (jt l i).1=true then(if 0<i∧(jt l i).1≤(jt l (i-1)).1 then 5 else oneOf (jt l i))else 2
def jV(l:List bK):Int:=if 32<l.length then 8 else pT (k6 l) l.length
theorem aag{n:Int}{h:H}:(bif !(decide (n<1))then some ((decide ((1073741824:Int)<n)),h)else some (true,h):Option (Bool×H))=some (!ck n,h):=by
 unfold ck
 by_cases h1:n<1
 ·rw[decide_eq_true h1,decide_eq_false (p:=_∧_) (by omega)];rfl
 ·rw[decide_eq_false h1]
  by_cases h2:(1073741824:Int)<n
  ·rw[decide_eq_true h2,decide_eq_false (p:=_∧_) (by omega)];rfl
  ·rw[decide_eq_false h2,decide_eq_true (p:=_∧_) (by omega)];rfl
theorem Zu(l:List bK){i:Nat}(hi:i<l.length)(aq:l.length<2^62):yi l (i:Int)=some (k6 l i):=by
 have iw:0≤(i:Int)∧(i:Int)<(l.length:Int):=by omega
 have hx:=sj hi
 have acC:0<i→l[i-1]? =some (jt l (i-1)):=fun h=>sj (by omega)
 unfold yi BE k6
 generalize jt l i=x at*
 obtain⟨d,a,m,xs⟩:=x
 try simp -implicitDefEqProofs only[aF,reduceIte,av,az,aB,ax,an.un,aj.un,ai.un,LT.un,ab.un,ab.plain,LT.plain,Int.toNat_natCast,aS iw]
 rw[vQ hx]
 try simp -implicitDefEqProofs only[aF,reduceIte,av,az,aB,ax,an.un,aj.un,ai.un,LT.un,ab.un,ab.plain,LT.plain,hj,b9,bR,List.nil_append,List.length_nil]
 have fq:=jU (sl:=[]) (x:=(d,a,m,ae false aD xs))
 have g0:([]++[aA (d,a,m,ae false aD xs)])[0]? =some (aA (d,a,m,ae false aD xs)):=rfl
 have dp:=ic g0
 have bw:=R2 g0
 have bJ:=hl g0
 simp only[aA,bZ,hg,hf,List.nil_append,List.length_nil]at fq dp bw bJ
 rw[fq]
 try simp -implicitDefEqProofs only[aF,reduceIte,av,az,aB,ax,an.un,aj.un,ai.un,LT.un,ab.un,ab.plain,LT.plain]
 rw[dp.1]
 try simp -implicitDefEqProofs only[aF,reduceIte,av,az,aB,ax,an.un,aj.un,ai.un,LT.un,ab.un,ab.plain,LT.plain]
 rw[aag]
 try simp -implicitDefEqProofs only[aF,reduceIte,av,az,aB,ax,an.un,aj.un,ai.un,LT.un,ab.un,ab.plain,LT.plain]
 cases aT:ck d with
 |false=>
  try simp -implicitDefEqProofs only[aF,reduceIte,av,az,aB,ax,an.un,aj.un,ai.un,LT.un,ab.un,ab.plain,LT.plain,Bool.false_eq_true]
 |true=>
  try simp -implicitDefEqProofs only[aF,reduceIte,av,az,aB,ax,an.un,aj.un,ai.un,LT.un,ab.un,ab.plain,LT.plain,eq_self]
  have rest:((((ah (.agg [.int .i64,.int .i64]) (ag [aA (d,a,m,ae false aD xs)]) (.aa 0 4 1)).bind fun(sz,sA)=>((r_ (sz,sA)).bind fun kI=>
    (bif !(!kI)then((ah (.leaf (.int .i64)) (ag [aA (d,a,m,ae false aD xs)]) (.aa 0 4 2)).bind fun hb=>(some ((decide (hb=0)),(ag [aA (d,a,m,ae false aD xs)]))))else (some (true,(ag [aA (d,a,m,ae false aD xs)]))))))).bind fun(fH,d_)=>
    (bif fH then(some ((1:Int),d_))else ((ah (.agg [.int .i64,.int .i64,.int .i64,.slice]) d_ (.aa 0 4 0)).bind fun(nS,nT,sB,oY)=>((bB true d_ [.int .i64,.int .i64] oY).bind fun l4=>
    ((vx (nS,nT,sB,l4)).bind fun xe=>(some (xe,d_)))))))=some (oneOf (d,a,m,xs),ag [aA (d,a,m,ae false aD xs)]):=by
   unfold oneOf
   simp only[aA,bZ,hg,hf]
   rw[bw]
   try simp -implicitDefEqProofs only[aF,reduceIte,av,az,aB,ax,an.un,aj.un,ai.un,LT.un,ab.un,ab.plain,LT.plain]
   rw[Yo]
   try simp -implicitDefEqProofs only[aF,reduceIte,av,az,aB,ax,an.un,aj.un,ai.un,LT.un,ab.un,ab.plain,LT.plain]
   cases aa:fL (a,m)with
   |false=>simp -implicitDefEqProofs only[aF,reduceIte,av,az,aB,ax,an.un,aj.un,ai.un,LT.un,ab.un,ab.plain,LT.plain,Bool.false_eq_true,false_and]
   |true=>
    try simp -implicitDefEqProofs only[aF,reduceIte,av,az,aB,ax,an.un,aj.un,ai.un,LT.un,ab.un,ab.plain,LT.plain,eq_self,true_and]
    rw[dp.2.2.1]
    try simp -implicitDefEqProofs only[aF,reduceIte,av,az,aB,ax,an.un,aj.un,ai.un,LT.un,ab.un,ab.plain,LT.plain]
    by_cases hm:m=0
    ·rw[decide_eq_true hm,if_neg (fun h=>h hm)];simp -implicitDefEqProofs only[aF,reduceIte,av,az,aB,ax,an.un,aj.un,ai.un,LT.un,ab.un,ab.plain,LT.plain]
    ·rw[decide_eq_false hm,if_pos hm]
     try simp -implicitDefEqProofs only[aF,reduceIte,av,az,aB,ax,an.un,aj.un,ai.un,LT.un,ab.un,ab.plain,LT.plain]
     rw[bJ]
     try simp -implicitDefEqProofs only[aF,reduceIte,av,az,aB,ax,an.un,aj.un,ai.un,LT.un,ab.un,ab.plain,LT.plain]
     rw[Xv]
     try simp -implicitDefEqProofs only[aF,reduceIte,av,az,aB,ax,an.un,aj.un,ai.un,LT.un,ab.un,ab.plain,LT.plain]
  simp only[aA,bZ,hg,hf]at rest
  by_cases aO:0<i
  ·have hA:0≤((i-1:Nat):Int)∧((i-1:Nat):Int)<(l.length:Int):=by omega
   have wW:=acC aO
   rw[decide_eq_true (show(0:Int)<(i:Int) by omega),show(i:Int)-1=((i-1:Nat):Int) by omega,uk (by omega)]
   try simp -implicitDefEqProofs only[aF,reduceIte,av,az,aB,ax,an.un,aj.un,ai.un,LT.un,ab.un,ab.plain,LT.plain,Int.toNat_natCast,aS hA]
   rw[aS (aaW (show i-1<l.length by omega)),aae wW]
   try simp -implicitDefEqProofs only[aF,reduceIte,av,az,aB,ax,an.un,aj.un,ai.un,LT.un,ab.un,ab.plain,LT.plain]
   rw[dp.1]
   try simp -implicitDefEqProofs only[aF,reduceIte,av,az,aB,ax,an.un,aj.un,ai.un,LT.un,ab.un,ab.plain,LT.plain]
   by_cases hle:d≤(jt l (i-1)).1
   ·rw[decide_eq_true hle,if_pos (show 0<i∧d≤(jt l (i-1)).1 from⟨aO,hle⟩)]
    try simp -implicitDefEqProofs only[aF,reduceIte,av,az,aB,ax,an.un,aj.un,ai.un,LT.un,ab.un,ab.plain,LT.plain]
   ·rw[decide_eq_false hle,if_neg (show ¬(0<i∧d≤(jt l (i-1)).1)from fun h=>hle h.2)]
    try simp -implicitDefEqProofs only[aF,reduceIte,av,az,aB,ax,an.un,aj.un,ai.un,LT.un,ab.un,ab.plain,LT.plain]
    rw[rest]
    try simp -implicitDefEqProofs only[aF,reduceIte,av,az,aB,ax,an.un,aj.un,ai.un,LT.un,ab.un,ab.plain,LT.plain]
  ·rw[decide_eq_false (show ¬(0:Int)<(i:Int) by omega),if_neg (show ¬(0<i∧d≤(jt l (i-1)).1)from fun h=>aO h.1)]
   try simp -implicitDefEqProofs only[aF,reduceIte,av,az,aB,ax,an.un,aj.un,ai.un,LT.un,ab.un,ab.plain,LT.plain]
   rw[rest]
   try simp -implicitDefEqProofs only[aF,reduceIte,av,az,aB,ax,an.un,aj.un,ai.un,LT.un,ab.un,ab.plain,LT.plain]
theorem Jh(l:List bK)(aq:l.length<2^62):∃j,oH l=some (j,jV l):=by
 unfold oH oJ jV
 by_cases c2:32<l.length
 ·rw[if_pos c2,bZ,decide_eq_true (show(32:Int)<(l.length:Int) by omega)]
  try simp -implicitDefEqProofs only[aF,reduceIte,av,az,aB,ax,an.un,aj.un,ai.un,LT.un,ab.un,ab.plain,LT.plain]
  exact ⟨_,rfl⟩
 ·rw[if_neg c2,bZ,decide_eq_false (show ¬(32:Int)<(l.length:Int) by omega)]
  try simp -implicitDefEqProofs only[aF,reduceIte,av,az,aB,ax,an.un,aj.un,ai.un,LT.un,ab.un,ab.plain,LT.plain]
  have step:∀i,i<l.length→oJ.aZ (ae false aX l) ((i:Int),H.empty)=some (if k6 l i=0 then .more (((i+1:Nat):Int),H.empty)else .done (.ret ((i:Int),k6 l i),H.empty)):=fun i hi=>by
   unfold oJ.aZ
   try simp -implicitDefEqProofs only[aF,reduceIte,av,az,aB,ax,an.un,aj.un,ai.un,LT.un,ab.un,ab.plain,LT.plain]
   rw[decide_eq_true (show(i:Int)<(l.length:Int) by omega)]
   try simp -implicitDefEqProofs only[aF,reduceIte,av,az,aB,ax,an.un,aj.un,ai.un,LT.un,ab.un,ab.plain,LT.plain]
   rw[Zu l hi aq]
   try simp -implicitDefEqProofs only[aF,reduceIte,av,az,aB,ax,an.un,aj.un,ai.un,LT.un,ab.un,ab.plain,LT.plain]
   by_cases ak:k6 l i=0
   ·rw[decide_eq_true ak,if_pos ak]
    try simp -implicitDefEqProofs only[aF,reduceIte,av,az,aB,ax,an.un,aj.un,ai.un,LT.un,ab.un,ab.plain,LT.plain]
    rw[dO (by omega)]
   ·rw[decide_eq_false ak,if_neg ak]
    try simp -implicitDefEqProofs only[aF,reduceIte,av,az,aB,ax,an.un,aj.un,ai.un,LT.un,ab.un,ab.plain,LT.plain]
  rcases q3 (k6 l) l.length with⟨h1,h2⟩|⟨n,h1,h2,h3,aI⟩
  ·rw[h2,kr (s0:=((0:Int),H.empty)) (f:=oJ.aZ (ae false aX l)) (x:=(.aP (),H.empty)) (fun i=>((i:Int),H.empty)) rfl l.length bd (fun i hi=>by
    rw[step i hi,if_pos (h1 i hi)]) (by
    unfold oJ.aZ
    try simp -implicitDefEqProofs only[bZ]
    rw[decide_eq_false (by omega),cond_false]) (dj (by omega))]
   try simp -implicitDefEqProofs only[aF,reduceIte,av,az,aB,ax,an.un,aj.un,ai.un,LT.un,ab.un,ab.plain,LT.plain]
   exact ⟨_,rfl⟩
  ·rw[aI,kr (s0:=((0:Int),H.empty)) (f:=oJ.aZ (ae false aX l)) (x:=(.ret ((n:Int),k6 l n),H.empty)) (fun i=>((i:Int),H.empty)) rfl n bd (fun i hi=>by
    rw[step i (by omega),if_pos (h3 i hi)]) (by
    rw[step n h1,if_neg h2]) (dj (by omega))]
   try simp -implicitDefEqProofs only[aF,reduceIte,av,az,aB,ax,an.un,aj.un,ai.un,LT.un,ab.un,ab.plain,LT.plain]
   exact ⟨_,rfl⟩
theorem R3(n:Int):ua n=some (ck n):=by
 unfold ua BR ck
 by_cases h1:(1:Int)≤n
 ·rw[decide_eq_true h1]
  try simp -implicitDefEqProofs only[aF,reduceIte,av,az,aB,ax,an.un,aj.un,ai.un,LT.un,ab.un,ab.plain,LT.plain]
  by_cases h2:n≤1073741824
  ·rw[decide_eq_true h2,decide_eq_true (p:=_∧_) (by omega)]
  ·rw[decide_eq_false h2,decide_eq_false (p:=_∧_) (by omega)]
 ·rw[decide_eq_false h1,decide_eq_false (p:=_∧_) (by omega)]
  try simp -implicitDefEqProofs only[aF,reduceIte,av,az,aB,ax,an.un,aj.un,ai.un,LT.un,ab.un,ab.plain,LT.plain]
def yK(xs:List (Int×Int)):Int:=if 32<xs.length then 12 else if pT (g5 xs) xs.length=0 then 0 else 10
theorem VK{xs:List (Int×Int)}(h:yK xs=0):xs.length≤32∧pT (g5 xs) xs.length=0∧∀x∈xs,kM x=true:=by
 unfold yK at h
 by_cases c2:32<xs.length
 ·rw[if_pos c2]at h;cases h
 ·rw[if_neg c2]at h
  by_cases ak:pT (g5 xs) xs.length=0
  ·refine⟨by omega,ak,fun x hx=>?_⟩
   rcases q3 (g5 xs) xs.length with⟨h1,h2⟩|⟨n,h1,h2,h3,aI⟩
   ·obtain⟨j,aL,e⟩:=List.getElem_of_mem hx
    have:=FA (h1 j aL)
    have aG:=iP aL
    rw[List.getElem?_eq_getElem aL,e]at aG
    rw[Option.some.inj aG]
    exact this
   ·rw[aI]at ak;exact absurd ak h2
  ·rw[if_neg ak]at h;cases h
theorem VL(xs:List (Int×Int))(a:Int):yJ xs a=if yK xs=0 then(if b0 xs=a then 0 else 14)else yK xs:=by
 unfold yJ yK
 by_cases c2:32<xs.length
 ·rw[if_pos c2,if_pos c2,if_neg (by omega)]
 ·rw[if_neg c2,if_neg c2]
  by_cases ak:pT (g5 xs) xs.length=0
  ·rw[if_pos ak,if_pos ak,if_pos rfl]
  ·rw[if_neg ak,if_neg ak,if_neg (by omega)]
theorem IH{x:bK}(h:oneOf x=0):fL (x.2.1,x.2.2.1)=true∧x.2.2.1≠0∧g3 x.2.2.2=0∧b0 x.2.2.2=x.2.1:=by
 unfold oneOf at h
 by_cases aa:fL (x.2.1,x.2.2.1)=true∧x.2.2.1≠0
 ·rw[if_pos aa,VL]at h
  by_cases af:yK x.2.2.2=0
  ·rw[if_pos af]at h
   by_cases ad:b0 x.2.2.2=x.2.1
   ·refine⟨aa.1,aa.2, ?_,ad⟩
    obtain⟨aw,aH,aW⟩:=VK af
    have aE:=mq.1 aa.1
    simp only at aE
    unfold g3
    rw[if_neg (by omega),if_pos aH,if_neg (by omega)]
   ·rw[if_neg ad]at h;cases h
  ·rw[if_neg af]at h;exact absurd h af
 ·rw[if_neg aa]at h;cases h
theorem OY{x:bK}(h1:fL (x.2.1,x.2.2.1)=true)(h2:x.2.2.1≠0)(h3:g3 x.2.2.2=0)(aI:b0 x.2.2.2=x.2.1):oneOf x=0:=by
 unfold oneOf
 rw[if_pos ⟨h1,h2⟩]
 obtain⟨aw,aH,aW,bq⟩:=mo h3
 unfold yJ
 rw[if_neg (by omega),if_pos,if_pos aI]
 rcases q3 (g5 x.2.2.2) x.2.2.2.length with⟨_,e⟩|⟨m,hm,bS,_⟩
 ·exact e
 ·exact absurd (aH m hm) bS
theorem Xw{x:bK}:jV [x]=if ck x.1=true then oneOf x else 2:=by
 have aO:k6 [x] 0=if ck x.1=true then oneOf x else 2:=by
  unfold k6
  show(if ck x.1=true then(if 0<0∧_ then 5 else oneOf x)else 2)=_
  rw[if_neg (show ¬((0:Nat)<0∧_) by omega)]
 unfold jV
 rw[if_neg (by simp)]
 rw[←aO]
 rcases q3 (k6 [x]) [x].length with⟨h1,h2⟩|⟨n,h1,h2,h3,aI⟩
 ·rw[h2,h1 0 (by simp)]
 ·have:n=0:=by simpa using h1
  subst this
  exact aI
theorem OF{l:List bK}(h:jV l=0):l.length≤32∧∀i,i<l.length→k6 l i=0:=by
 unfold jV at h
 by_cases c2:32<l.length
 ·rw[if_pos c2]at h;cases h
 ·rw[if_neg c2]at h
  refine⟨by omega, ?_⟩
  rcases q3 (k6 l) l.length with⟨h1,_⟩|⟨n,h1,h2,h3,aI⟩
  ·exact h1
  ·rw[aI]at h;exact absurd h h2
theorem Xx{l:List bK}(h:jV l=0):∀x∈l,ck x.1=true∧oneOf x=0:=fun x hx=>by
 obtain⟨h1,h2⟩:=OF h
 obtain⟨i,hi,e⟩:=List.getElem_of_mem hx
 have h3:=h2 i hi
 have aG:=sj hi
 rw[List.getElem?_eq_getElem hi,e]at aG
 unfold k6 at h3
 rw[←Option.some.inj aG]at h3
 by_cases aT:ck x.1=true
 ·rw[if_pos aT]at h3
  split at h3
  ·cases h3
  ·exact ⟨aT,h3⟩
 ·rw[if_neg aT]at h3;cases h3
def ky (x:bK)(w n:Int):bK×bK×Int:=
 if jV [x]=0 then(if ck n=true∧0≤w then(if x.2.2.1<w then((0,0,0,[]),(0,0,0,[]),17)else
  ((n,x.2.1*w/x.2.2.1,w,(oR x.2.2.2 (x.2.1*w/x.2.2.1)).1),(x.1,x.2.1-x.2.1*w/x.2.2.1,x.2.2.1-w,(oR x.2.2.2 (x.2.1*w/x.2.2.1)).2.1),0))else ((0,0,0,[]),(0,0,0,[]),2))else ((0,0,0,[]),(0,0,0,[]),1)
theorem Pw{x:bK}{w:Int}(h:jV [x]=0)(aO:0≤w)(h1:w≤x.2.2.1):g3 x.2.2.2=0∧fL (x.2.1,x.2.2.1)=true∧0<x.2.2.1∧0≤x.2.1*w/x.2.2.1∧x.2.1*w/x.2.2.1≤x.2.1∧b0 x.2.2.2=x.2.1∧ck x.1=true:=by
 rw[Xw]at h
 by_cases aT:ck x.1=true
 ·rw[if_pos aT]at h
  obtain⟨aw,aH,aW,bq⟩:=IH h
  have aE:=mq.1 aw
  simp only at aE
  have ad:=V7 aw aO h1
  simp only at ad
  exact ⟨aW,aw,by omega,ad.1,ad.2,bq,aT⟩
 ·rw[if_neg aT]at h;cases h
theorem Zv(x:bK)(w n:Int)(aq:x.2.2.2.length<2^62):ya x w n=some (ky x w n):=by
 obtain⟨j,aL⟩:=Jh [x] (by simp)
 unfold ya Bv ky
 obtain⟨d,a,m,xs⟩:=x
 simp only at aq
 try simp -implicitDefEqProofs only[aF,reduceIte,av,az,aB,ax,an.un,aj.un,ai.un,LT.un,ab.un,ab.plain,LT.plain,dm,List.replicate,Ev.splice,LT.pack,ab.pack,Nat.reduceAdd,Nat.reduceSub,Nat.reduceLeDiff,Nat.reduceLT,Nat.reduceEqDiff,LT.lo,ab.lo,Xu,pK]
 rw[aL]
 try simp -implicitDefEqProofs only[aF,reduceIte,av,az,aB,ax,an.un,aj.un,ai.un,LT.un,ab.un,ab.plain,LT.plain,dm,List.replicate,Ev.splice,LT.pack,ab.pack,Nat.reduceAdd,Nat.reduceSub,Nat.reduceLeDiff,Nat.reduceLT,Nat.reduceEqDiff,LT.lo,ab.lo,pK]
 by_cases he:jV [(d,a,m,xs)]=0
 ·rw[decide_eq_true he,if_pos he]
  try simp -implicitDefEqProofs only[aF,reduceIte,av,az,aB,ax,an.un,aj.un,ai.un,LT.un,ab.un,ab.plain,LT.plain,dm,List.replicate,Ev.splice,LT.pack,ab.pack,Nat.reduceAdd,Nat.reduceSub,Nat.reduceLeDiff,Nat.reduceLT,Nat.reduceEqDiff,LT.lo,ab.lo,pK]
  rw[R3]
  try simp -implicitDefEqProofs only[aF,reduceIte,av,az,aB,ax,an.un,aj.un,ai.un,LT.un,ab.un,ab.plain,LT.plain,dm,List.replicate,Ev.splice,LT.pack,ab.pack,Nat.reduceAdd,Nat.reduceSub,Nat.reduceLeDiff,Nat.reduceLT,Nat.reduceEqDiff,LT.lo,ab.lo,pK]
  cases aT:ck n with
  |false=>
   try simp -implicitDefEqProofs only[aF,reduceIte,av,az,aB,ax,an.un,aj.un,ai.un,LT.un,ab.un,ab.plain,LT.plain,dm,List.replicate,Ev.splice,LT.pack,ab.pack,Nat.reduceAdd,Nat.reduceSub,Nat.reduceLeDiff,Nat.reduceLT,Nat.reduceEqDiff,LT.lo,ab.lo,Bool.false_eq_true,false_and]
  |true=>
   try simp -implicitDefEqProofs only[aF,reduceIte,av,az,aB,ax,an.un,aj.un,ai.un,LT.un,ab.un,ab.plain,LT.plain,dm,List.replicate,Ev.splice,LT.pack,ab.pack,Nat.reduceAdd,Nat.reduceSub,Nat.reduceLeDiff,Nat.reduceLT,Nat.reduceEqDiff,LT.lo,ab.lo,eq_self,true_and]
   by_cases aO:w<0
   ·rw[decide_eq_true aO,if_neg (by omega)]
    try simp -implicitDefEqProofs only[aF,reduceIte,av,az,aB,ax,an.un,aj.un,ai.un,LT.un,ab.un,ab.plain,LT.plain,dm,List.replicate,Ev.splice,LT.pack,ab.pack,Nat.reduceAdd,Nat.reduceSub,Nat.reduceLeDiff,Nat.reduceLT,Nat.reduceEqDiff,LT.lo,ab.lo,pK]
   ·rw[decide_eq_false aO,if_pos (show 0≤w by omega)]
    try simp -implicitDefEqProofs only[aF,reduceIte,av,az,aB,ax,an.un,aj.un,ai.un,LT.un,ab.un,ab.plain,LT.plain,dm,List.replicate,Ev.splice,LT.pack,ab.pack,Nat.reduceAdd,Nat.reduceSub,Nat.reduceLeDiff,Nat.reduceLT,Nat.reduceEqDiff,LT.lo,ab.lo,pK]
    by_cases h1:m<w
    ·rw[decide_eq_true h1,if_pos h1]
     try simp -implicitDefEqProofs only[aF,reduceIte,av,az,aB,ax,an.un,aj.un,ai.un,LT.un,ab.un,ab.plain,LT.plain,dm,List.replicate,Ev.splice,LT.pack,ab.pack,Nat.reduceAdd,Nat.reduceSub,Nat.reduceLeDiff,Nat.reduceLT,Nat.reduceEqDiff,LT.lo,ab.lo,pK]
    ·rw[decide_eq_false h1,if_neg h1]
     obtain⟨aw,aH,aW,bq,bU,ek,lD⟩:=Pw he (show 0≤w by omega) (show w≤m by omega)
     simp only at aw aH aW bq bU ek
     have bF:y1 (a,m) w=((a*w/m,w),(a-a*w/m,m-w),0):=by
      unfold y1
      rw[if_pos aH,if_neg aO,if_neg h1]
     try simp -implicitDefEqProofs only[aF,reduceIte,av,az,aB,ax,an.un,aj.un,ai.un,LT.un,ab.un,ab.plain,LT.plain,dm,List.replicate,Ev.splice,LT.pack,ab.pack,Nat.reduceAdd,Nat.reduceSub,Nat.reduceLeDiff,Nat.reduceLT,Nat.reduceEqDiff,LT.lo,ab.lo,pK]
     rw[aab,bF]
     try simp -implicitDefEqProofs only[aF,reduceIte,av,az,aB,ax,an.un,aj.un,ai.un,LT.un,ab.un,ab.plain,LT.plain,dm,List.replicate,Ev.splice,LT.pack,ab.pack,Nat.reduceAdd,Nat.reduceSub,Nat.reduceLeDiff,Nat.reduceLT,Nat.reduceEqDiff,LT.lo,ab.lo,pK]
     rw[Zp xs _ (by omega)]
     try simp -implicitDefEqProofs only[aF,reduceIte,av,az,aB,ax,an.un,aj.un,ai.un,LT.un,ab.un,ab.plain,LT.plain,dm,List.replicate,Ev.splice,LT.pack,ab.pack,Nat.reduceAdd,Nat.reduceSub,Nat.reduceLeDiff,Nat.reduceLT,Nat.reduceEqDiff,LT.lo,ab.lo,pK]
     rw[aS (by rfl),aS (by rfl)]
     try simp -implicitDefEqProofs only[aF,reduceIte,av,az,aB,ax,an.un,aj.un,ai.un,LT.un,ab.un,ab.plain,LT.plain,dm,List.replicate,Ev.splice,LT.pack,ab.pack,Nat.reduceAdd,Nat.reduceSub,Nat.reduceLeDiff,Nat.reduceLT,Nat.reduceEqDiff,LT.lo,ab.lo,jQ]
 ·rw[decide_eq_false he,if_neg he]
  try simp -implicitDefEqProofs only[aF,reduceIte,av,az,aB,ax,an.un,aj.un,ai.un,LT.un,ab.un,ab.plain,LT.plain,dm,List.replicate,Ev.splice,LT.pack,ab.pack,Nat.reduceAdd,Nat.reduceSub,Nat.reduceLeDiff,Nat.reduceLT,Nat.reduceEqDiff,LT.lo,ab.lo,pK]
theorem V8(xs ys:List (Int×Int))(B C:Int)(iy:0≤B)(h6:0≤C):(∀x∈xs,0≤x.2∧x.2≤B)→(∀x∈ys,0≤x.2∧x.2≤C)→∀x∈c4 xs ys,0≤x.2∧x.2≤B+C:=by
 refine q4 (P:=fun xs ys=>(∀x∈xs,0≤x.2∧x.2≤B)→(∀x∈ys,0≤x.2∧x.2≤C)→∀x∈c4 xs ys,0≤x.2∧x.2≤B+C) (fun ys h1 h2 p aa=>by rw[oK]at aa;have:=h2 p aa;omega) (fun xs h1 h2 p aa=>by rw[pJ]at aa;have:=h1 p aa;omega) (fun x xs y ys h ih h1 h2 p aa=>?_) (fun x xs y ys h ih h1 h2 p aa=>?_) (fun x xs y ys h ih h1 h2 p aa=>?_) _ xs ys (Nat.le_refl _)
 ·rw[sg h]at aa
  rcases List.mem_cons.1 aa with rfl |aa
  ·have:=h1 p (by simp);omega
  ·exact ih (fun z bH=>h1 z (by simp[bH])) h2 p aa
 ·rw[sh h]at aa
  rcases List.mem_cons.1 aa with rfl |aa
  ·have:=h2 p (by simp);omega
  ·exact ih h1 (fun z bH=>h2 z (by simp[bH])) p aa
 ·rw[si h]at aa
  rcases List.mem_cons.1 aa with rfl |aa
  ·have:=h1 x (by simp);have:=h2 y (by simp);simp only;omega
  ·exact ih (fun z bH=>h1 z (by simp[bH])) (fun z bH=>h2 z (by simp[bH])) p aa
def ff(l:List bK):List (Int×Int):=l.foldl (fun acc x=>c4 acc x.2.2.2) []
def eZ(l:List bK):List (Int×Int):=l.map fun x=>(x.2.1,x.2.2.1)
theorem OG{l:List bK}{i:Nat}(h:i<l.length):ff (l.take (i+1))=c4 (ff (l.take i)) (jt l i).2.2.2:=by
 obtain⟨hi,he⟩:=List.getElem?_eq_some_iff.1 (sj h)
 unfold ff
 rw[←List.take_append_getElem hi,he,List.foldl_append]
 rfl
theorem Qe{l:List bK}{i:Nat}(h:i<l.length):cW (eZ (l.take (i+1)))=((cW (eZ (l.take i))).1+(jt l i).2.1,(cW (eZ (l.take i))).2+(jt l i).2.2.1):=by
 have hx:(eZ l)[i]? =some ((jt l i).2.1,(jt l i).2.2.1):=by unfold eZ;rw[List.getElem?_map,sj h];rfl
 have:=Qd hx
 unfold eZ at this⊢
 rw[List.map_take,List.map_take,this]
structure m0(l:List bK):Prop where
 len:l.length≤32
 all:∀x∈l,fL (x.2.1,x.2.2.1)=true∧x.2.2.1≠0∧g3 x.2.2.2=0∧b0 x.2.2.2=x.2.1
theorem FB{l:List bK}(h:jV l=0):m0 l:=⟨(OF h).1,fun x hx=>IH (Xx h x hx).2⟩
theorem m0.take{l:List bK}(h:m0 l)(i:Nat):m0 (l.take i):=⟨by have:=h.len;rw[List.length_take];omega,fun x hx=>h.all x (List.mem_of_mem_take hx)⟩
theorem Iq{l:List bK}(h:m0 l):∀i,i≤l.length→ku (ff (l.take i))∧(ff (l.take i)).length≤32*i∧(∀x∈ff (l.take i),0≤x.2∧x.2≤i*10737418240000)∧b0 (ff (l.take i))=(cW (eZ (l.take i))).1
 |0,_=>by
  have e:ff (l.take 0)=[]:=by simp[ff]
  rw[e]
  exact ⟨List.Pairwise.nil,by simp,fun x hx=>(by cases hx),by simp[b0,cW,eZ]⟩
 |i+1,hi=>by
  obtain⟨aw,aH,aW,bq⟩:=Iq h i (by omega)
  obtain⟨a1,a2,a3,a4⟩:=h.all _ (JO (show i<l.length by omega))
  obtain⟨b8,b2,mi,AP⟩:=mo a3
  rw[OG (by omega),Qe (by omega)]
  have hlen:=V4 (ff (l.take i)) (jt l i).2.2.2
  refine⟨Iw _ _ aw (A5 a3),by omega,fun x hx=>?_,by rw[Qb,bq,a4]⟩
  have:=V8 _ _ (i*10737418240000) 10737418240000 (by omega) (by omega) aW (Xt mi) x hx
  omega
theorem Px{l:List bK}(h:m0 l)(i:Nat)(hi:i≤l.length):0≤(cW (eZ (l.take i))).1∧(cW (eZ (l.take i))).1≤i*10737418240000∧0≤(cW (eZ (l.take i))).2∧(cW (eZ (l.take i))).2≤i*128849018880000:=by
 have:=Pu (xs:=eZ (l.take i)) (fun x hx=>by
  obtain⟨y,aK,rfl⟩:=List.mem_map.1 hx
  exact ((h.take i).all y aK).1)
 have e:(eZ (l.take i)).length=i:=by unfold eZ;rw[List.length_map,List.length_take];omega
 rw[e]at this
 exact this
def xo(S:au)(J:List (Int×Int)):Prop:=(S=⟨.nil,0,0,false⟩∧J=[])∨S=ae true aD J
theorem xo.read{S:au}{J:List (Int×Int)}{lp:Bool}{h:H}(ad:xo S J):bB lp h [.int .i64,.int .i64] S=some J:=by
 rcases ad with⟨rfl,rfl⟩|rfl
 ·exact mu
 ·exact jb rfl
theorem xo.afl{S:au}{J:List (Int×Int)}(ad:xo S J):S.len=J.length:=by
 rcases ad with⟨rfl,rfl⟩|rfl<;>rfl
theorem Gp{sl:List Slot}{id:Nat}{x:Int×Int×Int×au}(h:sl[id]? =some (aA x)):
  (∀s:au,H.aY (ag sl) (.aa id 4 3) [.slice s.a s.len s.cap s.tail]=some (ag (sl.set id (aA (x.1,x.2.1,x.2.2.1,s)))))∧(∀a,H.aY (ag sl) (.aa id 4 1) [.int .i64 a]=some (ag (sl.set id (aA (x.1,a,x.2.2.1,x.2.2.2)))))∧(∀m,H.aY (ag sl) (.aa id 4 2) [.int .i64 m]=some (ag (sl.set id (aA (x.1,x.2.1,m,x.2.2.2))))):=by
 refine⟨fun s=>?_,fun a=>?_,fun m=>?_⟩<;>(rw[eS (g:=4) h rfl (by simp)];rfl)
def n1 (l:List bK)(n:Int):bK×Int:=
 if jV l=0 then(if ck n=true then(if 32<(ff l).length then((0,0,0,[]),12)else if fL (cW (eZ l))=true then((n,(cW (eZ l)).1,(cW (eZ l)).2,ff l),0)else ((0,0,0,[]),15))else ((0,0,0,[]),2))else ((0,0,0,[]),1)
abbrev bX:Int×Int×Int×au:=(0,0,0,⟨.nil,0,0,false⟩)
theorem pF{f:Bool}{h:H}{l:List bK}:bB true h [.int .i64,.int .i64,.int .i64,.row [.int .i64,.int .i64]] (ae f [.int .i64,.int .i64,.int .i64,.row [.int .i64,.int .i64]] l)=some l:=hL rfl
theorem Zw{l:List bK}{n:Int}(af:m0 l):∃sl S,iter bd (pI.aZ (ae false aX l) (ag [aA bX])) (0,ag [aA bX,aA (n,0,0,⟨.nil,0,0,false⟩)])=some (.aP (),ag sl)∧sl[0]? =some (aA bX)∧sl[1]? =some (aA (n,(cW (eZ l)).1,(cW (eZ l)).2,S))∧xo S (ff l):=by
 have hlen:=af.len
 obtain⟨x,h1,sl,S,rfl,h2⟩:=BG (f:=pI.aZ (ae false aX l) (ag [aA bX])) (fun i st=>∃sl S,st=((i:Int),ag sl)∧sl[0]? =some (aA bX)∧sl[1]? =some (aA (n,(cW (eZ (l.take i))).1,(cW (eZ (l.take i))).2,S))∧xo S (ff (l.take i)))
  (fun x=>∃sl S,x=(.aP (),ag sl)∧sl[0]? =some (aA bX)∧sl[1]? =some (aA (n,(cW (eZ l)).1,(cW (eZ l)).2,S))∧xo S (ff l)) l.length (fun i st hi a6=>by
   obtain⟨sl,S,rfl,g0,aG,bh⟩:=a6
   have iw:0≤(i:Int)∧(i:Int)<(l.length:Int):=by omega
   have hx:=sj hi
   obtain⟨a1,a2,a3,a4⟩:=af.all _ (JO hi)
   obtain⟨b8,b2,mi,AP⟩:=mo a3
   obtain⟨ep,akM,gd,kh⟩:=Iq af i (by omega)
   have xG:=Px af i (by omega)
   have aE:=mq.1 a1
   simp only at aE
   have nb:=(List.getElem?_eq_some_iff.1 aG).1
   have Ui:=OG hi
   have Hw:=Qe hi
   generalize jt l i=x at*
   obtain⟨d,a,m,xs⟩:=x
   simp only at a1 a2 a3 a4 b8 b2 mi AP aE Ui Hw
   generalize eh:(cW (eZ (l.take i))).1=A at*
   generalize rY:(cW (eZ (l.take i))).2=M at*
   generalize ali:ff (l.take i)=J at*
   have Nj:(sl++[aA (d,a,m,ae false aD xs)])[0]? =some (aA bX):=by rw[List.getElem?_append_left (by omega),g0]
   have rQ:(sl++[aA (d,a,m,ae false aD xs)])[1]? =some (aA (n,A,M,S)):=by rw[List.getElem?_append_left nb,aG]
   have DD:(sl++[aA (d,a,m,ae false aD xs)])[sl.length]? =some (aA (d,a,m,ae false aD xs)):=by simp
   have fq:=jU (sl:=sl) (x:=(d,a,m,ae false aD xs))
   have bw:=ic rQ
   have bJ:=ic DD
   have w1:=(Gp rQ).1 (ae true aD (c4 J xs))
   generalize bt:sl++[aA (d,a,m,ae false aD xs)]=T at*
   have pe:1<T.length:=(List.getElem?_eq_some_iff.1 rQ).1
   have akc:sl.length<T.length:=(List.getElem?_eq_some_iff.1 DD).1
   have f1:(T.set 1 (aA (n,A,M,ae true aD (c4 J xs))))[1]? =some (aA (n,A,M,ae true aD (c4 J xs))):=by rw[List.getElem?_set_self pe]
   have f2:(T.set 1 (aA (n,A,M,ae true aD (c4 J xs))))[sl.length]? =some (aA (d,a,m,ae false aD xs)):=by rw[List.getElem?_set_ne (by omega),DD]
   have cy:=ic f1
   have dd:=ic f2
   have w2:=(Gp f1).2.1 (A+a)
   rw[List.set_set]at w2
   have bu:(T.set 1 (aA (n,A+a,M,ae true aD (c4 J xs))))[1]? =some (aA (n,A+a,M,ae true aD (c4 J xs))):=by rw[List.getElem?_set_self pe]
   have iA:=(Gp bu).2.2 (M+m)
   rw[List.set_set]at iA
   refine⟨(((i+1:Nat):Int),ag (T.set 1 (aA (n,A+a,M+m,ae true aD (c4 J xs))))), ?_,_,ae true aD (c4 J xs),rfl,by rw[List.getElem?_set_ne (by omega),Nj], ?_,.inr ?_⟩
   ·unfold pI.aZ
    simp only[aA,bZ,hg,hf]at fq bw bJ w1 w2 iA cy dd bt
    try simp -implicitDefEqProofs only[Int.toNat_natCast,bZ,aS iw]
    rw[decide_eq_true iw.2,cond_true,vQ hx]
    try simp -implicitDefEqProofs only[aF,reduceIte,av,az,aB,ax,an.un,aj.un,ai.un,LT.un,ab.un,ab.plain,LT.plain,b9,bR,List.length_cons,List.length_nil,Nat.zero_add]
    rw[fq]
    try simp -implicitDefEqProofs only[aF,reduceIte,av,az,aB,ax,an.un,aj.un,ai.un,LT.un,ab.un,ab.plain,LT.plain]
    rw[bw.2.2.2]
    try simp -implicitDefEqProofs only[aF,reduceIte,av,az,aB,ax,an.un,aj.un,ai.un,LT.un,ab.un,ab.plain,LT.plain]
    rw[bJ.2.2.2]
    try simp -implicitDefEqProofs only[aF,reduceIte,av,az,aB,ax,an.un,aj.un,ai.un,LT.un,ab.un,ab.plain,LT.plain]
    rw[bh.read]
    try simp -implicitDefEqProofs only[aF,reduceIte,av,az,aB,ax,an.un,aj.un,ai.un,LT.un,ab.un,ab.plain,LT.plain]
    rw[Zq J xs (fun x hx=>by have:=gd x hx;omega) (BI mi) (by omega) ep (A5 a3)]
    try simp -implicitDefEqProofs only[aF,reduceIte,av,az,aB,ax,an.un,aj.un,ai.un,LT.un,ab.un,ab.plain,LT.plain]
    rw[w1]
    try simp -implicitDefEqProofs only[aF,reduceIte,av,az,aB,ax,an.un,aj.un,ai.un,LT.un,ab.un,ab.plain,LT.plain]
    rw[cy.2.1]
    try simp -implicitDefEqProofs only[aF,reduceIte,av,az,aB,ax,an.un,aj.un,ai.un,LT.un,ab.un,ab.plain,LT.plain]
    rw[dd.2.1]
    try simp -implicitDefEqProofs only[aF,reduceIte,av,az,aB,ax,an.un,aj.un,ai.un,LT.un,ab.un,ab.plain,LT.plain]
    rw[cy.2.2.1]
    try simp -implicitDefEqProofs only[aF,reduceIte,av,az,aB,ax,an.un,aj.un,ai.un,LT.un,ab.un,ab.plain,LT.plain]
    rw[dd.2.2.1]
    try simp -implicitDefEqProofs only[aF,reduceIte,av,az,aB,ax,an.un,aj.un,ai.un,LT.un,ab.un,ab.plain,LT.plain]
    rw[i64_in (A+a) (by omega),i64_in (M+m) (by omega),w2]
    try simp -implicitDefEqProofs only[aF,reduceIte,av,az,aB,ax,an.un,aj.un,ai.un,LT.un,ab.un,ab.plain,LT.plain]
    rw[iA]
    try simp -implicitDefEqProofs only[aF,reduceIte,av,az,aB,ax,an.un,aj.un,ai.un,LT.un,ab.un,ab.plain,LT.plain]
    rw[aS (QJ (by omega)),dO (by omega)]
    rfl
   ·rw[List.getElem?_set_self pe,Hw]
   ·rw[Ui]) (fun st a6=>by
   obtain⟨sl,S,rfl,g0,aG,bh⟩:=a6
   rw[List.take_length]at aG bh
   refine⟨_, ?_,sl,S,rfl,g0,aG,bh⟩
   unfold pI.aZ
   try simp -implicitDefEqProofs only[bZ]
   rw[decide_eq_false (by omega),cond_false]) bd 0 (0,ag [aA bX,aA (n,0,0,⟨.nil,0,0,false⟩)]) (by omega) ⟨_,_,rfl,rfl,rfl,.inl ⟨rfl,by simp[ff]⟩⟩ (by have:=dj (n:=l.length) (by omega);omega)
 exact ⟨sl,S,h1,h2⟩
theorem aaX(l:List bK)(n:Int)(aq:l.length<2^62):yj l n=some (n1 l n):=by
 obtain⟨j,aL⟩:=Jh l aq
 unfold yj pI n1
 try simp -implicitDefEqProofs only[aF,reduceIte,av,az,aB,ax,an.un,aj.un,ai.un,LT.un,ab.un,ab.plain,LT.plain,hj,b9,bR,List.nil_append,List.length_nil,List.length_cons,Nat.zero_add,List.cons_append,pF]
 rw[aL]
 try simp -implicitDefEqProofs only[aF,reduceIte,av,az,aB,ax,an.un,aj.un,ai.un,LT.un,ab.un,ab.plain,LT.plain]
 have z0:[aA bX][0]? =some (aA bX):=rfl
 have NU:=rj (y:=bX) z0
 have NV:=hl z0
 simp only[aA,List.set_cons_zero]at NU NV
 by_cases he:jV l=0
 ·rw[decide_eq_true he,if_pos he]
  try simp -implicitDefEqProofs only[aF,reduceIte,av,az,aB,ax,an.un,aj.un,ai.un,LT.un,ab.un,ab.plain,LT.plain]
  rw[R3]
  try simp -implicitDefEqProofs only[aF,reduceIte,av,az,aB,ax,an.un,aj.un,ai.un,LT.un,ab.un,ab.plain,LT.plain]
  cases aT:ck n with
  |false=>
   try simp -implicitDefEqProofs only[aF,reduceIte,av,az,aB,ax,an.un,aj.un,ai.un,LT.un,ab.un,ab.plain,LT.plain,Bool.false_eq_true]
   rw[NU]
   try simp -implicitDefEqProofs only[aF,reduceIte,av,az,aB,ax,an.un,aj.un,ai.un,LT.un,ab.un,ab.plain,LT.plain]
   rw[NV]
   try simp -implicitDefEqProofs only[aF,reduceIte,av,az,aB,ax,an.un,aj.un,ai.un,LT.un,ab.un,ab.plain,LT.plain]
  |true=>
   try simp -implicitDefEqProofs only[aF,reduceIte,av,az,aB,ax,an.un,aj.un,ai.un,LT.un,ab.un,ab.plain,LT.plain,eq_self]
   have fq:=jU (sl:=[aA bX]) (x:=(n,0,0,⟨.nil,0,0,false⟩))
   simp only[aA,List.cons_append,List.nil_append,List.length_cons,List.length_nil,Nat.zero_add]at fq
   rw[fq]
   try simp -implicitDefEqProofs only[aF,reduceIte,av,az,aB,ax,an.un,aj.un,ai.un,LT.un,ab.un,ab.plain,LT.plain]
   obtain⟨sl,S,m7,g0,aG,bh⟩:=Zw (n:=n) (FB he)
   simp only[aA]at m7
   rw[m7]
   try simp -implicitDefEqProofs only[aF,reduceIte,av,az,aB,ax,an.un,aj.un,ai.un,LT.un,ab.un,ab.plain,LT.plain]
   rw[R2 aG]
   try simp -implicitDefEqProofs only[aF,reduceIte,av,az,aB,ax,an.un,aj.un,ai.un,LT.un,ab.un,ab.plain,LT.plain,Pv]
   have aE:=Px (FB he) l.length (Nat.le_refl _)
   rw[List.take_length]at aE
   rw[R1 _ (by simp)]
   generalize bt:cW (eZ l)=ah1 at*
   obtain⟨A,M⟩:=ah1
   simp only at aE aG
   have o1:sumOf [(A,M)]=if fL (A,M)=true then((A,M),0)else ((0,0),1):=by
    have ad:cW [(A,M)]=(A,M):=by simp[cW]
    unfold sumOf
    rw[if_neg (by simp),ad]
    cases h:fL (A,M)<;>simp[h]
   rw[o1]
   have Uj:∀y:Int×Int,H.aY (ag (sl++[Slot.own [V.int .i64 0,V.int .i64 0] 2])) (.aa sl.length 2 0) [.int .i64 y.1,.int .i64 y.2]=some (ag (sl++[a_ y])):=fun y=>nM
   have Nj:∀y:Int×Int,(sl++[a_ y])[0]? =some (aA bX):=fun y=>by rw[List.getElem?_append_left (List.getElem?_eq_some_iff.1 g0).1,g0]
   have rQ:∀y:Int×Int,(sl++[a_ y])[1]? =some (aA (n,A,M,S)):=fun y=>by rw[List.getElem?_append_left (List.getElem?_eq_some_iff.1 aG).1,aG]
   have u2:∀y:Int×Int,0<(sl++[a_ y]).length:=fun y=>by simp
   have fin:∀(y:Int×Int) (x:Int×Int×Int×au),H.aY (ag (sl++[a_ y])) (.aa 0 4 0) [.int .i64 x.1,.int .i64 x.2.1,.int .i64 x.2.2.1,.slice x.2.2.2.a x.2.2.2.len x.2.2.2.cap x.2.2.2.tail]=some (ag ((sl++[a_ y]).set 0 (aA x)))∧ah (.agg [.int .i64,.int .i64,.int .i64,.slice]) (ag ((sl++[a_ y]).set 0 (aA x))) (.aa 0 4 0)=some x:=fun y x=>⟨rj (Nj y),hl (by rw[List.getElem?_set_self (u2 y)])⟩
   have pf:=bh.afl
   by_cases aa:fL (A,M)=true
   ·rw[if_pos aa]
    try simp -implicitDefEqProofs only[aF,reduceIte,av,az,aB,ax,an.un,aj.un,ai.un,LT.un,ab.un,ab.plain,LT.plain,b9,bR]
    rw[Uj (A,M)]
    try simp -implicitDefEqProofs only[aF,reduceIte,av,az,aB,ax,an.un,aj.un,ai.un,LT.un,ab.un,ab.plain,LT.plain]
    rw[(ic (rQ _)).2.2.2]
    try simp -implicitDefEqProofs only[aF,reduceIte,av,az,aB,ax,an.un,aj.un,ai.un,LT.un,ab.un,ab.plain,LT.plain,pf]
    by_cases c2:32<(ff l).length
    ·rw[decide_eq_true (show(32:Int)<((ff l).length:Int) by omega),if_pos c2]
     try simp -implicitDefEqProofs only[aF,reduceIte,av,az,aB,ax,an.un,aj.un,ai.un,LT.un,ab.un,ab.plain,LT.plain]
     rw[(fin _ bX).1]
     try simp -implicitDefEqProofs only[aF,reduceIte,av,az,aB,ax,an.un,aj.un,ai.un,LT.un,ab.un,ab.plain,LT.plain]
     rw[(fin _ bX).2]
     try simp -implicitDefEqProofs only[aF,reduceIte,av,az,aB,ax,an.un,aj.un,ai.un,LT.un,ab.un,ab.plain,LT.plain]
    ·rw[decide_eq_false (show ¬(32:Int)<((ff l).length:Int) by omega),if_neg c2,if_pos aa]
     try simp -implicitDefEqProofs only[aF,reduceIte,av,az,aB,ax,an.un,aj.un,ai.un,LT.un,ab.un,ab.plain,LT.plain,eq_self,decide_true]
     rw[hl (rQ _)]
     try simp -implicitDefEqProofs only[aF,reduceIte,av,az,aB,ax,an.un,aj.un,ai.un,LT.un,ab.un,ab.plain,LT.plain]
     rw[(fin _ (n,A,M,S)).1]
     try simp -implicitDefEqProofs only[aF,reduceIte,av,az,aB,ax,an.un,aj.un,ai.un,LT.un,ab.un,ab.plain,LT.plain]
     rw[(fin _ (n,A,M,S)).2]
     try simp -implicitDefEqProofs only[aF,reduceIte,av,az,aB,ax,an.un,aj.un,ai.un,LT.un,ab.un,ab.plain,LT.plain]
     rw[bh.read]
     try simp -implicitDefEqProofs only[aF,reduceIte,av,az,aB,ax,an.un,aj.un,ai.un,LT.un,ab.un,ab.plain,LT.plain]
   ·rw[if_neg aa]
    try simp -implicitDefEqProofs only[aF,reduceIte,av,az,aB,ax,an.un,aj.un,ai.un,LT.un,ab.un,ab.plain,LT.plain,b9,bR]
    rw[Uj (0,0)]
    try simp -implicitDefEqProofs only[aF,reduceIte,av,az,aB,ax,an.un,aj.un,ai.un,LT.un,ab.un,ab.plain,LT.plain]
    rw[(ic (rQ _)).2.2.2]
    try simp -implicitDefEqProofs only[aF,reduceIte,av,az,aB,ax,an.un,aj.un,ai.un,LT.un,ab.un,ab.plain,LT.plain,pf]
    by_cases c2:32<(ff l).length
    ·rw[decide_eq_true (show(32:Int)<((ff l).length:Int) by omega),if_pos c2]
     try simp -implicitDefEqProofs only[aF,reduceIte,av,az,aB,ax,an.un,aj.un,ai.un,LT.un,ab.un,ab.plain,LT.plain]
     rw[(fin _ bX).1]
     try simp -implicitDefEqProofs only[aF,reduceIte,av,az,aB,ax,an.un,aj.un,ai.un,LT.un,ab.un,ab.plain,LT.plain]
     rw[(fin _ bX).2]
     try simp -implicitDefEqProofs only[aF,reduceIte,av,az,aB,ax,an.un,aj.un,ai.un,LT.un,ab.un,ab.plain,LT.plain]
    ·rw[decide_eq_false (show ¬(32:Int)<((ff l).length:Int) by omega),if_neg c2,if_neg aa,decide_eq_false (show ¬(1:Int)=0 by omega)]
     try simp -implicitDefEqProofs only[aF,reduceIte,av,az,aB,ax,an.un,aj.un,ai.un,LT.un,ab.un,ab.plain,LT.plain]
     rw[(fin _ bX).1]
     try simp -implicitDefEqProofs only[aF,reduceIte,av,az,aB,ax,an.un,aj.un,ai.un,LT.un,ab.un,ab.plain,LT.plain]
     rw[(fin _ bX).2]
     try simp -implicitDefEqProofs only[aF,reduceIte,av,az,aB,ax,an.un,aj.un,ai.un,LT.un,ab.un,ab.plain,LT.plain]
 ·rw[decide_eq_false he,if_neg he]
  try simp -implicitDefEqProofs only[aF,reduceIte,av,az,aB,ax,an.un,aj.un,ai.un,LT.un,ab.un,ab.plain,LT.plain]
  rw[NU]
  try simp -implicitDefEqProofs only[aF,reduceIte,av,az,aB,ax,an.un,aj.un,ai.un,LT.un,ab.un,ab.plain,LT.plain]
  rw[NV]
  try simp -implicitDefEqProofs only[aF,reduceIte,av,az,aB,ax,an.un,aj.un,ai.un,LT.un,ab.un,ab.plain,LT.plain]
abbrev cu(F L R:au)(d e:Int):Slot:=.own [.slice F.a F.len F.cap F.tail,.slice L.a L.len L.cap L.tail,.slice R.a R.len R.cap R.tail,.int .i64 d,.int .i64 e] 5
section
variable{sl:List Slot}{v:Nat}{F L R:au}{d e:Int}
theorem St (h:sl[v]? =some (cu F L R d e)):ah (.leaf .slice) (ag sl) (.aa v 5 0)=some F:=by rw[e5 (g:=5) h rfl];rfl
theorem wj(h:sl[v]? =some (cu F L R d e)):ah (.leaf .slice) (ag sl) (.aa v 5 1)=some L:=by rw[e5 (g:=5) h rfl];rfl
theorem acD(h:sl[v]? =some (cu F L R d e)):ah (.leaf .slice) (ag sl) (.aa v 5 2)=some R:=by rw[e5 (g:=5) h rfl];rfl
theorem zC(h:sl[v]? =some (cu F L R d e)):ah (.leaf (.int .i64)) (ag sl) (.aa v 5 4)=some e:=by rw[e5 (g:=5) h rfl];rfl
theorem acE(h:sl[v]? =some (cu F L R d e)):ah (.agg [.slice,.slice,.slice,.int .i64]) (ag sl) (.aa v 5 0)=some (F,L,R,d):=by
 rw[oQ (by simp),fO,h]
 rfl
theorem Su(h:sl[v]? =some (cu F L R d e))(S:au):H.aY (ag sl) (.aa v 5 0) [.slice S.a S.len S.cap S.tail]=some (ag (sl.set v (cu S L R d e))):=by rw[eS (g:=5) h rfl (by simp)];rfl
theorem Sv(h:sl[v]? =some (cu F L R d e))(S:au):H.aY (ag sl) (.aa v 5 1) [.slice S.a S.len S.cap S.tail]=some (ag (sl.set v (cu F S R d e))):=by rw[eS (g:=5) h rfl (by simp)];rfl
theorem acF(h:sl[v]? =some (cu F L R d e))(S:au):H.aY (ag sl) (.aa v 5 2) [.slice S.a S.len S.cap S.tail]=some (ag (sl.set v (cu F L S d e))):=by rw[eS (g:=5) h rfl (by simp)];rfl
theorem acG(h:sl[v]? =some (cu F L R d e))(n:Int):H.aY (ag sl) (.aa v 5 3) [.int .i64 n]=some (ag (sl.set v (cu F L R n e))):=by rw[eS (g:=5) h rfl (by simp)];rfl
theorem acH(h:sl[v]? =some (cu F L R d e))(n:Int):H.aY (ag sl) (.aa v 5 4) [.int .i64 n]=some (ag (sl.set v (cu F L R d n))):=by rw[eS (g:=5) h rfl (by simp)];rfl
theorem n2(h:sl[v]? =some (cu F L R d e))(s:Slot):(sl.set v s)[v]? =some s:=by
 rw[List.getElem?_set_self (List.getElem?_eq_some_iff.1 h).1]
theorem oL{i:Nat}{s:Slot}(h:sl[i]? =some s):sl.set i s=sl:=by
 apply List.ext_getElem?
 intro j
 by_cases aL:i=j
 ·subst aL
  rw[List.getElem?_set_self (List.getElem?_eq_some_iff.1 h).1,h]
 ·rw[List.getElem?_set_ne aL]
def m8(e n:Int):Int:=if e=0 then n else e
theorem yL(h:sl[v]? =some (cu F L R d e))(n:Int):mm (.aa v 5 0) n (ag sl)=some (!decide (m8 e n=0),ag (sl.set v (cu F L R d (m8 e n)))):=by
 unfold mm m8
 try simp -implicitDefEqProofs only[V.add,Nat.zero_add,aF,reduceIte,av,az,aB,ax,an.un,aj.un,ai.un,LT.un,ab.un,ab.plain,LT.plain]
 rw[aS (by rfl),aS (by rfl),zC h]
 try simp -implicitDefEqProofs only[aF,reduceIte,av,az,aB,ax,an.un,aj.un,ai.un,LT.un,ab.un,ab.plain,LT.plain]
 by_cases he:e=0
 ·rw[decide_eq_true he,cond_true,aS (by rfl),aS (by rfl),acH h]
  try simp -implicitDefEqProofs only[aF,reduceIte,av,az,aB,ax,an.un,aj.un,ai.un,LT.un,ab.un,ab.plain,LT.plain]
  rw[aS (by rfl),aS (by rfl),zC (n2 h _),if_pos he]
  try simp -implicitDefEqProofs only[aF,reduceIte,av,az,aB,ax,an.un,aj.un,ai.un,LT.un,ab.un,ab.plain,LT.plain]
 ·rw[decide_eq_false he,cond_false]
  try simp -implicitDefEqProofs only[aF,reduceIte,av,az,aB,ax,an.un,aj.un,ai.un,LT.un,ab.un,ab.plain,LT.plain]
  rw[aS (by rfl),aS (by rfl),zC h,if_neg he,oL h]
  try simp -implicitDefEqProofs only[aF,reduceIte,av,az,aB,ax,an.un,aj.un,ai.un,LT.un,ab.un,ab.plain,LT.plain]
end
theorem aah(x:bK)(n:Int)(hx:ck x.1=true)(aM:ck n=true):tN x n=some (x.1-n):=by
 have h1:=uf.1 hx
 have h2:=uf.1 aM
 unfold tN AZ
 try simp -implicitDefEqProofs only[aF,reduceIte,av,az,aB,ax,an.un,aj.un,ai.un,LT.un,ab.un,ab.plain,LT.plain,dm,List.replicate,Ev.splice,LT.pack,ab.pack,Nat.reduceAdd,Nat.reduceSub,Nat.reduceLeDiff,Nat.reduceLT,Nat.reduceEqDiff,LT.lo,ab.lo]
 rw[IntWalk.i64_in _ (by omega)]
abbrev dr:=Int×Int×Int×au
abbrev cB:List ab:=[.int .i64,.int .i64,.int .i64,.slice]
def hD(S:au)(y:List (Int×Int)):Prop:=∀lp h,bB lp h aD S=some y
theorem hD.row{y:List (Int×Int)}:hD (ae true aD y) y:=fun lp h=>jb rfl
theorem hD.nil:hD ⟨.nil,0,0,false⟩ []:=fun lp h=>mu
theorem call173{T:Table}(bt:T.dg.fn 173=tN.p.e)(g:dr){y:List (Int×Int)}(aK:hD g.2.2.2 y)(n:Int)(hx:ck g.1=true)(aM:ck n=true){R:Type}(k:V→H→Option R)(h:H):
  eE T.dg (.func 173 []) [.agg [.int .i64 g.1,.int .i64 g.2.1,.int .i64 g.2.2.1,.slice g.2.2.2.a g.2.2.2.len g.2.2.2.cap g.2.2.2.tail],.int .i64 n] h k=k (.int .i64 (g.1-n)) h:=by
 simp only[eE,bt,tN.p,cF.low,mE,List.append_nil,yz,az,aB,ax]
 have kl:∀n:Int,cE true h (.int .i64) (.int .i64 n)=some n:=fun n=>rfl
 have af:cE true h (.row aD) (.slice g.2.2.2.a g.2.2.2.len g.2.2.2.cap g.2.2.2.tail)=some y:=aK true h
 simp only[kl,af,Option.bind_some]
 rw[aah (g.1,g.2.1,g.2.2.1,y) n hx aM]
 rfl
abbrev acI:au:=⟨.lp true [] 0,0,0,false⟩
def c_(sl:List Slot)(xs:List dr)(s:au)(o:Option Nat):Prop:=
 match o with
 |none=>xs=[]∧(s=uB∨s=acI)
 |some id=>∃(c:Nat) (eU:List V),0<c∧s=⟨.aa id (c*4) 0,xs.length,c,true⟩∧sl[id]? =some (.own (bx cB xs++eU) 4)∧xs.length*4+eU.length=c*4
theorem k3(xs:List dr):(bx cB xs).length=xs.length*4:=hK (ls:=cB) xs
theorem c_.lt{sl:List Slot}{xs:List dr}{s:au}{id:Nat}(h:c_ sl xs s (some id)):id<sl.length:=by
 obtain⟨c,eU,h1,h2,h3,aI⟩:=h
 exact (List.getElem?_eq_some_iff.1 h3).1
theorem c_.frame{sl aC:List Slot}{xs:List dr}{s:au}{o:Option Nat}(h:c_ sl xs s o)(ak:∀id,o=some id→aC[id]? =sl[id]?):c_ aC xs s o:=by
 cases o with
 |none=>exact h
 |some id=>
  obtain⟨c,eU,h1,h2,h3,aI⟩:=h
  exact ⟨c,eU,h1,h2,by rw[ak id rfl];exact h3,aI⟩
theorem c_.len{sl:List Slot}{xs:List dr}{s:au}{o:Option Nat}(h:c_ sl xs s o):s.len=xs.length:=by
 cases o with
 |none=>obtain⟨rfl,rfl |rfl⟩:=h<;>rfl
 |some id=>obtain⟨c,eU,h1,rfl,h3,aI⟩:=h;rfl
theorem FC(x:dr):LT.lo true cB x=[.int .i64 x.1,.int .i64 x.2.1,.int .i64 x.2.2.1,.slice x.2.2.2.a x.2.2.2.len x.2.2.2.cap x.2.2.2.tail]:=rfl
theorem IZ(xs:List dr)(i:Nat):(bx cB xs).drop (i*4)=bx cB (xs.drop i):=yn (ls:=cB) xs i
def dQ:List dr→List bK→Prop
 |[],xs=>xs=[]
 |g::gs,xs=>∃x ot,xs=x::ot∧g.1=x.1∧g.2.1=x.2.1∧g.2.2.1=x.2.2.1∧hD g.2.2.2 x.2.2.2∧dQ gs ot
theorem dQ.len:∀{gs:List dr} {xs:List bK},dQ gs xs→gs.length=xs.length
 |[],xs,h=>by have:xs=[]:=h;subst this;rfl
 |g::gs,xs,h=>by obtain⟨x,ot,rfl,_,_,_,_,h⟩:=h;simp[dQ.len h]
theorem dQ.rows:∀(xs:List bK),dQ (xs.map (dY true)) xs
 |[]=>rfl
 |x::xs=>⟨x,xs,rfl,rfl,rfl,rfl,hD.row,dQ.rows xs⟩
theorem dQ.mem:∀{gs:List dr} {xs:List bK},dQ gs xs→∀g∈gs,∃x∈xs,g.1=x.1∧g.2.1=x.2.1∧g.2.2.1=x.2.2.1∧hD g.2.2.2 x.2.2.2
 |[],xs,h,g,aQ=>by cases aQ
 |g::gs,xs,h,kP,aQ=>by
  obtain⟨x,ot,rfl,h1,h2,h3,aI,h⟩:=h
  rcases List.mem_cons.1 aQ with rfl |aQ
  ·exact ⟨x,by simp,h1,h2,h3,aI⟩
  ·obtain⟨y,aK,k⟩:=dQ.mem h kP aQ
   exact ⟨y,by simp[aK],k⟩
theorem dQ.keys:∀{gs:List dr} {xs:List bK},dQ gs xs→gs.map (·.1)=xs.map (·.1)
 |[],xs,h=>by have:xs=[]:=h;subst this;rfl
 |g::gs,xs,h=>by obtain⟨x,ot,rfl,h1,_,_,_,h⟩:=h;simp[h1,dQ.keys h]
theorem aaY{g:dr}{x:bK}(h1:g.1=x.1)(h2:g.2.1=x.2.1)(h3:g.2.2.1=x.2.2.1)(aI:hD g.2.2.2 x.2.2.2)(lp:Bool)(h:H):ax lp h aX (LT.lo true cB g)=some x:=by
 obtain⟨a,b,c,d⟩:=g
 obtain⟨cb,c6,bg,rW⟩:=x
 simp only at h1 h2 h3 aI
 subst h1 h2 h3
 have ba:cE lp h (.row aD) (.slice d.a d.len d.cap d.tail)=some rW:=aI lp h
 have kl:∀n:Int,cE lp h (.int .i64) (ab.lo true (.int .i64) n)=some n:=fun n=>rfl
 simp only[LT.lo,ax,kl,Option.bind_some]
 have bp:cE lp h (.row [.int .i64,.int .i64]) (ab.lo true .slice d)=some rW:=ba
 rw[bp]
 rfl
theorem Kf{lp:Bool}{h:H}:∀{gs:List dr} {xs:List bK},dQ gs xs→jE (fun c=>ax lp h aX c) (gs.map fun x=>LT.lo true cB x)=some xs
 |[],xs,h=>by have:xs=[]:=h;subst this;rfl
 |g::gs,xs,hh=>by
  obtain⟨x,ot,rfl,h1,h2,h3,aI,af⟩:=hh
  simp only[List.map_cons,jE,aaY h1 h2 h3 aI lp h,Option.bind_some,Kf af]
theorem c_.read{lp:Bool}{sl:List Slot}{gs:List dr}{xs:List bK}{s:au}{o:Option Nat}(h:c_ sl gs s o)(af:dQ gs xs):bB lp (ag sl) aX s=some xs:=by
 have hlen:=af.len
 cases o with
 |none=>
  obtain⟨rfl,h⟩:=h
  have:xs=[]:=af
  subst this
  rcases h with rfl |rfl<;>exact mu
 |some id=>
  obtain⟨c,eU,h1,rfl,h3,aI⟩:=h
  cases gs with
  |nil=>
   have:xs=[]:=af
   subst this
   exact mu
  |cons x gs=>
   have aG:bB lp (ag sl) aX ⟨.aa id (c*4) 0,(x::gs).length,c,true⟩=jE (fun c=>ax lp (ag sl) aX c) (chunks cB.length (x::gs).length (bx cB (x::gs))):=by
    simp only[bB,cE,V.readable,cond_true,H.fv,H.from,fO,h3,Option.getD_some]
    rw[if_pos (show(bx cB (x::gs)++eU).length=c*4 by rw[List.length_append,k3];exact aI),List.drop_zero,Option.bind_some]
    rw[if_neg (by simp),if_pos ⟨by rw[List.length_append,k3];show(x::gs).length*4≤_;omega,by simp⟩]
    rw[show aX.length=4 from rfl,List.take_append_of_le_length (by rw[k3];exact Nat.le_refl _),List.take_of_length_le (by rw[k3];exact Nat.le_refl _),Option.bind_some]
    rfl
   rw[aG,Bk]
   exact Kf af
theorem JP{lp t:Bool}{gs:List dr}{xs:List bK}{h:H}(af:dQ gs xs):bB lp h aX ⟨.lp true (bx cB gs) 0,gs.length,gs.length,t⟩=some xs:=by
 cases gs with
 |nil=>
  have:xs=[]:=af
  subst this
  exact mu
 |cons x gs=>
  have aG:bB lp h aX ⟨.lp true (bx cB (x::gs)) 0,(x::gs).length,(x::gs).length,t⟩=jE (fun c=>ax lp h aX c) (chunks cB.length (x::gs).length (bx cB (x::gs))):=by
   have aU:V.readable lp (.lp true (bx cB (x::gs)) 0)=true:=by cases lp<;>rfl
   simp only[bB,cE,aU,cond_true,H.fv,H.from]
   rw[List.drop_zero,Option.bind_some]
   rw[if_neg (by simp),if_pos ⟨by rw[k3];exact Nat.le_refl _,by simp⟩]
   rw[show aX.length=4 from rfl,List.take_of_length_le (by rw[k3];exact Nat.le_refl _),Option.bind_some]
   rfl
  rw[aG,Bk]
  exact Kf af
theorem c_.get{sl:List Slot}{xs:List dr}{s:au}{o:Option Nat}{i:Nat}{x:dr}(h:c_ sl xs s o)(hx:xs[i]? =some x):ah (.agg [.int .i64,.int .i64,.int .i64,.slice]) (ag sl) (V.add s.a (i*4))=some x:=by
 cases o with
 |none=>obtain⟨rfl,_⟩:=h;cases hx
 |some id=>
  obtain⟨c,eU,h1,rfl,h3,aI⟩:=h
  obtain⟨hi,rfl⟩:=List.getElem?_eq_some_iff.1 hx
  simp only[V.add,Nat.zero_add]
  rw[oQ (by simp),fO,h3]
  simp only[Option.getD_some]
  rw[if_pos ⟨by rw[List.length_append,k3];exact aI,by rw[List.length_append,k3];show 4≤_;omega⟩,List.drop_append_of_le_length (by rw[k3];omega),IZ,List.drop_eq_getElem_cons hi,bx,List.flatMap_cons]
  rfl
theorem Xy{cs eU vs:List V}{o:Nat}(h:o+vs.length≤cs.length):Ev.splice (cs++eU) o vs=Ev.splice cs o vs++eU:=by
 unfold Ev.splice
 rw[List.take_append_of_le_length (by omega),List.drop_append_of_le_length (by omega)]
 simp only[List.append_assoc]
theorem c_.set{sl:List Slot}{xs:List dr}{s:au}{o:Option Nat}{i:Nat}(x:dr)(h:c_ sl xs s o)(hi:i<xs.length):∃aC,H.aY (ag sl) (V.add s.a (i*4)) [.int .i64 x.1,.int .i64 x.2.1,.int .i64 x.2.2.1,.slice x.2.2.2.a x.2.2.2.len x.2.2.2.cap x.2.2.2.tail]=some (ag aC)∧c_ aC (xs.set i x) s o∧aC.length=sl.length∧∀j,o≠some j→aC[j]? =sl[j]?:=by
 cases o with
 |none=>obtain⟨rfl,_⟩:=h;simp at hi
 |some id=>
  obtain⟨c,eU,h1,rfl,h3,aI⟩:=h
  have aT:=(List.getElem?_eq_some_iff.1 h3).1
  have ao:=k3 xs
  refine⟨sl.set id (.own (bx cB (xs.set i x)++eU) 4), ?_,⟨c,eU,h1,by rw[List.length_set], ?_,by rw[List.length_set];exact aI⟩,by simp,fun j aL=>?_⟩
  ·simp only[V.add,Nat.zero_add]
   rw[eS (g:=c*4) h3 (by rw[List.length_append,ao];exact aI) (by show i*4+4≤_;omega),Xy (by rw[ao];show i*4+4≤_;omega)]
   rw[←FC,show i*4=i*cB.length from rfl,OO (ls:=cB) xs i x hi]
  ·rw[List.getElem?_set_self aT]
  ·rw[List.getElem?_set_ne (fun e=>aL (by rw[e]))]
theorem c_.append{sl:List Slot}{xs:List dr}{s:au}{o:Option Nat}(x:dr)(h:c_ sl xs s o)(aq:xs.length≤2^20):∃bc aC id,c7 (ag sl) none 4 48 s [.int .i64 x.1,.int .i64 x.2.1,.int .i64 x.2.2.1,.slice x.2.2.2.a x.2.2.2.len x.2.2.2.cap x.2.2.2.tail] 1=some (bc,ag aC)∧c_ aC (xs++[x]) bc (some id)∧(o=some id∨o=none∧id=sl.length)∧sl.length≤aC.length∧∀j,o≠some j→j<sl.length→aC[j]? =sl[j]?:=by
 rw[←FC]
 cases o with
 |none=>
  obtain⟨rfl,ad⟩:=h
  refine⟨⟨.aa sl.length (1*4) 0,1,1,true⟩,sl++[.own (LT.lo true cB x) 4],sl.length, ?_,⟨1,[],by omega,rfl, ?_,rfl⟩,.inr ⟨rfl,rfl⟩,by simp,fun j _ aL=>List.getElem?_append_left aL⟩
  ·rcases ad with rfl |rfl
   ·simp only[c7,iF,uB,newAt]
    rw[if_neg (by omega),aS ⟨by unfold ei;omega,by omega⟩,if_pos ⟨trivial,trivial,trivial⟩,b9]
    rfl
   ·simp only[c7,iF,newAt]
    rw[if_neg (by omega),aS ⟨by unfold ei;omega,by omega⟩,if_pos ⟨trivial,trivial,trivial⟩,b9]
    rfl
  ·rw[List.getElem?_append_right (Nat.le_refl _),Nat.sub_self]
   simp[bx]
 |some id=>
  obtain⟨c,eU,h1,rfl,h3,aI⟩:=h
  have aT:=(List.getElem?_eq_some_iff.1 h3).1
  have ao:=k3 xs
  have hY:(LT.lo true cB x).length=4:=rfl
  have ha:bx cB (xs++[x])=bx cB xs++LT.lo true cB x:=by simp[bx]
  by_cases k8:xs.length+1≤c
  ·refine⟨⟨.aa id (c*4) 0,xs.length+1,c,true⟩,sl.set id (.own (bx cB (xs++[x])++eU.drop 4) 4),id, ?_,⟨c,eU.drop 4,h1,by simp, ?_,by simp;omega⟩,.inl rfl,by simp,fun j aL bn=>?_⟩
   ·simp only[c7,iF,fO,h3,Option.getD_some]
    rw[if_neg (by omega),aS ⟨by unfold ei;omega,by omega⟩,if_neg (by omega),if_pos k8,Nat.zero_add,eS (g:=c*4) h3 (by rw[List.length_append,ao];exact aI) (by rw[hY];omega),Option.bind_some]
    have:Ev.splice (bx cB xs++eU) (xs.length*4) (LT.lo true cB x)=bx cB (xs++[x])++eU.drop 4:=by
     unfold Ev.splice
     rw[hY,List.take_append_of_le_length (by omega),List.take_of_length_le (by omega),List.drop_append,List.drop_eq_nil_of_le (by omega),List.nil_append,ao,Nat.add_sub_cancel_left,ha]
    rw[this]
   ·rw[List.getElem?_set_self aT]
   ·rw[List.getElem?_set_ne (fun e=>aL (by rw[e]))]
  ·have cN:c=xs.length:=by omega
   have DM:eU=[]:=List.eq_nil_of_length_eq_zero (by omega)
   subst DM
   refine⟨⟨.aa id ((xs.length+1)*4) 0,xs.length+1,xs.length+1,true⟩,sl.set id (.own (bx cB (xs++[x])++[]) 4),id, ?_,⟨xs.length+1,[],by omega,by simp, ?_,by simp⟩,.inl rfl,by simp,fun j aL bn=>?_⟩
   ·simp only[c7,iF,fO,h3,Option.getD_some]
    rw[if_neg (by omega),aS ⟨by unfold ei;omega,by omega⟩,if_neg (by omega),if_neg k8,if_pos ⟨trivial,trivial,by rw[List.length_append,ao];exact aI,trivial,trivial,by omega,by omega⟩]
    rw[k5 aT,List.append_nil,List.take_of_length_le (by omega),ha,List.append_nil]
   ·rw[List.getElem?_set_self aT]
   ·rw[List.getElem?_set_ne (fun e=>aL (by rw[e]))]
end Go.Proofs.YtlphgijokknjhaaGreat
