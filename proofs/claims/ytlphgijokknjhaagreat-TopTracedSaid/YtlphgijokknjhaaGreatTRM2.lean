/- The evaluator, the functions of this seat and what they compute: some texts in one, in short names. Conditions: those of each law. -/
import Derived.Test.YtlphgijokknjhaaGreatProg
import Derived.Shelf.SlIterI.Nil
import Derived.Shelf.SlIter.Nil
import Derived.Shelf.SortM.Plain
import Derived.Shelf.SortM.SortNone
import Derived.Ground.GgzProg
import Derived.Ground.SlgmProg
import Derived.WalkKit
import Derived.KernelRfl
import Derived.BigCall
import Derived.WalkSmall
import Derived.Laws.CopyOwn
import Derived.Deep.RegionLaw
import Derived.Lib.Overlaps
import Derived.Lib.Mul64
import Derived.Test.YtlphgijokknjhaaGreatTRM1
set_option linter.all false
set_option maxRecDepth 100000
set_option maxHeartbeats 4000000
namespace Go.Proofs.YtlphgijokknjhaaGreat
open Go Go.Proofs.YtlphgijokknjhaaGreat.Ev
noncomputable def BR (a0:Int) (h:H):Option ((Bool)×H):=
(((bif (decide ((1:Int)≤a0))then(some ((decide (a0≤1073741824)),h))else (some (false,h)))).bind fun(bb,h2)=>
(some (bb,h2)))
noncomputable def BR.x:=cQ (bf [] [] bC) {br [] []with dB:=[(1,[2],[.leaf .bool])]} Tryz.func170 [.leaf (.int .i64)] (.one (.leaf .bool)) (fun x h=>BR x h) fun _ _=>by kernel_rfl
noncomputable def ua (a0:Int):Option (Bool):=(BR a0 H.empty).bind fun p=>av false p.2 (.one (.leaf .bool)) (an.un (.one (.leaf .bool)) p.1)
noncomputable def ua.p:bj:=cF.low [.leaf (.int .i64)] BR.x (.one (.leaf .bool)) (fun x=>ua x) fun _=>by kernel_rfl
noncomputable def xK (a0:au) (a1:Int) (h:H):Option ((au)×H):=
((bif (decide (a1<0))then none else (some (.next (),h)):Option (bG (Unit) (au)×H)).bind fun(xf,h1)=>match xf with
|.next _=>
(bif !a0.tail then((bif (decide ((0:Int)<(IntKind.wrap .i64 (a1-(IntKind.wrap .i64 (((a0.cap:Nat):Int)-((a0.len:Nat):Int)))))))then(bif !a0.tail then(aJ ((0:Int)≤0∧(0:Int)≤((a0.cap:Nat):Int)∧((a0.cap:Nat):Int)≤((a0.cap:Nat):Int)) ((aJ (0≤(IntKind.wrap .i64 (a1-(IntKind.wrap .i64 (((a0.cap:Nat):Int)-((a0.len:Nat):Int)))))∧(IntKind.wrap .i64 (a1-(IntKind.wrap .i64 (((a0.cap:Nat):Int)-((a0.len:Nat):Int)))))≤ei∧16≤2^11) (some (Int.toNat (IntKind.wrap .i64 (a1-(IntKind.wrap .i64 (((a0.cap:Nat):Int)-((a0.len:Nat):Int))))),eI [.int .i64 0,.int .i64 0] (Int.toNat (IntKind.wrap .i64 (a1-(IntKind.wrap .i64 (((a0.cap:Nat):Int)-((a0.len:Nat):Int))))))))).bind fun(n5,MJ)=>
((c7 h1 none 2 16 (⟨(V.add a0.a 0),((Int.toNat ((a0.cap:Nat):Int))-Int.toNat 0),(a0.cap-Int.toNat 0),a0.tail⟩) MJ n5).bind fun(ee,aI)=>
(aJ ((0:Int)≤0∧(0:Int)≤((a0.len:Nat):Int)∧((a0.len:Nat):Int)≤((ee.cap:Nat):Int)) (some (.next ⟨(V.add ee.a 0),((Int.toNat ((a0.len:Nat):Int))-Int.toNat 0),(ee.cap-Int.toNat 0),ee.tail⟩,aI))))))else none)else (some (.next a0,h1)):Option (bG (au) (au)×H)).bind fun(mJ,h8)=>match mJ with
|.next fj=>
(some (fj,h8))
|.ret qa=>(some (qa,h8))
|.aP _=>none
|.bW _=>none)else none)
|.ret C_=>(some (C_,h1))
|.aP _=>none
|.bW _=>none)
noncomputable def xK.p:bj:=eu (bf [] [] bC) (br [(6,[],[],none,none),(16,[0],[.leaf .slice],none,none)] []) Tryz.func213 [.leaf .slice,.leaf (.int .i64)] (.one (.leaf .slice)) (fun x h=>xK x.1 x.2 h) fun _ _=>by kernel_rfl
noncomputable def km.aZ (a0:au):(Int×Int)×H→Option (ca ((Int×Int)×H) (bG (Int) (au)×H)):=fun((bb,cc),h3)=>
(bif (decide (cc<((a0.len:Nat):Int)))then(aJ (0≤cc∧cc<((a0.len:Nat):Int)) ((ah (.leaf .slice) h3 (V.add a0.a (Int.toNat cc*1))).bind fun eB=>
((bif (decide ((IntKind.wrap .i64 (bb+((eB.len:Nat):Int)))<0))then none else (some (.next (),h3)):Option (bG (Unit) (au)×H)).bind fun(qq,ba)=>match qq with
|.next _=>
(some (.more (((IntKind.wrap .i64 (bb+((eB.len:Nat):Int))),(IntKind.wrap .i64 (cc+1))),ba)))
|.ret tq=>(some (.done (.ret tq,ba)))
|.aP _=>none
|.bW _=>none)))else (some (.done (.aP bb,h3))))
noncomputable def km.cl (a0:au):(au×Int)×H→Option (ca ((au×Int)×H) (bG (au) (au)×H)):=fun((kJ,jq),dU)=>
(bif (decide (jq<((a0.len:Nat):Int)))then(aJ (0≤jq∧jq<((a0.len:Nat):Int)) ((ah (.leaf .slice) dU (V.add a0.a (Int.toNat jq*1))).bind fun gH=>
((cellsOf dU (.slice gH.a gH.len gH.cap gH.tail:V) 2).bind fun(n20,Lr)=>
((c7 dU none 2 16 kJ Lr n20).bind fun(l4,eO)=>
(some (.more ((l4,(IntKind.wrap .i64 (jq+1))),eO)))))))else (some (.done (.aP kJ,dU))))
noncomputable def km (a0:au) (h:H):Option ((au)×H):=
((iter bd (km.aZ a0) ((0,0),h)).bind fun(mJ,h8)=>match mJ with
|.next _=>none
|.ret sY=>(some (sY,h8))
|.aP df=>
((xK ⟨.nil,0,0,false⟩ df h8).bind fun(ni,cM)=>
((iter bd (km.cl a0) ((ni,0),cM)).bind fun(sZ,eP)=>match sZ with
|.next _=>none
|.ret qb=>(some (qb,eP))
|.aP mH=>
(some (mH,eP))
|.bW _=>none))
|.bW _=>none)
noncomputable def km.p:bj:=eu (bf [xK.p] [] bC) (br [(20,[],[],none,none)] [(3,[3,11],[.leaf (.int .i64),.leaf (.int .i64)],[3],[.leaf (.int .i64)],some 0,none),(11,[6,27],[.leaf .slice,.leaf (.int .i64)],[6],[.leaf .slice],some 2,none)]) Tryz.func202 [.leaf .slice] (.one (.leaf .slice)) (fun x h=>km x h) fun _ _=>by kernel_rfl
noncomputable def ko.aZ (T:Table) (a0:V) (a1:V) (a2:V) (a3:V):(Unit)×H→Option (ca ((Unit)×H) (bG (Unit) (Unit)×H)):=fun(_,h1)=>
((((ah (.leaf .slice) h1 a1).bind fun b5=>
(bif !(decide ((0:Int)<((b5.len:Nat):Int)))then((ah (.leaf .slice) h1 a2).bind fun cx=>
(some ((decide ((0:Int)<((cx.len:Nat):Int))),h1)))else (some (true,h1))))).bind fun(iY,ba)=>
(bif iY then(((let bp:H:=H.de ba 0
((ah (.leaf .slice) bp a2).bind fun fK=>
(bif !(decide (((fK.len:Nat):Int)=0))then((ah (.leaf .slice) bp a1).bind fun gM=>
(bif (decide ((0:Int)<((gM.len:Nat):Int)))then((ah (.leaf .slice) bp a1).bind fun fT=>
(aJ (0≤(0:Int)∧0<((fT.len:Nat):Int)) (aJ (V.bm ((V.add fT.a 0):V)=true) ((ah (.leaf (.int .i64)) bp (V.add (V.add fT.a 0) 0)).bind fun e9=>
((ah (.leaf .slice) bp a2).bind fun iv=>
(aJ (0≤(0:Int)∧0<((iv.len:Nat):Int)) (aJ (V.bm ((V.add iv.a 0):V)=true) ((ah (.leaf (.int .i64)) bp (V.add (V.add iv.a 0) 0)).bind fun jn=>
(some ((decide (e9<jn)),bp))))))))))else (some (false,bp))))else (some (true,bp)))))).bind fun(pa,cO)=>
((bif pa then(let cD:H:=H.de cO 0
((ah (.leaf .slice) cD a1).bind fun hp=>
(aJ (0≤(0:Int)∧0<((hp.len:Nat):Int)) (aJ (V.bm ((V.add hp.a 0):V)=true) ((ah (.leaf (.int .i64)) cD (V.add (V.add hp.a 0) 0)).bind fun gH=>
((ah (.leaf .slice) cD a1).bind fun ln=>
(aJ ((0:Int)≤1∧(1:Int)≤((ln.len:Nat):Int)∧((ln.len:Nat):Int)≤((ln.cap:Nat):Int)) ((H.aY cD a1 [.slice (V.add ln.a ((Int.toNat 1)*2)) ((Int.toNat ((ln.len:Nat):Int))-(Int.toNat 1)) (ln.cap-(Int.toNat 1)) ln.tail]).bind fun eO=>
(some (.next gH,eO))))))))))else (((let dy:H:=H.de cO 0
((ah (.leaf .slice) dy a1).bind fun xg=>
(bif !(decide (((xg.len:Nat):Int)=0))then((ah (.leaf .slice) dy a2).bind fun mG=>
(aJ (0≤(0:Int)∧0<((mG.len:Nat):Int)) (aJ (V.bm ((V.add mG.a 0):V)=true) ((ah (.leaf (.int .i64)) dy (V.add (V.add mG.a 0) 0)).bind fun oi=>
((ah (.leaf .slice) dy a1).bind fun lq=>
(aJ (0≤(0:Int)∧0<((lq.len:Nat):Int)) (aJ (V.bm ((V.add lq.a 0):V)=true) ((ah (.leaf (.int .i64)) dy (V.add (V.add lq.a 0) 0)).bind fun mI=>
(some ((decide (oi<mI)),dy))))))))))else (some (true,dy)))))).bind fun(mH,gT)=>
((bif mH then(let gU:H:=H.de gT 0
((ah (.leaf .slice) gU a2).bind fun rL=>
(aJ (0≤(0:Int)∧0<((rL.len:Nat):Int)) (aJ (V.bm ((V.add rL.a 0):V)=true) ((ah (.leaf (.int .i64)) gU (V.add (V.add rL.a 0) 0)).bind fun o8=>
((ah (.leaf .slice) gU a2).bind fun lr=>
(aJ ((0:Int)≤1∧(1:Int)≤((lr.len:Nat):Int)∧((lr.len:Nat):Int)≤((lr.cap:Nat):Int)) ((H.aY gU a2 [.slice (V.add lr.a ((Int.toNat 1)*2)) ((Int.toNat ((lr.len:Nat):Int))-(Int.toNat 1)) (lr.cap-(Int.toNat 1)) lr.tail]).bind fun c2=>
(some (.next o8,c2))))))))))else (let jr:H:=H.de gT 0
((ah (.leaf .slice) jr a1).bind fun jJ=>
(aJ (0≤(0:Int)∧0<((jJ.len:Nat):Int)) (aJ (V.bm ((V.add jJ.a 0):V)=true) ((ah (.leaf (.int .i64)) jr (V.add (V.add jJ.a 0) 0)).bind fun MK=>
((ah (.leaf .slice) jr a1).bind fun iN=>
(aJ ((0:Int)≤1∧(1:Int)≤((iN.len:Nat):Int)∧((iN.len:Nat):Int)≤((iN.cap:Nat):Int)) ((ah (.leaf .slice) jr a2).bind fun xh=>
(aJ ((0:Int)≤1∧(1:Int)≤((xh.len:Nat):Int)∧((xh.len:Nat):Int)≤((xh.cap:Nat):Int)) ((H.aY jr a1 [.slice (V.add iN.a ((Int.toNat 1)*2)) ((Int.toNat ((iN.len:Nat):Int))-(Int.toNat 1)) (iN.cap-(Int.toNat 1)) iN.tail]).bind fun kb=>
((H.aY kb a2 [.slice (V.add xh.a ((Int.toNat 1)*2)) ((Int.toNat ((xh.len:Nat):Int))-(Int.toNat 1)) (xh.cap-(Int.toNat 1)) xh.tail]).bind fun o_=>
(aJ (fg (a2:V) (a1:V)=true) (some (.next MK,o_)))))))))))))):Option (bG (Int) (Unit)×H)).bind fun(aeb,kK)=>match aeb with
|.next ML=>
(some (.next ML,kK))
|.ret aec=>(some (.ret aec,kK))
|.aP _=>none
|.bW _=>none)):Option (bG (Int) (Unit)×H)).bind fun(aed,Ak)=>match aed with
|.next Al=>
((ah (.leaf .map) Ak a3).bind fun MM=>
(match(MM:Option Nat)with
|none=>none
|some MN=>((H.dk Ak MN .i64 .i64).bind fun Ls=>
(eE T.dg a0 [.int .i64 Al,.int .i64 ((getM Al Ls).getD 0)] Ak fun MO pb=>
(an.pack (.one (.leaf .bool)) MO).bind fun MP=>
(bif (!MP)then(some (.done (.ret (),pb)))else (some (.more ((),pb))))))))
|.ret Lt=>(some (.done (.ret Lt,Ak)))
|.aP _=>none
|.bW _=>none))else (some (.done (.aP (),ba)))))
noncomputable def ko (T:Table) (a0:V) (a1:V) (a2:V) (a3:V) (h:H):Option ((Unit)×H):=
((iter bd (ko.aZ T a0 a1 a2 a3) ((),h)).bind fun(Da,uX)=>match Da with
|.next _=>none
|.ret Db=>(some (Db,uX))
|.aP _=>
(some ((),uX))
|.bW _=>none)
noncomputable def ko.i:xE:=Hj [] [] {br [(22,[5],[.leaf (.int .i64)],none,none),(48,[5],[.leaf (.int .i64)],none,none)] [(0,[],[],[],[],some 0,none)]with dB:=[(0,[13],[.leaf .bool]),(3,[22],[.leaf .bool]),(5,[48],[.leaf .bool])]} Tryz.func203 [.leaf .dyn,.leaf .ptr,.leaf .ptr,.leaf .ptr] (.many []) (fun Y x h=>ko (m2 Table.nil Y) x.1 x.2.1 x.2.2.1 x.2.2.2 h) fun _ _ _=>by kernel_rfl
noncomputable def ko.p (T:cq):bj:=eu (bf [] [] T) {br [(22,[5],[.leaf (.int .i64)],none,none),(48,[5],[.leaf (.int .i64)],none,none)] [(0,[],[],[],[],some 0,none)]with dB:=[(0,[13],[.leaf .bool]),(3,[22],[.leaf .bool]),(5,[48],[.leaf .bool])]} Tryz.func203 [.leaf .dyn,.leaf .ptr,.leaf .ptr,.leaf .ptr] (.many []) (fun x h=>ko T.t x.1 x.2.1 x.2.2.1 x.2.2.2 h) fun _ _=>by kernel_rfl
noncomputable def kX.tb:cq:=bf [km.p] [] bC
noncomputable def kX.fc:cq:=bf [] [ko.p kX.tb] kX.tb
noncomputable def kX.aZ (h3:H) (oz:au):(Int)×H→Option (ca ((Int)×H) (bG (Unit) (V)×H)):=fun(fj,cJ)=>
(bif (decide (fj<((oz.len:Nat):Int)))then(aJ (0≤fj∧fj<((oz.len:Nat):Int)) ((ah (.agg [.int .i64,.int .i64]) cJ (V.add oz.a (Int.toNat fj*2))).bind fun(k9,k_)=>
(let cM:H:=H.new cJ [.int .i64 0,.int .i64 0] 2
((H.aY cM (.aa cJ.next 2 0) [.int .i64 k9,.int .i64 k_]).bind fun cO=>
((ah (.leaf .map) cO (.aa h3.next 1 0)).bind fun hb=>
((ah (.leaf (.int .i64)) cO (.aa cJ.next 2 0)).bind fun hp=>
(match(hb:Option Nat)with
|none=>none
|some rM=>((H.dk cO rM .i64 .i64).bind fun aee=>
((ah (.leaf (.int .i64)) cO (.aa cJ.next 2 1)).bind fun gu=>
(match(hb:Option Nat)with
|none=>none
|some uY=>((H.dk cO uY .i64 .i64).bind fun aef=>
(let et:H:=H.put cO uY (.dk .i64 .i64 (iR hp (IntKind.wrap .i64 (((getM hp aee).getD 0)+gu)) aef))
(some (.more ((IntKind.wrap .i64 (fj+1)),et)))))))))))))))else (some (.done (.aP (),cJ))))
noncomputable def kX (a0:au) (a1:au) (h:H):Option ((V)×H):=
(let h1:H:=H.new h [.slice a0.a a0.len a0.cap a0.tail] 1
(let h2:H:=H.new h1 [.slice a1.a a1.len a1.cap a1.tail] 1
(let h3:H:=H.hP h2 (.dk .i64 .i64 [])
(let aI:H:=H.new h3 [.map none] 1
((H.aY aI (.aa h3.next 1 0) [.map (some h2.next)]).bind fun ba=>
((ah (.leaf .slice) ba (.aa h.next 1 0)).bind fun hc=>
((ah (.leaf .slice) ba (.aa h1.next 1 0)).bind fun fK=>
((km ⟨.lp true ([.slice hc.a hc.len hc.cap hc.tail,.slice fK.a fK.len fK.cap fK.tail]) 0,2,2,false⟩ ba).bind fun(oz,h9)=>
((iter bd (kX.aZ h3 oz) (0,h9)).bind fun(sZ,eP)=>match sZ with
|.next _=>none
|.ret qb=>(some (qb,eP))
|.aP _=>
(some ((.func 203 [.aa h.next 1 0,.aa h1.next 1 0,.aa h3.next 1 0]:V),eP))
|.bW _=>none)))))))))
noncomputable def kX.p:bj:=eu kX.fc (br [] [(3,[14],[.leaf (.int .i64)],[],[],some 0,none)]) Tryz.func186 [.leaf .slice,.leaf .slice] (.one (.leaf .dyn)) (fun x h=>kX x.1 x.2 h) fun _ _=>by kernel_rfl
noncomputable def kZ.tb:cq:=MF [ko.i] (bf [kX.p] [] bC)
noncomputable def kZ.yY (h:H) (h3:H):(Int×Int)→H→Option H:=fun(iY,kR) bp=>
((H.begin bp h3.next).bind fun _=>
((H.begin bp h3.next).bind fun bE=>
((ah (.leaf .slice) bE (.aa h.next 1 0)).bind fun gM=>
((c7 bE none 2 16 gM [.int .i64 iY,.int .i64 kR] 1).bind fun(Am,c5)=>
((H.aY c5 (.aa h.next 1 0) [.slice Am.a Am.len Am.cap Am.tail]).bind fun cM=>
(H.GB cM h3.next))))))
noncomputable def kZ (a0:au) (a1:au) (h:H):Option ((au)×H):=
(let h1:H:=H.new h [.slice .nil 0 0 false] 1
((kX a0 a1 h1).bind fun(bJ,h3)=>
(B4 (kZ.tb.t).dg (qf [.leaf (.int .i64),.leaf (.int .i64)] h3.next (kZ.yY h h3)) (bJ:V) [.hR h3.next] (H.hP h3 (.loop .ready)) fun cO=>
((H.GC cO h3.next).bind fun cD=>
((ah (.leaf .slice) cD (.aa h.next 1 0)).bind fun hp=>
(some (hp,cD)))))))
noncomputable def kZ.x:=cQ kZ.tb {br [] []with CT:=[(11,[.leaf (.int .i64),.leaf (.int .i64)])]} Tryz.func171 [.leaf .slice,.leaf .slice] (.one (.leaf .slice)) (fun x h=>kZ x.1 x.2 h) fun _ _=>by kernel_rfl
noncomputable def x6 (a0:(List (Int×Int))) (a1:(List (Int×Int))):Option ((List (Int×Int))):=(kZ (ae false [.int .i64,.int .i64] a0) (ae false [.int .i64,.int .i64] a1) H.empty).bind fun p=>av false p.2 (.one (.leaf (.row [.int .i64,.int .i64]))) (an.un (.one (.leaf .slice)) p.1)
noncomputable def x6.p:bj:=cF.low [.leaf (.row [.int .i64,.int .i64]),.leaf (.row [.int .i64,.int .i64])] kZ.x (.one (.leaf (.row [.int .i64,.int .i64]))) (fun x=>x6 x.1 x.2) fun _=>by kernel_rfl
noncomputable def pI.aZ (a0:au) (h1:H):(Int)×H→Option (ca ((Int)×H) (bG (Unit) ((Int×Int×Int×au)×Int)×H)):=fun(oj,cM)=>
(bif (decide (oj<((a0.len:Nat):Int)))then(aJ (0≤oj∧oj<((a0.len:Nat):Int)) ((ah (.agg [.int .i64,.int .i64,.int .i64,.slice]) cM (V.add a0.a (Int.toNat oj*4))).bind fun(sr,ss,Ck,za)=>
(let cD:H:=H.new cM [.int .i64 0,.int .i64 0,.int .i64 0,.slice .nil 0 0 false] 4
((H.aY cD (.aa cM.next 4 0) [.int .i64 sr,.int .i64 ss,.int .i64 Ck,.slice za.a za.len za.cap za.tail]).bind fun dU=>
((ah (.leaf .slice) dU (.aa h1.next 4 3)).bind fun gH=>
((ah (.leaf .slice) dU (.aa cM.next 4 3)).bind fun ln=>
((bB true dU [.int .i64,.int .i64] gH).bind fun l4=>
((bB true dU [.int .i64,.int .i64] ln).bind fun MQ=>
((x6 l4 MQ).bind fun xe=>
((H.aY dU (.aa h1.next 4 3) [.slice ((ae true [.int .i64,.int .i64] xe).a) xe.length xe.length true]).bind fun gV=>
(let eP:H:=H.de gV 0
((ah (.leaf (.int .i64)) eP (.aa h1.next 4 1)).bind fun lq=>
((ah (.leaf (.int .i64)) eP (.aa cM.next 4 1)).bind fun mI=>
((ah (.leaf (.int .i64)) eP (.aa h1.next 4 2)).bind fun D7=>
((ah (.leaf (.int .i64)) eP (.aa cM.next 4 2)).bind fun MR=>
((H.aY eP (.aa h1.next 4 1) [.int .i64 (IntKind.wrap .i64 (lq+mI))]).bind fun gU=>
((H.aY gU (.aa h1.next 4 2) [.int .i64 (IntKind.wrap .i64 (D7+MR))]).bind fun h0=>
(aJ (fg (.aa cM.next 4 2:V) (.aa h1.next 4 1:V)=true) (some (.more ((IntKind.wrap .i64 (oj+1)),h0)))))))))))))))))))))else (some (.done (.aP (),cM))))
noncomputable def pI (a0:au) (a1:Int) (h:H):Option (((Int×Int×Int×au)×Int)×H):=
(let h1:H:=H.new h [.int .i64 0,.int .i64 0,.int .i64 0,.slice .nil 0 0 false] 4
((bB true h1 [.int .i64,.int .i64,.int .i64,.row [.int .i64,.int .i64]] a0).bind fun eD=>
((oH eD).bind fun(bJ,ch)=>
(bif (!(decide (ch=0)))then((H.aY h1 (.aa h.next 4 0) [.int .i64 0,.int .i64 0,.int .i64 0,.slice .nil 0 0 false]).bind fun ba=>
((ah (.agg [.int .i64,.int .i64,.int .i64,.slice]) ba (.aa h.next 4 0:V)).bind fun(Lu,Lv,Lw,Lx)=>
(some (((Lu,Lv,Lw,Lx),1),ba))))else ((ua a1).bind fun fp=>
(bif (!fp)then((H.aY h1 (.aa h.next 4 0) [.int .i64 0,.int .i64 0,.int .i64 0,.slice .nil 0 0 false]).bind fun h8=>
((ah (.agg [.int .i64,.int .i64,.int .i64,.slice]) h8 (.aa h.next 4 0:V)).bind fun(sO,sP,C6,C7)=>
(some (((sO,sP,C6,C7),2),h8))))else (let c5:H:=H.new h1 [.int .i64 0,.int .i64 0,.int .i64 0,.slice .nil 0 0 false] 4
((H.aY c5 (.aa h1.next 4 0) [.int .i64 a1,.int .i64 0,.int .i64 0,.slice .nil 0 0 false]).bind fun cJ=>
((iter bd (pI.aZ a0 h1) (0,cJ)).bind fun(Ly,hB)=>match Ly with
|.next _=>none
|.ret Dc=>(some (Dc,hB))
|.aP _=>
((ah (.agg [.int .i64,.int .i64]) hB (.aa h1.next 4 1)).bind fun(Kx,Ky)=>
((bB true hB [.int .i64,.int .i64] ⟨.lp true ([.int .i64 Kx,.int .i64 Ky]) 0,1,1,false⟩).bind fun ag2=>
((q9 ag2).bind fun((abA,abB),D8)=>
(let qu:H:=H.new hB [.int .i64 0,.int .i64 0] 2
((H.aY qu (.aa hB.next 2 0) [.int .i64 abA,.int .i64 abB]).bind fun kb=>
((ah (.leaf .slice) kb (.aa h1.next 4 3)).bind fun tu=>
(bif (decide ((32:Int)<((tu.len:Nat):Int)))then((H.aY kb (.aa h.next 4 0) [.int .i64 0,.int .i64 0,.int .i64 0,.slice .nil 0 0 false]).bind fun kK=>
((ah (.agg [.int .i64,.int .i64,.int .i64,.slice]) kK (.aa h.next 4 0:V)).bind fun(vZ,v7,Co,Cp)=>
(some (((vZ,v7,Co,Cp),12),kK))))else (bif (!(decide (D8=0)))then((H.aY kb (.aa h.next 4 0) [.int .i64 0,.int .i64 0,.int .i64 0,.slice .nil 0 0 false]).bind fun l5=>
((ah (.agg [.int .i64,.int .i64,.int .i64,.slice]) l5 (.aa h.next 4 0:V)).bind fun(Kz,KA,abC,abD)=>
(some (((Kz,KA,abC,abD),15),l5))))else ((ah (.agg [.int .i64,.int .i64,.int .i64,.slice]) kb (.aa h1.next 4 0)).bind fun(Cl,Cm,Cn,uC)=>
((H.aY kb (.aa h.next 4 0) [.int .i64 Cl,.int .i64 Cm,.int .i64 Cn,.slice uC.a uC.len uC.cap uC.tail]).bind fun tv=>
((ah (.agg [.int .i64,.int .i64,.int .i64,.slice]) tv (.aa h.next 4 0:V)).bind fun(abE,abF,abG,abH)=>
(some (((abE,abF,abG,abH),0),tv)))))))))))))
|.bW _=>none)))))))))
noncomputable def pI.x:=cQ (bf [q9.p,oH.p,ua.p,x6.p] [] bC) (br [] [(8,[31],[.leaf (.int .i64)],[],[],some 1,none)]) Tryz.func150 [.leaf .slice,.leaf (.int .i64)] (.many [.agg [.int .i64,.int .i64,.int .i64,.slice],.leaf (.int .i64)]) (fun x h=>pI x.1 x.2 h) fun _ _=>by kernel_rfl
noncomputable def yj (a0:(List (Int×Int×Int×(List (Int×Int))))) (a1:Int):Option ((Int×Int×Int×(List (Int×Int)))×Int):=(pI (ae false [.int .i64,.int .i64,.int .i64,.row [.int .i64,.int .i64]] a0) a1 H.empty).bind fun p=>av false p.2 (.many [.agg [.int .i64,.int .i64,.int .i64,.row [.int .i64,.int .i64]],.leaf (.int .i64)]) (an.un (.many [.agg [.int .i64,.int .i64,.int .i64,.slice],.leaf (.int .i64)]) p.1)
noncomputable def yj.p:bj:=cF.low [.leaf (.row [.int .i64,.int .i64,.int .i64,.row [.int .i64,.int .i64]]),.leaf (.int .i64)] pI.x (.many [.agg [.int .i64,.int .i64,.int .i64,.row [.int .i64,.int .i64]],.leaf (.int .i64)]) (fun x=>yj x.1 x.2) fun _=>by kernel_rfl
noncomputable def oB.aZ (T:Table) (a0:au) (a1:Int) (a2:V):(Int×Int)×H→Option (ca ((Int×Int)×H) (bG (Int) (Int×Bool)×H)):=fun((bb,cc),h3)=>
(bif (decide (bb<cc))then(aJ (0≤(IntKind.wrap .i64 ((Int.fdiv (IntKind.wrap .u64 ((IntKind.wrap .i64 (bb+cc)))) (2^(min (Int.toNat 1) (IntKind.bits .u64))))))∧(IntKind.wrap .i64 ((Int.fdiv (IntKind.wrap .u64 ((IntKind.wrap .i64 (bb+cc)))) (2^(min (Int.toNat 1) (IntKind.bits .u64))))))<((a0.len:Nat):Int)) ((ah (.agg [.int .i64,.int .i64,.int .i64,.slice]) h3 (V.add a0.a (Int.toNat (IntKind.wrap .i64 ((Int.fdiv (IntKind.wrap .u64 ((IntKind.wrap .i64 (bb+cc)))) (2^(min (Int.toNat 1) (IntKind.bits .u64))))))*4))).bind fun(ij,jh,p8,jF)=>
(eE T.dg a2 [.agg [.int .i64 ij,.int .i64 jh,.int .i64 p8,.slice jF.a jF.len jF.cap jF.tail],.int .i64 a1] h3 fun v5 bp=>
(an.pack (.one (.leaf (.int .i64))) v5).bind fun fp=>
((bif (decide (fp<0))then(some (.next ((IntKind.wrap .i64 ((IntKind.wrap .i64 ((Int.fdiv (IntKind.wrap .u64 ((IntKind.wrap .i64 (bb+cc)))) (2^(min (Int.toNat 1) (IntKind.bits .u64))))))+1)),cc),bp))else (some (.next (bb,(IntKind.wrap .i64 ((Int.fdiv (IntKind.wrap .u64 ((IntKind.wrap .i64 (bb+cc)))) (2^(min (Int.toNat 1) (IntKind.bits .u64))))))),bp)):Option (bG (Int×Int) (Int×Bool)×H)).bind fun(mJ,h8)=>match mJ with
|.next (fj,df)=>
(some (.more ((fj,df),h8)))
|.ret C_=>(some (.done (.ret C_,h8)))
|.aP _=>none
|.bW _=>none))))else (some (.done (.aP bb,h3))))
noncomputable def oB (T:Table) (a0:au) (a1:Int) (a2:V) (h:H):Option ((Int×Bool)×H):=
((iter bd (oB.aZ T a0 a1 a2) ((0,((a0.len:Nat):Int)),h)).bind fun(C8,cM)=>match C8 with
|.next _=>none
|.ret wC=>(some (wC,cM))
|.aP fH=>
(((bif (decide (fH<((a0.len:Nat):Int)))then(aJ (0≤fH∧fH<((a0.len:Nat):Int)) ((ah (.agg [.int .i64,.int .i64,.int .i64,.slice]) cM (V.add a0.a (Int.toNat fH*4))).bind fun(su,sw,vY,nR)=>
(eE T.dg a2 [.agg [.int .i64 su,.int .i64 sw,.int .i64 vY,.slice nR.a nR.len nR.cap nR.tail],.int .i64 a1] cM fun ag3 eO=>
(an.pack (.one (.leaf (.int .i64))) ag3).bind fun TF=>
(some ((fH,(decide (TF=0))),eO)))))else (some ((fH,false),cM)))).bind fun((rN,om),eP)=>
(some ((rN,om),eP)))
|.bW _=>none)
noncomputable def oB.p (T:cq):bj:=eu (bf [] [] T) {br [(31,[9,10],[.leaf (.int .i64),.leaf (.int .i64)],none,none)] [(3,[9,10],[.leaf (.int .i64),.leaf (.int .i64)],[9],[.leaf (.int .i64)],some 0,none)]with dB:=[(8,[6,7],[.leaf (.int .i64),.leaf .bool])]} Tryz.func172 [.leaf .slice,.leaf (.int .i64),.leaf .dyn] (.many [.leaf (.int .i64),.leaf .bool]) (fun x h=>oB T.t x.1 x.2.1 x.2.2 h) fun _ _=>by kernel_rfl
noncomputable def AZ (a0:(Int×Int×Int×au)) (a1:Int) (h:H):Option ((Int)×H):=
(match a0 with
|(cz,cA,cT,dZ)=>
(let h1:H:=H.new h [.int .i64 cz,.int .i64 cA,.int .i64 cT,.slice dZ.a dZ.len dZ.cap dZ.tail] 4
((ah (.leaf (.int .i64)) h1 (.aa h.next 4 0)).bind fun b5=>
(some ((IntKind.wrap .i64 (b5-a1)),h1)))))
noncomputable def AZ.x:=cQ (bf [] [] bC) (br [] []) Tryz.func173 [.agg [.int .i64,.int .i64,.int .i64,.slice],.leaf (.int .i64)] (.one (.leaf (.int .i64))) (fun x h=>AZ x.1 x.2 h) fun _ _=>by kernel_rfl
noncomputable def tN (a0:(Int×Int×Int×(List (Int×Int)))) (a1:Int):Option (Int):=(AZ (a0.1,a0.2.1,a0.2.2.1,ae false [.int .i64,.int .i64] a0.2.2.2) a1 H.empty).bind fun p=>av false p.2 (.one (.leaf (.int .i64))) (an.un (.one (.leaf (.int .i64))) p.1)
noncomputable def tN.p:bj:=cF.low [.agg [.int .i64,.int .i64,.int .i64,.row [.int .i64,.int .i64]],.leaf (.int .i64)] AZ.x (.one (.leaf (.int .i64))) (fun x=>tN x.1 x.2) fun _=>by kernel_rfl
noncomputable def xL (a0:au) (a1:Int) (a2:Int) (h:H):Option ((au)×H):=
(aJ ((0:Int)≤a1∧a1≤a2∧a2≤((a0.len:Nat):Int)∧((a0.len:Nat):Int)≤((a0.cap:Nat):Int)) (bif (decide (a1=a2))then(some (a0,h))else (let h1:H:=H.de h 0
(aJ ((0:Int)≤0∧(0:Int)≤a1∧a1≤((a0.cap:Nat):Int)) (aJ ((0:Int)≤a2∧a2≤((a0.len:Nat):Int)∧((a0.len:Nat):Int)≤((a0.cap:Nat):Int)) ((cellsOf h1 (.slice (V.add a0.a ((Int.toNat a2)*4)) ((Int.toNat ((a0.len:Nat):Int))-(Int.toNat a2)) (a0.cap-(Int.toNat a2)) a0.tail:V) 4).bind fun(ajs,ag4)=>
((c7 h1 none 4 48 (⟨(V.add a0.a 0),((Int.toNat a1)-Int.toNat 0),(a0.cap-Int.toNat 0),a0.tail⟩) ag4 ajs).bind fun(eD,h3)=>
(aJ ((0:Int)≤((eD.len:Nat):Int)∧((eD.len:Nat):Int)≤((a0.len:Nat):Int)∧((a0.len:Nat):Int)≤((eD.cap:Nat):Int)) ((B5 h3 ((V.add eD.a ((Int.toNat ((eD.len:Nat):Int))*4)):V) [.int .i64 0,.int .i64 0,.int .i64 0,.slice .nil 0 0 false] ((Int.toNat ((a0.len:Nat):Int))-(Int.toNat ((eD.len:Nat):Int)))).bind fun bE=>
(some (eD,bE)))))))))))
noncomputable def xL.p:bj:=eu (bf [] [] bC) (br [] []) Tryz.func174 [.leaf .slice,.leaf (.int .i64),.leaf (.int .i64)] (.one (.leaf .slice)) (fun x h=>xL x.1 x.2.1 x.2.2 h) fun _ _=>by kernel_rfl
noncomputable def A6 (a0:Int) (h:H):Option ((Int)×H):=
((bif (decide ((4294967296:Int)≤a0))then(some (.next ((Int.fdiv a0 (2^(min (Int.toNat 32) (IntKind.bits .u64)))),32),h))else (some (.next (a0,0),h)):Option (bG (Int×Int) (Int)×H)).bind fun(xf,h1)=>match xf with
|.next (cj,iY)=>
((bif (decide ((65536:Int)≤cj))then(some (.next ((Int.fdiv cj (2^(min (Int.toNat 16) (IntKind.bits .u64)))),(IntKind.wrap .i64 (iY+16))),h1))else (some (.next (cj,iY),h1)):Option (bG (Int×Int) (Int)×H)).bind fun(qq,ba)=>match qq with
|.next (eX,jN)=>
((bif (decide ((256:Int)≤eX))then(some (.next ((Int.fdiv eX (2^(min (Int.toNat 8) (IntKind.bits .u64)))),(IntKind.wrap .i64 (jN+8))),ba))else (some (.next (eX,jN),ba)):Option (bG (Int×Int) (Int)×H)).bind fun(Dd,h9)=>match Dd with
|.next (df,oj)=>
(aJ (0≤(IntKind.wrap .u8 (df))∧(IntKind.wrap .u8 (df))<((ByteArray.size (⟨#[0,1,2,2,3,3,3,3,4,4,4,4,4,4,4,4,5,5,5,5,5,5,5,5,5,5,5,5,5,5,5,5,6,6,6,6,6,6,6,6,6,6,6,6,6,6,6,6,6,6,6,6,6,6,6,6,6,6,6,6,6,6,6,6,7,7,7,7,7,7,7,7,7,7,7,7,7,7,7,7,7,7,7,7,7,7,7,7,7,7,7,7,7,7,7,7,7,7,7,7,7,7,7,7,7,7,7,7,7,7,7,7,7,7,7,7,7,7,7,7,7,7,7,7,7,7,7,7,8,8,8,8,8,8,8,8,8,8,8,8,8,8,8,8,8,8,8,8,8,8,8,8,8,8,8,8,8,8,8,8,8,8,8,8,8,8,8,8,8,8,8,8,8,8,8,8,8,8,8,8,8,8,8,8,8,8,8,8,8,8,8,8,8,8,8,8,8,8,8,8,8,8,8,8,8,8,8,8,8,8,8,8,8,8,8,8,8,8,8,8,8,8,8,8,8,8,8,8,8,8,8,8,8,8,8,8,8,8,8,8,8,8,8,8,8,8,8,8,8,8,8,8,8,8,8,8]⟩:ByteArray):Nat):Int)) (some ((IntKind.wrap .i64 (oj+(IntKind.wrap .i64 ((((((ByteArray.data (⟨#[0,1,2,2,3,3,3,3,4,4,4,4,4,4,4,4,5,5,5,5,5,5,5,5,5,5,5,5,5,5,5,5,6,6,6,6,6,6,6,6,6,6,6,6,6,6,6,6,6,6,6,6,6,6,6,6,6,6,6,6,6,6,6,6,7,7,7,7,7,7,7,7,7,7,7,7,7,7,7,7,7,7,7,7,7,7,7,7,7,7,7,7,7,7,7,7,7,7,7,7,7,7,7,7,7,7,7,7,7,7,7,7,7,7,7,7,7,7,7,7,7,7,7,7,7,7,7,7,8,8,8,8,8,8,8,8,8,8,8,8,8,8,8,8,8,8,8,8,8,8,8,8,8,8,8,8,8,8,8,8,8,8,8,8,8,8,8,8,8,8,8,8,8,8,8,8,8,8,8,8,8,8,8,8,8,8,8,8,8,8,8,8,8,8,8,8,8,8,8,8,8,8,8,8,8,8,8,8,8,8,8,8,8,8,8,8,8,8,8,8,8,8,8,8,8,8,8,8,8,8,8,8,8,8,8,8,8,8,8,8,8,8,8,8,8,8,8,8,8,8,8,8,8,8,8,8]⟩:ByteArray))[Int.toNat (IntKind.wrap .u8 (df))]?).map UInt8.toNat).getD 0:Nat):Int))))),h9)))
|.ret C5=>(some (C5,h9))
|.aP _=>none
|.bW _=>none)
|.ret qc=>(some (qc,ba))
|.aP _=>none
|.bW _=>none)
|.ret wC=>(some (wC,h1))
|.aP _=>none
|.bW _=>none)
noncomputable def A6.x:=cQ (bf [] [] bC) (br [(4,[0,2],[.leaf (.int .u64),.leaf (.int .i64)],none,none),(8,[0,2],[.leaf (.int .u64),.leaf (.int .i64)],none,none),(14,[0,2],[.leaf (.int .u64),.leaf (.int .i64)],none,none)] []) Tryz.func166 [.leaf (.int .u64)] (.one (.leaf (.int .i64))) (fun x h=>A6 x h) fun _ _=>by kernel_rfl
noncomputable def vo (a0:Int):Option (Int):=(A6 a0 H.empty).bind fun p=>av false p.2 (.one (.leaf (.int .i64))) (an.un (.one (.leaf (.int .i64))) p.1)
noncomputable def vo.p:bj:=cF.low [.leaf (.int .u64)] A6.x (.one (.leaf (.int .i64))) (fun x=>vo x) fun _=>by kernel_rfl
noncomputable def cmp_isNaN_int (a0:Int) (h:H):Option ((Bool)×H):=
(some ((!(decide (a0=a0))),h))
noncomputable def cmp_isNaN_int.x:=cQ (bf [] [] bC) (br [] []) Tryz.func208 [.leaf (.int .i64)] (.one (.leaf .bool)) (fun x h=>cmp_isNaN_int x h) fun _ _=>by kernel_rfl
noncomputable def vr (a0:Int):Option (Bool):=(cmp_isNaN_int a0 H.empty).bind fun p=>av false p.2 (.one (.leaf .bool)) (an.un (.one (.leaf .bool)) p.1)
noncomputable def vr.p:bj:=cF.low [.leaf (.int .i64)] cmp_isNaN_int.x (.one (.leaf .bool)) (fun x=>vr x) fun _=>by kernel_rfl
noncomputable def qP.aZ (T:Table) (a0:au) (a1:V):(Int)×H→Option (ca ((Int)×H) (bG (Unit) (Int)×H)):=fun(bb,h2)=>
(bif (decide (bb<((a0.len:Nat):Int)))then(aJ (0≤bb∧bb<((a0.len:Nat):Int)) ((ah (.leaf (.int .i64)) h2 (V.add a0.a (Int.toNat bb*1))).bind fun cx=>
(eE T.dg a1 [.int .i64 cx] h2 fun v4 ba=>
(an.pack (.one (.leaf .bool)) v4).bind fun b4=>
(bif b4 then(some (.done (.ret bb,ba)))else (some (.more ((IntKind.wrap .i64 (bb+1)),ba)))))))else (some (.done (.aP (),h2))))
noncomputable def qP (T:Table) (a0:au) (a1:V) (h:H):Option ((Int)×H):=
((iter bd (qP.aZ T a0 a1) (0,h)).bind fun(xb,bE)=>match xb with
|.next _=>none
|.ret D6=>(some (D6,bE))
|.aP _=>
(some ((-1),bE))
|.bW _=>none)
noncomputable def qP.p (T:cq):bj:=eu (bf [] [] T) (br [] [(2,[8],[.leaf (.int .i64)],[],[],some 0,none)]) Tryz.func108 [.leaf .slice,.leaf .dyn] (.one (.leaf (.int .i64))) (fun x h=>qP T.t x.1 x.2 h) fun _ _=>by kernel_rfl
noncomputable def ml.tb (T:Table):Table:=tS [] [] T
noncomputable def ml.b (T:cq):cq:=bf [] [] T
noncomputable def ml (T:Table) (a0:au) (a1:V) (h:H):Option ((Bool)×H):=
((qP (ml.tb T) a0 a1 h).bind fun(bw,h2)=>
(some ((decide ((0:Int)≤bw)),h2)))
noncomputable def ml.p (T:cq):bj:=eu (bf [qP.p (ml.b T)] [] (ml.b T)) (br [] []) Tryz.func56 [.leaf .slice,.leaf .dyn] (.one (.leaf .bool)) (fun x h=>ml T.t x.1 x.2 h) fun _ _=>by kernel_rfl
noncomputable def A2 (a0:Int) (h:H):Option ((Bool)×H):=
(((bif (decide ((0:Int)≤a0))then(some ((decide (a0≤128849018880000)),h))else (some (false,h)))).bind fun(bb,h2)=>
(some (bb,h2)))
noncomputable def A2.x:=cQ (bf [] [] bC) {br [] []with dB:=[(1,[2],[.leaf .bool])]} Tryz.func217 [.leaf (.int .i64)] (.one (.leaf .bool)) (fun x h=>A2 x h) fun _ _=>by kernel_rfl
noncomputable def r2 (a0:Int):Option (Bool):=(A2 a0 H.empty).bind fun p=>av false p.2 (.one (.leaf .bool)) (an.un (.one (.leaf .bool)) p.1)
noncomputable def r2.p:bj:=cF.low [.leaf (.int .i64)] A2.x (.one (.leaf .bool)) (fun x=>r2 x) fun _=>by kernel_rfl
noncomputable def AY (a0:Int) (h:H):Option ((Bool)×H):=
((r2 a0).bind fun bw=>
(some ((!bw),h)))
noncomputable def AY.x:=cQ (bf [r2.p] [] bC) (br [] []) Tryz.func216 [.leaf (.int .i64)] (.one (.leaf .bool)) (fun x h=>AY x h) fun _ _=>by kernel_rfl
noncomputable def xO (a0:Int):Option (Bool):=(AY a0 H.empty).bind fun p=>av false p.2 (.one (.leaf .bool)) (an.un (.one (.leaf .bool)) p.1)
noncomputable def xO.p:bj:=cF.low [.leaf (.int .i64)] AY.x (.one (.leaf .bool)) (fun x=>xO x) fun _=>by kernel_rfl
noncomputable def pv.tb:cq:=bf [] [xO.p] bC
noncomputable def pv.fc:cq:=bf [ml.p pv.tb] [] pv.tb
noncomputable def pv (a0:au) (h:H):Option ((Bool)×H):=
((ml pv.tb.t a0 (.func 216 []:V) h).bind fun(bw,h2)=>
(some ((!bw),h2)))
noncomputable def pv.x:=cQ pv.fc (br [] []) Tryz.func209 [.leaf .slice] (.one (.leaf .bool)) (fun x h=>pv x h) fun _ _=>by kernel_rfl
noncomputable def tO (a0:(List (Int))):Option (Bool):=(pv (ae false [.int .i64] a0) H.empty).bind fun p=>av false p.2 (.one (.leaf .bool)) (an.un (.one (.leaf .bool)) p.1)
noncomputable def tO.p:bj:=cF.low [.leaf (.row [.int .i64])] pv.x (.one (.leaf .bool)) (fun x=>tO x) fun _=>by kernel_rfl
noncomputable def A7 (a0:Int) (a1:Int) (h:H):Option ((Int×Int)×H):=
(some (((IntKind.wrap .u64 ((IntKind.wrap .u64 ((IntKind.wrap .u64 ((Int.fdiv a0 (2^(min (Int.toNat 32) (IntKind.bits .u64))))*(Int.fdiv a1 (2^(min (Int.toNat 32) (IntKind.bits .u64))))))+(Int.fdiv (IntKind.wrap .u64 ((IntKind.wrap .u64 ((Int.fdiv a0 (2^(min (Int.toNat 32) (IntKind.bits .u64))))*(gl .and .u64 a1 4294967295)))+(Int.fdiv (IntKind.wrap .u64 ((gl .and .u64 a0 4294967295)*(gl .and .u64 a1 4294967295))) (2^(min (Int.toNat 32) (IntKind.bits .u64)))))) (2^(min (Int.toNat 32) (IntKind.bits .u64))))))+(Int.fdiv (IntKind.wrap .u64 ((gl .and .u64 (IntKind.wrap .u64 ((IntKind.wrap .u64 ((Int.fdiv a0 (2^(min (Int.toNat 32) (IntKind.bits .u64))))*(gl .and .u64 a1 4294967295)))+(Int.fdiv (IntKind.wrap .u64 ((gl .and .u64 a0 4294967295)*(gl .and .u64 a1 4294967295))) (2^(min (Int.toNat 32) (IntKind.bits .u64)))))) 4294967295)+(IntKind.wrap .u64 ((gl .and .u64 a0 4294967295)*(Int.fdiv a1 (2^(min (Int.toNat 32) (IntKind.bits .u64)))))))) (2^(min (Int.toNat 32) (IntKind.bits .u64)))))),(IntKind.wrap .u64 (a0*a1))),h))
noncomputable def A7.x:=cQ (bf [] [] bC) (br [] []) Tryz.func223 [.leaf (.int .u64),.leaf (.int .u64)] (.many [.leaf (.int .u64),.leaf (.int .u64)]) (fun x h=>A7 x.1 x.2 h) fun _ _=>by kernel_rfl
noncomputable def xU (a0:Int) (a1:Int):Option (Int×Int):=(A7 a0 a1 H.empty).bind fun p=>av false p.2 (.many [.leaf (.int .u64),.leaf (.int .u64)]) (an.un (.many [.leaf (.int .u64),.leaf (.int .u64)]) p.1)
noncomputable def xU.p:bj:=cF.low [.leaf (.int .u64),.leaf (.int .u64)] A7.x (.many [.leaf (.int .u64),.leaf (.int .u64)]) (fun x=>xU x.1 x.2) fun _=>by kernel_rfl
noncomputable def A0 (a0:Int) (a1:Int) (h:H):Option (((Int×Int))×H):=
(let h1:H:=H.new h [.int .u64 0,.int .u64 0] 2
((xU (IntKind.wrap .u64 (a0)) (IntKind.wrap .u64 (a1))).bind fun(bJ,ch)=>
((H.aY h1 (.aa h.next 2 0) [.int .u64 bJ,.int .u64 ch]).bind fun aI=>
((ah (.agg [.int .u64,.int .u64]) aI (.aa h.next 2 0:V)).bind fun(p9,p_)=>
(some ((p9,p_),aI))))))
noncomputable def A0.x:=cQ (bf [xU.p] [] bC) (br [] []) Tryz.func218 [.leaf (.int .i64),.leaf (.int .i64)] (.one (.agg [.int .u64,.int .u64])) (fun x h=>A0 x.1 x.2 h) fun _ _=>by kernel_rfl
noncomputable def xQ (a0:Int) (a1:Int):Option ((Int×Int)):=(A0 a0 a1 H.empty).bind fun p=>av false p.2 (.one (.agg [.int .u64,.int .u64])) (an.un (.one (.agg [.int .u64,.int .u64])) p.1)
noncomputable def xQ.p:bj:=cF.low [.leaf (.int .i64),.leaf (.int .i64)] A0.x (.one (.agg [.int .u64,.int .u64])) (fun x=>xQ x.1 x.2) fun _=>by kernel_rfl
noncomputable def AW (a0:Int) (h:H):Option ((Int)×H):=
((vo a0).bind fun bw=>
(some ((IntKind.wrap .i64 (64-bw)),h)))
noncomputable def AW.x:=cQ (bf [vo.p] [] bC) (br [] []) Tryz.func224 [.leaf (.int .u64)] (.one (.leaf (.int .i64))) (fun x h=>AW x h) fun _ _=>by kernel_rfl
noncomputable def vd (a0:Int):Option (Int):=(AW a0 H.empty).bind fun p=>av false p.2 (.one (.leaf (.int .i64))) (an.un (.one (.leaf (.int .i64))) p.1)
noncomputable def vd.p:bj:=cF.low [.leaf (.int .u64)] AW.x (.one (.leaf (.int .i64))) (fun x=>vd x) fun _=>by kernel_rfl
noncomputable def kU.aZ (a1:Int) (a2:Int) (b4:Int):(Int×Int)×H→Option (ca ((Int×Int)×H) (bG (Int) (Int×Int)×H)):=fun((eX,jN),h9)=>
(((bif !(decide ((4294967296:Int)≤eX))then(some ((decide ((IntKind.wrap .u64 ((IntKind.wrap .u64 (4294967296*jN))+(Int.fdiv (IntKind.wrap .u64 (a1*2^(min (Int.toNat (IntKind.wrap .u64 (b4))) (IntKind.bits .u64)))) (2^(min (Int.toNat 32) (IntKind.bits .u64))))))<(IntKind.wrap .u64 (eX*(gl .and .u64 (IntKind.wrap .u64 (a2*2^(min (Int.toNat (IntKind.wrap .u64 (b4))) (IntKind.bits .u64)))) 4294967295))))),h9))else (some (true,h9)))).bind fun(fj,cJ)=>
(bif fj then(bif (decide ((4294967296:Int)≤(IntKind.wrap .u64 (jN+(Int.fdiv (IntKind.wrap .u64 (a2*2^(min (Int.toNat (IntKind.wrap .u64 (b4))) (IntKind.bits .u64)))) (2^(min (Int.toNat 32) (IntKind.bits .u64))))))))then(some (.done (.aP (IntKind.wrap .u64 (eX-1)),cJ)))else (some (.more (((IntKind.wrap .u64 (eX-1)),(IntKind.wrap .u64 (jN+(Int.fdiv (IntKind.wrap .u64 (a2*2^(min (Int.toNat (IntKind.wrap .u64 (b4))) (IntKind.bits .u64)))) (2^(min (Int.toNat 32) (IntKind.bits .u64))))))),cJ))))else (some (.done (.aP eX,cJ)))))
noncomputable def kU.cl (a1:Int) (a2:Int) (b4:Int):(Int×Int)×H→Option (ca ((Int×Int)×H) (bG (Int) (Int×Int)×H)):=fun((fH,w_),eN)=>
(((bif !(decide ((4294967296:Int)≤fH))then(some ((decide ((IntKind.wrap .u64 ((IntKind.wrap .u64 (4294967296*w_))+(gl .and .u64 (IntKind.wrap .u64 (a1*2^(min (Int.toNat (IntKind.wrap .u64 (b4))) (IntKind.bits .u64)))) 4294967295)))<(IntKind.wrap .u64 (fH*(gl .and .u64 (IntKind.wrap .u64 (a2*2^(min (Int.toNat (IntKind.wrap .u64 (b4))) (IntKind.bits .u64)))) 4294967295))))),eN))else (some (true,eN)))).bind fun(gI,dy)=>
(bif gI then(bif (decide ((4294967296:Int)≤(IntKind.wrap .u64 (w_+(Int.fdiv (IntKind.wrap .u64 (a2*2^(min (Int.toNat (IntKind.wrap .u64 (b4))) (IntKind.bits .u64)))) (2^(min (Int.toNat 32) (IntKind.bits .u64))))))))then(some (.done (.aP (IntKind.wrap .u64 (fH-1)),dy)))else (some (.more (((IntKind.wrap .u64 (fH-1)),(IntKind.wrap .u64 (w_+(Int.fdiv (IntKind.wrap .u64 (a2*2^(min (Int.toNat (IntKind.wrap .u64 (b4))) (IntKind.bits .u64)))) (2^(min (Int.toNat 32) (IntKind.bits .u64))))))),dy))))else (some (.done (.aP fH,dy)))))
noncomputable def kU (a0:Int) (a1:Int) (a2:Int) (h:H):Option ((Int×Int)×H):=
((bif (decide (a2=0))then none else (some (.next (),h)):Option (bG (Unit) (Int×Int)×H)).bind fun(xf,h1)=>match xf with
|.next _=>
((bif (decide (a2≤a0))then none else (some (.next (),h1)):Option (bG (Unit) (Int×Int)×H)).bind fun(MI,h3)=>match MI with
|.next _=>
(bif (decide (a0=0))then(let ba:H:=H.de h3 0
(aJ (a2≠0) (aJ (a2≠0) (some (((IntKind.wrap .u64 (Int.tdiv a1 a2)),(Int.tmod a1 a2)),ba)))))else ((vd a2).bind fun b4=>
(aJ (0≤(IntKind.wrap .u64 (b4))) (aJ (0≤(IntKind.wrap .u64 (b4))) (aJ (0≤(IntKind.wrap .u64 (64-(IntKind.wrap .u64 (b4))))) (aJ (0≤(IntKind.wrap .u64 (b4))) (aJ ((Int.fdiv (IntKind.wrap .u64 (a2*2^(min (Int.toNat (IntKind.wrap .u64 (b4))) (IntKind.bits .u64)))) (2^(min (Int.toNat 32) (IntKind.bits .u64))))≠0) ((iter bd (kU.aZ a1 a2 b4) (((IntKind.wrap .u64 (Int.tdiv (gl .or .u64 (IntKind.wrap .u64 (a0*2^(min (Int.toNat (IntKind.wrap .u64 (b4))) (IntKind.bits .u64)))) (Int.fdiv a1 (2^(min (Int.toNat (IntKind.wrap .u64 (64-(IntKind.wrap .u64 (b4))))) (IntKind.bits .u64))))) (Int.fdiv (IntKind.wrap .u64 (a2*2^(min (Int.toNat (IntKind.wrap .u64 (b4))) (IntKind.bits .u64)))) (2^(min (Int.toNat 32) (IntKind.bits .u64)))))),(IntKind.wrap .u64 ((gl .or .u64 (IntKind.wrap .u64 (a0*2^(min (Int.toNat (IntKind.wrap .u64 (b4))) (IntKind.bits .u64)))) (Int.fdiv a1 (2^(min (Int.toNat (IntKind.wrap .u64 (64-(IntKind.wrap .u64 (b4))))) (IntKind.bits .u64)))))-(IntKind.wrap .u64 ((IntKind.wrap .u64 (Int.tdiv (gl .or .u64 (IntKind.wrap .u64 (a0*2^(min (Int.toNat (IntKind.wrap .u64 (b4))) (IntKind.bits .u64)))) (Int.fdiv a1 (2^(min (Int.toNat (IntKind.wrap .u64 (64-(IntKind.wrap .u64 (b4))))) (IntKind.bits .u64))))) (Int.fdiv (IntKind.wrap .u64 (a2*2^(min (Int.toNat (IntKind.wrap .u64 (b4))) (IntKind.bits .u64)))) (2^(min (Int.toNat 32) (IntKind.bits .u64))))))*(Int.fdiv (IntKind.wrap .u64 (a2*2^(min (Int.toNat (IntKind.wrap .u64 (b4))) (IntKind.bits .u64)))) (2^(min (Int.toNat 32) (IntKind.bits .u64))))))))),h3)).bind fun(wF,cX)=>match wF with
|.next _=>none
|.ret qc=>(some (qc,cX))
|.aP jq=>
(aJ ((Int.fdiv (IntKind.wrap .u64 (a2*2^(min (Int.toNat (IntKind.wrap .u64 (b4))) (IntKind.bits .u64)))) (2^(min (Int.toNat 32) (IntKind.bits .u64))))≠0) ((iter bd (kU.cl a1 a2 b4) (((IntKind.wrap .u64 (Int.tdiv (IntKind.wrap .u64 ((IntKind.wrap .u64 ((IntKind.wrap .u64 ((gl .or .u64 (IntKind.wrap .u64 (a0*2^(min (Int.toNat (IntKind.wrap .u64 (b4))) (IntKind.bits .u64)))) (Int.fdiv a1 (2^(min (Int.toNat (IntKind.wrap .u64 (64-(IntKind.wrap .u64 (b4))))) (IntKind.bits .u64)))))*4294967296))+(Int.fdiv (IntKind.wrap .u64 (a1*2^(min (Int.toNat (IntKind.wrap .u64 (b4))) (IntKind.bits .u64)))) (2^(min (Int.toNat 32) (IntKind.bits .u64))))))-(IntKind.wrap .u64 (jq*(IntKind.wrap .u64 (a2*2^(min (Int.toNat (IntKind.wrap .u64 (b4))) (IntKind.bits .u64)))))))) (Int.fdiv (IntKind.wrap .u64 (a2*2^(min (Int.toNat (IntKind.wrap .u64 (b4))) (IntKind.bits .u64)))) (2^(min (Int.toNat 32) (IntKind.bits .u64)))))),(IntKind.wrap .u64 ((IntKind.wrap .u64 ((IntKind.wrap .u64 ((IntKind.wrap .u64 ((gl .or .u64 (IntKind.wrap .u64 (a0*2^(min (Int.toNat (IntKind.wrap .u64 (b4))) (IntKind.bits .u64)))) (Int.fdiv a1 (2^(min (Int.toNat (IntKind.wrap .u64 (64-(IntKind.wrap .u64 (b4))))) (IntKind.bits .u64)))))*4294967296))+(Int.fdiv (IntKind.wrap .u64 (a1*2^(min (Int.toNat (IntKind.wrap .u64 (b4))) (IntKind.bits .u64)))) (2^(min (Int.toNat 32) (IntKind.bits .u64))))))-(IntKind.wrap .u64 (jq*(IntKind.wrap .u64 (a2*2^(min (Int.toNat (IntKind.wrap .u64 (b4))) (IntKind.bits .u64))))))))-(IntKind.wrap .u64 ((IntKind.wrap .u64 (Int.tdiv (IntKind.wrap .u64 ((IntKind.wrap .u64 ((IntKind.wrap .u64 ((gl .or .u64 (IntKind.wrap .u64 (a0*2^(min (Int.toNat (IntKind.wrap .u64 (b4))) (IntKind.bits .u64)))) (Int.fdiv a1 (2^(min (Int.toNat (IntKind.wrap .u64 (64-(IntKind.wrap .u64 (b4))))) (IntKind.bits .u64)))))*4294967296))+(Int.fdiv (IntKind.wrap .u64 (a1*2^(min (Int.toNat (IntKind.wrap .u64 (b4))) (IntKind.bits .u64)))) (2^(min (Int.toNat 32) (IntKind.bits .u64))))))-(IntKind.wrap .u64 (jq*(IntKind.wrap .u64 (a2*2^(min (Int.toNat (IntKind.wrap .u64 (b4))) (IntKind.bits .u64)))))))) (Int.fdiv (IntKind.wrap .u64 (a2*2^(min (Int.toNat (IntKind.wrap .u64 (b4))) (IntKind.bits .u64)))) (2^(min (Int.toNat 32) (IntKind.bits .u64))))))*(Int.fdiv (IntKind.wrap .u64 (a2*2^(min (Int.toNat (IntKind.wrap .u64 (b4))) (IntKind.bits .u64)))) (2^(min (Int.toNat 32) (IntKind.bits .u64))))))))),cX)).bind fun(sX,et)=>match sX with
|.next _=>none
|.ret wE=>(some (wE,et))
|.aP Hk=>
(aJ (0≤(IntKind.wrap .u64 (b4))) (some (((IntKind.wrap .u64 ((IntKind.wrap .u64 (jq*4294967296))+Hk)),(Int.fdiv (IntKind.wrap .u64 ((IntKind.wrap .u64 ((IntKind.wrap .u64 ((IntKind.wrap .u64 ((IntKind.wrap .u64 ((IntKind.wrap .u64 ((gl .or .u64 (IntKind.wrap .u64 (a0*2^(min (Int.toNat (IntKind.wrap .u64 (b4))) (IntKind.bits .u64)))) (Int.fdiv a1 (2^(min (Int.toNat (IntKind.wrap .u64 (64-(IntKind.wrap .u64 (b4))))) (IntKind.bits .u64)))))*4294967296))+(Int.fdiv (IntKind.wrap .u64 (a1*2^(min (Int.toNat (IntKind.wrap .u64 (b4))) (IntKind.bits .u64)))) (2^(min (Int.toNat 32) (IntKind.bits .u64))))))-(IntKind.wrap .u64 (jq*(IntKind.wrap .u64 (a2*2^(min (Int.toNat (IntKind.wrap .u64 (b4))) (IntKind.bits .u64))))))))*4294967296))+(gl .and .u64 (IntKind.wrap .u64 (a1*2^(min (Int.toNat (IntKind.wrap .u64 (b4))) (IntKind.bits .u64)))) 4294967295)))-(IntKind.wrap .u64 (Hk*(IntKind.wrap .u64 (a2*2^(min (Int.toNat (IntKind.wrap .u64 (b4))) (IntKind.bits .u64)))))))) (2^(min (Int.toNat (IntKind.wrap .u64 (b4))) (IntKind.bits .u64))))),et)))
|.bW _=>none))
|.bW _=>none))))))))
|.ret qb=>(some (qb,h3))
|.aP _=>none
|.bW _=>none)
|.ret s3=>(some (s3,h1))
|.aP _=>none
|.bW _=>none)
noncomputable def kU.x:=cQ (bf [vd.p] [] bC) {br [(20,[],[],none,none),(24,[],[],none,none)] [(17,[15,16],[.leaf (.int .u64),.leaf (.int .u64)],[15],[.leaf (.int .u64)],some 0,none),(24,[18,16],[.leaf (.int .u64),.leaf (.int .u64)],[18],[.leaf (.int .u64)],some 2,none)]with dB:=[(17,[78],[.leaf .bool]),(24,[113],[.leaf .bool])]} Tryz.func219 [.leaf (.int .u64),.leaf (.int .u64),.leaf (.int .u64)] (.many [.leaf (.int .u64),.leaf (.int .u64)]) (fun x h=>kU x.1 x.2.1 x.2.2 h) fun _ _=>by kernel_rfl
noncomputable def r3 (a0:Int) (a1:Int) (a2:Int):Option (Int×Int):=(kU a0 a1 a2 H.empty).bind fun p=>av false p.2 (.many [.leaf (.int .u64),.leaf (.int .u64)]) (an.un (.many [.leaf (.int .u64),.leaf (.int .u64)]) p.1)
noncomputable def r3.p:bj:=cF.low [.leaf (.int .u64),.leaf (.int .u64),.leaf (.int .u64)] kU.x (.many [.leaf (.int .u64),.leaf (.int .u64)]) (fun x=>r3 x.1 x.2.1 x.2.2) fun _=>by kernel_rfl
noncomputable def A1 (a0:Int) (a1:Int) (a2:Int) (h:H):Option ((Int×Int×Bool)×H):=
((xQ a0 a1).bind fun(wG,wH)=>
(let h2:H:=H.new h [.int .u64 0,.int .u64 0] 2
((H.aY h2 (.aa h.next 2 0) [.int .u64 wG,.int .u64 wH]).bind fun h3=>
((ah (.leaf (.int .u64)) h3 (.aa h.next 2 0)).bind fun eB=>
(bif (decide ((IntKind.wrap .u64 (a2))≤eB))then(some ((0,0,false),h3))else ((ah (.leaf (.int .u64)) h3 (.aa h.next 2 0)).bind fun fb=>
((ah (.leaf (.int .u64)) h3 (.aa h.next 2 1)).bind fun hc=>
((r3 fb hc (IntKind.wrap .u64 (a2))).bind fun(fp,oz)=>
(bif (decide ((128849018880000:Int)<fp))then(some ((0,0,false),h3))else (some (((IntKind.wrap .i64 (fp)),(IntKind.wrap .i64 (oz)),true),h3)))))))))))
noncomputable def A1.x:=cQ (bf [xQ.p,r3.p] [] bC) (br [] []) Tryz.func210 [.leaf (.int .i64),.leaf (.int .i64),.leaf (.int .i64)] (.many [.leaf (.int .i64),.leaf (.int .i64),.leaf .bool]) (fun x h=>A1 x.1 x.2.1 x.2.2 h) fun _ _=>by kernel_rfl
noncomputable def r1 (a0:Int) (a1:Int) (a2:Int):Option (Int×Int×Bool):=(A1 a0 a1 a2 H.empty).bind fun p=>av false p.2 (.many [.leaf (.int .i64),.leaf (.int .i64),.leaf .bool]) (an.un (.many [.leaf (.int .i64),.leaf (.int .i64),.leaf .bool]) p.1)
noncomputable def r1.p:bj:=cF.low [.leaf (.int .i64),.leaf (.int .i64),.leaf (.int .i64)] A1.x (.many [.leaf (.int .i64),.leaf (.int .i64),.leaf .bool]) (fun x=>r1 x.1 x.2.1 x.2.2) fun _=>by kernel_rfl
noncomputable def Bg (a0:Int) (a1:Int) (a2:Int) (h:H):Option ((Int×Int×Int)×H):=
((bB true h [.int .i64] ⟨.lp true ([.int .i64 a0,.int .i64 a1,.int .i64 a2]) 0,3,3,false⟩).bind fun s2=>
((tO s2).bind fun bw=>
(bif (!bw)then(some ((0,0,2),h))else (bif (decide (a2=0))then(some ((0,0,16),h))else ((r1 a0 a1 a2).bind fun(ch,bQ,di)=>
(bif (!di)then(some ((0,0,15),h))else (some ((ch,bQ,0),h))))))))
noncomputable def Bg.x:=cQ (bf [tO.p,r1.p] [] bC) (br [] []) Tryz.func198 [.leaf (.int .i64),.leaf (.int .i64),.leaf (.int .i64)] (.many [.leaf (.int .i64),.leaf (.int .i64),.leaf (.int .i64)]) (fun x h=>Bg x.1 x.2.1 x.2.2 h) fun _ _=>by kernel_rfl
noncomputable def x2 (a0:Int) (a1:Int) (a2:Int):Option (Int×Int×Int):=(Bg a0 a1 a2 H.empty).bind fun p=>av false p.2 (.many [.leaf (.int .i64),.leaf (.int .i64),.leaf (.int .i64)]) (an.un (.many [.leaf (.int .i64),.leaf (.int .i64),.leaf (.int .i64)]) p.1)
noncomputable def x2.p:bj:=cF.low [.leaf (.int .i64),.leaf (.int .i64),.leaf (.int .i64)] Bg.x (.many [.leaf (.int .i64),.leaf (.int .i64),.leaf (.int .i64)]) (fun x=>x2 x.1 x.2.1 x.2.2) fun _=>by kernel_rfl
noncomputable def BS (a0:(Int×Int)) (a1:Int) (h:H):Option (((Int×Int)×(Int×Int)×Int)×H):=
(match a0 with
|(cz,cA)=>
(let h1:H:=H.new h [.int .i64 cz,.int .i64 cA] 2
(let h2:H:=H.new h1 [.int .i64 0,.int .i64 0] 2
(let h3:H:=H.new h2 [.int .i64 0,.int .i64 0] 2
((ah (.agg [.int .i64,.int .i64]) h3 (.aa h.next 2 0)).bind fun(ij,jh)=>
((q5 (ij,jh)).bind fun di=>
(bif (!di)then((H.aY h3 (.aa h1.next 2 0) [.int .i64 0,.int .i64 0]).bind fun bp=>
((H.aY bp (.aa h2.next 2 0) [.int .i64 0,.int .i64 0]).bind fun bE=>
((ah (.agg [.int .i64,.int .i64]) bE (.aa h1.next 2 0:V)).bind fun(sQ,sR)=>
((ah (.agg [.int .i64,.int .i64]) bE (.aa h2.next 2 0:V)).bind fun(sO,sP)=>
(some (((sQ,sR),(sO,sP),1),bE))))))else (bif (decide (a1<0))then((H.aY h3 (.aa h1.next 2 0) [.int .i64 0,.int .i64 0]).bind fun c5=>
((H.aY c5 (.aa h2.next 2 0) [.int .i64 0,.int .i64 0]).bind fun cJ=>
((ah (.agg [.int .i64,.int .i64]) cJ (.aa h1.next 2 0:V)).bind fun(k9,k_)=>
((ah (.agg [.int .i64,.int .i64]) cJ (.aa h2.next 2 0:V)).bind fun(sz,sA)=>
(some (((k9,k_),(sz,sA),2),cJ))))))else ((ah (.leaf (.int .i64)) h3 (.aa h.next 2 1)).bind fun oe=>
(bif (decide (oe<a1))then((H.aY h3 (.aa h1.next 2 0) [.int .i64 0,.int .i64 0]).bind fun cD=>
((H.aY cD (.aa h2.next 2 0) [.int .i64 0,.int .i64 0]).bind fun dU=>
((ah (.agg [.int .i64,.int .i64]) dU (.aa h1.next 2 0:V)).bind fun(su,sw)=>
((ah (.agg [.int .i64,.int .i64]) dU (.aa h2.next 2 0:V)).bind fun(nS,nT)=>
(some (((su,sw),(nS,nT),17),dU))))))else ((ah (.leaf (.int .i64)) h3 (.aa h.next 2 1)).bind fun gu=>
(bif (decide (gu=0))then((H.aY h3 (.aa h1.next 2 0) [.int .i64 0,.int .i64 0]).bind fun dy=>
((H.aY dy (.aa h2.next 2 0) [.int .i64 0,.int .i64 0]).bind fun et=>
((ah (.agg [.int .i64,.int .i64]) et (.aa h1.next 2 0:V)).bind fun(v8,v_)=>
((ah (.agg [.int .i64,.int .i64]) et (.aa h2.next 2 0:V)).bind fun(nP,nQ)=>
(some (((v8,v_),(nP,nQ),0),et))))))else ((ah (.leaf (.int .i64)) h3 (.aa h.next 2 0)).bind fun lq=>
((ah (.leaf (.int .i64)) h3 (.aa h.next 2 1)).bind fun mI=>
((x2 lq a1 mI).bind fun(TG,pc,TH)=>
(let h0:H:=H.de h3 0
((ah (.leaf (.int .i64)) h0 (.aa h.next 2 0)).bind fun o8=>
((ah (.leaf (.int .i64)) h0 (.aa h.next 2 1)).bind fun lr=>
((H.aY h0 (.aa h1.next 2 0) [.int .i64 TG,.int .i64 a1]).bind fun c2=>
((H.aY c2 (.aa h2.next 2 0) [.int .i64 (IntKind.wrap .i64 (o8-TG)),.int .i64 (IntKind.wrap .i64 (lr-a1))]).bind fun jr=>
(aJ (fg (.aa h.next 2 0:V) (.aa h1.next 2 0:V)=true) (aJ (fg (.aa h.next 2 1:V) (.aa h1.next 2 0:V)=true) ((ah (.agg [.int .i64,.int .i64]) jr (.aa h1.next 2 0:V)).bind fun(abI,abJ)=>
((ah (.agg [.int .i64,.int .i64]) jr (.aa h2.next 2 0:V)).bind fun(Kt,Ku)=>
(some (((abI,abJ),(Kt,Ku),0),jr))))))))))))))))))))))))))
noncomputable def BS.x:=cQ (bf [q5.p,x2.p] [] bC) (br [] []) Tryz.func178 [.agg [.int .i64,.int .i64],.leaf (.int .i64)] (.many [.agg [.int .i64,.int .i64],.agg [.int .i64,.int .i64],.leaf (.int .i64)]) (fun x h=>BS x.1 x.2 h) fun _ _=>by kernel_rfl
noncomputable def yo (a0:(Int×Int)) (a1:Int):Option ((Int×Int)×(Int×Int)×Int):=(BS a0 a1 H.empty).bind fun p=>av false p.2 (.many [.agg [.int .i64,.int .i64],.agg [.int .i64,.int .i64],.leaf (.int .i64)]) (an.un (.many [.agg [.int .i64,.int .i64],.agg [.int .i64,.int .i64],.leaf (.int .i64)]) p.1)
noncomputable def yo.p:bj:=cF.low [.agg [.int .i64,.int .i64],.leaf (.int .i64)] BS.x (.many [.agg [.int .i64,.int .i64],.agg [.int .i64,.int .i64],.leaf (.int .i64)]) (fun x=>yo x.1 x.2) fun _=>by kernel_rfl
noncomputable def oE.aZ (a0:au):(Int×Int)×H→Option (ca ((Int×Int)×H) (bG (Int) (Int)×H)):=fun((bb,cc),h3)=>
(bif (decide (cc<((a0.len:Nat):Int)))then(aJ (0≤cc∧cc<((a0.len:Nat):Int)) ((ah (.agg [.int .i64,.int .i64]) h3 (V.add a0.a (Int.toNat cc*2))).bind fun(ij,jh)=>
(let ba:H:=H.new h3 [.int .i64 0,.int .i64 0] 2
((H.aY ba (.aa h3.next 2 0) [.int .i64 ij,.int .i64 jh]).bind fun bp=>
((((ah (.leaf (.int .i64)) bp (.aa h3.next 2 0)).bind fun fK=>
(bif !(decide (fK<1))then((ah (.leaf (.int .i64)) bp (.aa h3.next 2 0)).bind fun gM=>
(bif !(decide ((1073741824:Int)<gM))then((ah (.leaf (.int .i64)) bp (.aa h3.next 2 1)).bind fun fT=>
(bif !(decide (fT<1))then((ah (.leaf (.int .i64)) bp (.aa h3.next 2 1)).bind fun e9=>
(some ((decide ((10737418240000:Int)<e9)),bp)))else (some (true,bp))))else (some (true,bp))))else (some (true,bp))))).bind fun(df,cX)=>
(bif df then(some (.done (.ret 2,cX)))else (((let cM:H:=H.de cX 0
(bif (decide ((0:Int)<cc))then(aJ (0≤(IntKind.wrap .i64 (cc-1))∧(IntKind.wrap .i64 (cc-1))<((a0.len:Nat):Int)) (aJ (V.bm ((V.add a0.a (Int.toNat (IntKind.wrap .i64 (cc-1))*2)):V)=true) ((ah (.leaf (.int .i64)) cM (V.add (V.add a0.a (Int.toNat (IntKind.wrap .i64 (cc-1))*2)) 0)).bind fun oe=>
((ah (.leaf (.int .i64)) cM (.aa h3.next 2 0)).bind fun hb=>
(some ((decide (hb≤oe)),cM))))))else (some (false,cM))))).bind fun(fH,d_)=>
(bif fH then(some (.done (.ret 5,d_)))else ((ah (.leaf (.int .i64)) d_ (.aa h3.next 2 1)).bind fun ln=>
(some (.more (((IntKind.wrap .i64 (bb+ln)),(IntKind.wrap .i64 (cc+1))),d_))))))))))))else (some (.done (.aP bb,h3))))
noncomputable def oE (a0:au) (h:H):Option ((Int)×H):=
(bif (decide ((32:Int)<((a0.len:Nat):Int)))then(some (8,h))else ((iter bd (oE.aZ a0) ((0,0),h)).bind fun(Lz,eO)=>match Lz with
|.next _=>none
|.ret LA=>(some (LA,eO))
|.aP om=>
(bif (decide ((10737418240000:Int)<om))then(some (15,eO))else (some (0,eO)))
|.bW _=>none))
noncomputable def oE.x:=cQ (bf [] [] bC) {br [] [(5,[3,11],[.leaf (.int .i64),.leaf (.int .i64)],[3],[.leaf (.int .i64)],some 0,none)]with dB:=[(7,[16],[.leaf .bool]),(9,[35],[.leaf .bool])]} Tryz.func36 [.leaf .slice] (.one (.leaf (.int .i64))) (fun x h=>oE x h) fun _ _=>by kernel_rfl
noncomputable def x7 (a0:(List (Int×Int))):Option (Int):=(oE (ae false [.int .i64,.int .i64] a0) H.empty).bind fun p=>av false p.2 (.one (.leaf (.int .i64))) (an.un (.one (.leaf (.int .i64))) p.1)
noncomputable def x7.p:bj:=cF.low [.leaf (.row [.int .i64,.int .i64])] oE.x (.one (.leaf (.int .i64))) (fun x=>x7 x) fun _=>by kernel_rfl
noncomputable def qY.aZ (a0:au):(au×Int×Int)×H→Option (ca ((au×Int×Int)×H) (bG (au×Int) (au×Int)×H)):=fun((bb,cc,cj),aI)=>
(bif (decide (cj<((a0.len:Nat):Int)))then(aJ (0≤cj∧cj<((a0.len:Nat):Int)) ((ah (.agg [.int .i64,.int .i64]) aI (V.add a0.a (Int.toNat cj*2))).bind fun(p9,p_)=>
(let bp:H:=H.new aI [.int .i64 0,.int .i64 0] 2
((H.aY bp (.aa aI.next 2 0) [.int .i64 p9,.int .i64 p_]).bind fun bE=>
(let h8:H:=H.de bE 1
((ah (.leaf (.int .i64)) h8 (.aa aI.next 2 1)).bind fun fT=>
((c7 h8 (some bE.next) 1 8 bb [.int .i64 fT] 1).bind fun(tw,cJ)=>
((ah (.leaf (.int .i64)) cJ (.aa aI.next 2 1)).bind fun oe=>
(aJ (fg ((FO (.slice bb.a bb.len bb.cap bb.tail:V) (.slice (.lp true ([.int .i64 fT]) 0) 1 1 false:V) (some bE.next)):V) (.aa aI.next 2 1:V)=true) (some (.more ((tw,(IntKind.wrap .i64 (cc+oe)),(IntKind.wrap .i64 (cj+1))),cJ))))))))))))else (some (.done (.aP (bb,cc),aI))))
noncomputable def qY (a0:au) (h:H):Option ((au×Int)×H):=
((iter bd (qY.aZ a0) ((⟨.nil,0,0,false⟩,0,0),h)).bind fun(wD,cD)=>match wD with
|.next _=>none
|.ret C9=>(some (C9,cD))
|.aP (xd,gI)=>
(some ((xd,gI),cD))
|.bW _=>none)
noncomputable def qY.x:=cQ (bf [] [] bC) {br [] [(4,[4,5,10],[.leaf .slice,.leaf (.int .i64),.leaf (.int .i64)],[4,5],[.leaf .slice,.leaf (.int .i64)],some 0,none)]with apps:=[18]} Tryz.func37 [.leaf .slice] (.many [.leaf .slice,.leaf (.int .i64)]) (fun x h=>qY x h) fun _ _=>by kernel_rfl
noncomputable def tV (a0:(List (Int×Int))):Option ((List (Int))×Int):=(qY (ae false [.int .i64,.int .i64] a0) H.empty).bind fun p=>av false p.2 (.many [.leaf (.row [.int .i64]),.leaf (.int .i64)]) (an.un (.many [.leaf .slice,.leaf (.int .i64)]) p.1)
noncomputable def tV.p:bj:=cF.low [.leaf (.row [.int .i64,.int .i64])] qY.x (.many [.leaf (.row [.int .i64]),.leaf (.int .i64)]) (fun x=>tV x) fun _=>by kernel_rfl
noncomputable def BF (a0:au) (h:H):Option ((Int×Int)×H):=
((bB true h [.int .i64,.int .i64] a0).bind fun s2=>
((x7 s2).bind fun bw=>
(bif (!(decide (bw=0)))then(some ((0,1),h))else ((bB true h [.int .i64,.int .i64] a0).bind fun ee=>
((tV ee).bind fun(ch,bQ)=>
(some ((bQ,0),h)))))))
noncomputable def BF.x:=cQ (bf [x7.p,tV.p] [] bC) (br [] []) Tryz.func9 [.leaf .slice] (.many [.leaf (.int .i64),.leaf (.int .i64)]) (fun x h=>BF x h) fun _ _=>by kernel_rfl
noncomputable def q6 (a0:(List (Int×Int))):Option (Int×Int):=(BF (ae false [.int .i64,.int .i64] a0) H.empty).bind fun p=>av false p.2 (.many [.leaf (.int .i64),.leaf (.int .i64)]) (an.un (.many [.leaf (.int .i64),.leaf (.int .i64)]) p.1)
noncomputable def q6.p:bj:=cF.low [.leaf (.row [.int .i64,.int .i64])] BF.x (.many [.leaf (.int .i64),.leaf (.int .i64)]) (fun x=>q6 x) fun _=>by kernel_rfl
noncomputable def ET (a0:au) (h:H):Option ((au)×H):=
(bif !(V.h_ (a0.a:V))then(bif (!(V.bm (a0.a:V)))then(some (⟨.nil,0,0,false⟩,h))else ((cellsOf h (.slice a0.a a0.len a0.cap a0.tail:V) 1).bind fun(oy,oh)=>
((c7 h none 1 8 (⟨.lp true ([]) 0,0,0,false⟩) oh oy).bind fun(cU,h2)=>
(some (cU,h2)))))else none)
noncomputable def ET.p:bj:=AL (bf [] [] bC) (br [] []) Tryz.func115 1 8 ET (fun _ _=>by kernel_rfl) fun _ _=>by kernel_rfl
noncomputable def U8.p:bj:=⟨115,mE [.leaf (.row [.int .i64])] (.one (.leaf (.row [.int .i64]))) (k4 8),Ja ET.p.ok rfl (by omega) rfl⟩
noncomputable def qS.aZ (a1:au):(Int×Int)×H→Option (ca ((Int×Int)×H) (bG (Int) (Int×Int)×H)):=fun((iY,kR),bp)=>
(bif (decide (kR<((a1.len:Nat):Int)))then(aJ (0≤kR∧kR<((a1.len:Nat):Int)) ((ah (.leaf (.int .i64)) bp (V.add a1.a (Int.toNat kR*1))).bind fun fK=>
(some (.more (((IntKind.wrap .i64 (iY+fK)),(IntKind.wrap .i64 (kR+1))),bp)))))else (some (.done (.aP iY,bp))))
noncomputable def qS (a0:Int) (a1:au) (h:H):Option ((Int×Int)×H):=
((r2 a0).bind fun bw=>
(bif (!bw)then(some ((0,2),h))else (bif (decide (((a1.len:Nat):Int)=0))then(some ((0,9),h))else (bif (decide ((64:Int)<((a1.len:Nat):Int)))then(some ((0,8),h))else ((bB true h [.int .i64] a1).bind fun cU=>
((tO cU).bind fun bJ=>
(bif (!bJ)then(some ((0,2),h))else ((iter bd (qS.aZ a1) ((0,0),h)).bind fun(mJ,h8)=>match mJ with
|.next _=>none
|.ret sY=>(some (sY,h8))
|.aP df=>
((r2 df).bind fun ni=>
(bif (!ni)then(some ((0,2),h8))else (bif (decide (df=0))then(some ((0,16),h8))else (some ((df,0),h8)))))
|.bW _=>none))))))))
noncomputable def qS.x:=cQ (bf [tO.p,r2.p] [] bC) (br [] [(11,[6,27],[.leaf (.int .i64),.leaf (.int .i64)],[6],[.leaf (.int .i64)],some 1,none)]) Tryz.func211 [.leaf (.int .i64),.leaf .slice] (.many [.leaf (.int .i64),.leaf (.int .i64)]) (fun x h=>qS x.1 x.2 h) fun _ _=>by kernel_rfl
noncomputable def tP (a0:Int) (a1:(List (Int))):Option (Int×Int):=(qS a0 (ae false [.int .i64] a1) H.empty).bind fun p=>av false p.2 (.many [.leaf (.int .i64),.leaf (.int .i64)]) (an.un (.many [.leaf (.int .i64),.leaf (.int .i64)]) p.1)
noncomputable def tP.p:bj:=cF.low [.leaf (.int .i64),.leaf (.row [.int .i64])] qS.x (.many [.leaf (.int .i64),.leaf (.int .i64)]) (fun x=>tP x.1 x.2) fun _=>by kernel_rfl
noncomputable def jz.aZ (T:Table) (a0:au) (a1:Int) (a3:V):(Int)×H→Option (ca ((Int)×H) (bG (Unit) (Unit)×H)):=fun(cj,aI)=>
(((let ba:H:=H.de aI 0
(bif (decide (a1<cj))then(aJ (0≤cj∧cj<((a0.len:Nat):Int)) ((ah (.leaf (.int .i64)) ba (V.add a0.a (Int.toNat cj*1))).bind fun hc=>
(aJ (0≤(IntKind.wrap .i64 (cj-1))∧(IntKind.wrap .i64 (cj-1))<((a0.len:Nat):Int)) ((ah (.leaf (.int .i64)) ba (V.add a0.a (Int.toNat (IntKind.wrap .i64 (cj-1))*1))).bind fun fK=>
(eE T.dg a3 [.int .i64 hc,.int .i64 fK] ba fun ajt h9=>
(an.pack (.one (.leaf (.int .i64))) ajt).bind fun pd=>
(some ((decide (pd<0)),h9)))))))else (some (false,ba))))).bind fun(df,cX)=>
(bif df then(let cM:H:=H.de cX 0
(aJ (0≤(IntKind.wrap .i64 (cj-1))∧(IntKind.wrap .i64 (cj-1))<((a0.len:Nat):Int)) ((ah (.leaf (.int .i64)) cM (V.add a0.a (Int.toNat (IntKind.wrap .i64 (cj-1))*1))).bind fun oe=>
(aJ (0≤cj∧cj<((a0.len:Nat):Int)) ((ah (.leaf (.int .i64)) cM (V.add a0.a (Int.toNat cj*1))).bind fun hb=>
(aJ (0≤cj∧cj<((a0.len:Nat):Int)) ((H.aY cM (V.add a0.a (Int.toNat cj*1)) [.int .i64 oe]).bind fun dU=>
(aJ (0≤(IntKind.wrap .i64 (cj-1))∧(IntKind.wrap .i64 (cj-1))<((a0.len:Nat):Int)) ((H.aY dU (V.add a0.a (Int.toNat (IntKind.wrap .i64 (cj-1))*1)) [.int .i64 hb]).bind fun d_=>
(some (.more ((IntKind.wrap .i64 (cj-1)),d_))))))))))))else (some (.done (.aP (),cX)))))
noncomputable def jz.cl (T:Table) (a0:au) (a1:Int) (a2:Int) (a3:V):(Int)×H→Option (ca ((Int)×H) (bG (Unit) (Unit)×H)):=fun(bb,h2)=>
(bif (decide (bb<a2))then((iter bd (jz.aZ T a0 a1 a3) (bb,h2)).bind fun(LB,eN)=>match LB with
|.next _=>none
|.ret LC=>(some (.done (.ret LC,eN)))
|.aP _=>
(some (.more ((IntKind.wrap .i64 (bb+1)),eN)))
|.bW _=>none)else (some (.done (.aP (),h2))))
noncomputable def jz (T:Table) (a0:au) (a1:Int) (a2:Int) (a3:V) (h:H):Option ((Unit)×H):=
((iter bd (jz.cl T a0 a1 a2 a3) ((IntKind.wrap .i64 (a1+1)),h)).bind fun(sX,et)=>match sX with
|.next _=>none
|.ret wE=>(some (wE,et))
|.aP _=>
(some ((),et))
|.bW _=>none)
noncomputable def jz.p (T:cq):bj:=eu (bf [] [] T) {br [] [(4,[9],[.leaf (.int .i64)],[],[],some 2,none),(1,[8],[.leaf (.int .i64)],[],[],some 0,none)]with dB:=[(4,[34],[.leaf .bool])]} Tryz.func226 [.leaf .slice,.leaf (.int .i64),.leaf (.int .i64),.leaf .dyn] (.many []) (fun x h=>jz T.t x.1 x.2.1 x.2.2.1 x.2.2.2 h) fun _ _=>by kernel_rfl
noncomputable def nx.aZ (T:Table) (a0:au) (a1:Int) (a2:Int) (a3:Int):(Int)×H→Option (ca ((Int)×H) (bG (Unit) (Unit)×H)):=fun(bb,h2)=>
(bif (decide (bb<a3))then(let h3:H:=H.de h2 0
(aJ (0≤(IntKind.wrap .i64 (a2+bb))∧(IntKind.wrap .i64 (a2+bb))<((a0.len:Nat):Int)) ((ah (.leaf (.int .i64)) h3 (V.add a0.a (Int.toNat (IntKind.wrap .i64 (a2+bb))*1))).bind fun eB=>
(aJ (0≤(IntKind.wrap .i64 (a1+bb))∧(IntKind.wrap .i64 (a1+bb))<((a0.len:Nat):Int)) ((ah (.leaf (.int .i64)) h3 (V.add a0.a (Int.toNat (IntKind.wrap .i64 (a1+bb))*1))).bind fun fb=>
(aJ (0≤(IntKind.wrap .i64 (a1+bb))∧(IntKind.wrap .i64 (a1+bb))<((a0.len:Nat):Int)) ((H.aY h3 (V.add a0.a (Int.toNat (IntKind.wrap .i64 (a1+bb))*1)) [.int .i64 eB]).bind fun bp=>
(aJ (0≤(IntKind.wrap .i64 (a2+bb))∧(IntKind.wrap .i64 (a2+bb))<((a0.len:Nat):Int)) ((H.aY bp (V.add a0.a (Int.toNat (IntKind.wrap .i64 (a2+bb))*1)) [.int .i64 fb]).bind fun bE=>
(some (.more ((IntKind.wrap .i64 (bb+1)),bE))))))))))))else (some (.done (.aP (),h2))))
noncomputable def nx (T:Table) (a0:au) (a1:Int) (a2:Int) (a3:Int) (a4:V) (h:H):Option ((Unit)×H):=
((iter bd (nx.aZ T a0 a1 a2 a3) (0,h)).bind fun(mJ,h8)=>match mJ with
|.next _=>none
|.ret sY=>(some (sY,h8))
|.aP _=>
(some ((),h8))
|.bW _=>none)
noncomputable def nx.p (T:cq):bj:=eu (bf [] [] T) (br [] [(1,[10],[.leaf (.int .i64)],[],[],some 0,none)]) Tryz.func229 [.leaf .slice,.leaf (.int .i64),.leaf (.int .i64),.leaf (.int .i64),.leaf .dyn] (.many []) (fun x h=>nx T.t x.1 x.2.1 x.2.2.1 x.2.2.2.1 x.2.2.2.2 h) fun _ _=>by kernel_rfl
noncomputable def iE.tb (T:Table):Table:=tS [] [] T
noncomputable def iE.b (T:cq):cq:=bf [] [] T
noncomputable def iE.aZ (T:Table) (a0:au) (a2:Int) (a4:V):(Int×Int)×H→Option (ca ((Int×Int)×H) (bG (Int) (Unit)×H)):=fun((bb,cc),h3)=>
(bif (!(decide (bb=cc)))then((bif (decide (cc<bb))then((nx (iE.tb T) a0 (IntKind.wrap .i64 (a2-bb)) a2 cc a4 h3).bind fun(_,aI)=>
(some (.next ((IntKind.wrap .i64 (bb-cc)),cc),aI)))else ((nx (iE.tb T) a0 (IntKind.wrap .i64 (a2-bb)) (IntKind.wrap .i64 ((IntKind.wrap .i64 (a2+cc))-bb)) bb a4 h3).bind fun(_,ba)=>
(some (.next (bb,(IntKind.wrap .i64 (cc-bb))),ba))):Option (bG (Int×Int) (Unit)×H)).bind fun(D9,bp)=>match D9 with
|.next (jN,g1)=>
(some (.more ((jN,g1),bp)))
|.ret sY=>(some (.done (.ret sY,bp)))
|.aP _=>none
|.bW _=>none)else (some (.done (.aP bb,h3))))
noncomputable def iE (T:Table) (a0:au) (a1:Int) (a2:Int) (a3:Int) (a4:V) (h:H):Option ((Unit)×H):=
((iter bd (iE.aZ T a0 a2 a4) (((IntKind.wrap .i64 (a2-a1)),(IntKind.wrap .i64 (a3-a2))),h)).bind fun(Lk,cJ)=>match Lk with
|.next _=>none
|.ret C5=>(some (C5,cJ))
|.aP kJ=>
((nx (iE.tb T) a0 (IntKind.wrap .i64 (a2-kJ)) a2 kJ a4 cJ).bind fun(_,cD)=>
(some ((),cD)))
|.bW _=>none)
noncomputable def iE.p (T:cq):bj:=eu (bf [nx.p (iE.b T)] [] (iE.b T)) (br [(23,[10,11],[.leaf (.int .i64),.leaf (.int .i64)],none,none)] [(2,[10,11],[.leaf (.int .i64),.leaf (.int .i64)],[10],[.leaf (.int .i64)],some 0,none)]) Tryz.func228 [.leaf .slice,.leaf (.int .i64),.leaf (.int .i64),.leaf (.int .i64),.leaf .dyn] (.many []) (fun x h=>iE T.t x.1 x.2.1 x.2.2.1 x.2.2.2.1 x.2.2.2.2 h) fun _ _=>by kernel_rfl
noncomputable def dz.tb (T:Table):Table:=tS [] [] T
noncomputable def dz.b (T:cq):cq:=bf [] [] T
noncomputable def dz.aZ (T:Table) (a0:au) (a1:Int) (a4:V):(Int×Int)×H→Option (ca ((Int×Int)×H) (bG (Int) (Unit)×H)):=fun((bb,cc),h3)=>
(bif (decide (bb<cc))then(let aI:H:=H.de h3 0
(aJ (0≤(IntKind.wrap .i64 ((Int.fdiv (IntKind.wrap .u64 ((IntKind.wrap .i64 (bb+cc)))) (2^(min (Int.toNat 1) (IntKind.bits .u64))))))∧(IntKind.wrap .i64 ((Int.fdiv (IntKind.wrap .u64 ((IntKind.wrap .i64 (bb+cc)))) (2^(min (Int.toNat 1) (IntKind.bits .u64))))))<((a0.len:Nat):Int)) ((ah (.leaf (.int .i64)) aI (V.add a0.a (Int.toNat (IntKind.wrap .i64 ((Int.fdiv (IntKind.wrap .u64 ((IntKind.wrap .i64 (bb+cc)))) (2^(min (Int.toNat 1) (IntKind.bits .u64))))))*1))).bind fun fb=>
(aJ (0≤a1∧a1<((a0.len:Nat):Int)) ((ah (.leaf (.int .i64)) aI (V.add a0.a (Int.toNat a1*1))).bind fun hc=>
(eE T.dg a4 [.int .i64 fb,.int .i64 hc] aI fun aju h8=>
(an.pack (.one (.leaf (.int .i64))) aju).bind fun xF=>
((bif (decide (xF<0))then(some (.next ((IntKind.wrap .i64 ((IntKind.wrap .i64 ((Int.fdiv (IntKind.wrap .u64 ((IntKind.wrap .i64 (bb+cc)))) (2^(min (Int.toNat 1) (IntKind.bits .u64))))))+1)),cc),h8))else (some (.next (bb,(IntKind.wrap .i64 ((Int.fdiv (IntKind.wrap .u64 ((IntKind.wrap .i64 (bb+cc)))) (2^(min (Int.toNat 1) (IntKind.bits .u64))))))),h8)):Option (bG (Int×Int) (Unit)×H)).bind fun(aeg,c5)=>match aeg with
|.next (oj,pa)=>
(some (.more ((oj,pa),c5)))
|.ret qc=>(some (.done (.ret qc,c5)))
|.aP _=>none
|.bW _=>none)))))))else (some (.done (.aP bb,h3))))
noncomputable def dz.cl (T:Table) (a0:au) (xd:Int):(Int)×H→Option (ca ((Int)×H) (bG (Unit) (Unit)×H)):=fun(gI,dy)=>
(bif (decide (gI<(IntKind.wrap .i64 (xd-1))))then(let et:H:=H.de dy 0
(aJ (0≤(IntKind.wrap .i64 (gI+1))∧(IntKind.wrap .i64 (gI+1))<((a0.len:Nat):Int)) ((ah (.leaf (.int .i64)) et (V.add a0.a (Int.toNat (IntKind.wrap .i64 (gI+1))*1))).bind fun mG=>
(aJ (0≤gI∧gI<((a0.len:Nat):Int)) ((ah (.leaf (.int .i64)) et (V.add a0.a (Int.toNat gI*1))).bind fun oi=>
(aJ (0≤gI∧gI<((a0.len:Nat):Int)) ((H.aY et (V.add a0.a (Int.toNat gI*1)) [.int .i64 mG]).bind fun hZ=>
(aJ (0≤(IntKind.wrap .i64 (gI+1))∧(IntKind.wrap .i64 (gI+1))<((a0.len:Nat):Int)) ((H.aY hZ (V.add a0.a (Int.toNat (IntKind.wrap .i64 (gI+1))*1)) [.int .i64 oi]).bind fun gW=>
(some (.more ((IntKind.wrap .i64 (gI+1)),gW))))))))))))else (some (.done (.aP (),dy))))
noncomputable def dz.fM (T:Table) (a0:au) (a2:Int) (a4:V):(Int×Int)×H→Option (ca ((Int×Int)×H) (bG (Int) (Unit)×H)):=fun((lu,oo),kc)=>
(bif (decide (lu<oo))then(let c2:H:=H.de kc 0
(aJ (0≤a2∧a2<((a0.len:Nat):Int)) ((ah (.leaf (.int .i64)) c2 (V.add a0.a (Int.toNat a2*1))).bind fun o9=>
(aJ (0≤(IntKind.wrap .i64 ((Int.fdiv (IntKind.wrap .u64 ((IntKind.wrap .i64 (lu+oo)))) (2^(min (Int.toNat 1) (IntKind.bits .u64))))))∧(IntKind.wrap .i64 ((Int.fdiv (IntKind.wrap .u64 ((IntKind.wrap .i64 (lu+oo)))) (2^(min (Int.toNat 1) (IntKind.bits .u64))))))<((a0.len:Nat):Int)) ((ah (.leaf (.int .i64)) c2 (V.add a0.a (Int.toNat (IntKind.wrap .i64 ((Int.fdiv (IntKind.wrap .u64 ((IntKind.wrap .i64 (lu+oo)))) (2^(min (Int.toNat 1) (IntKind.bits .u64))))))*1))).bind fun jJ=>
(eE T.dg a4 [.int .i64 o9,.int .i64 jJ] c2 fun v35 rO=>
(an.pack (.one (.leaf (.int .i64))) v35).bind fun ag5=>
((bif (!(decide (ag5<0)))then(some (.next ((IntKind.wrap .i64 ((IntKind.wrap .i64 ((Int.fdiv (IntKind.wrap .u64 ((IntKind.wrap .i64 (lu+oo)))) (2^(min (Int.toNat 1) (IntKind.bits .u64))))))+1)),oo),rO))else (some (.next (lu,(IntKind.wrap .i64 ((Int.fdiv (IntKind.wrap .u64 ((IntKind.wrap .i64 (lu+oo)))) (2^(min (Int.toNat 1) (IntKind.bits .u64))))))),rO)):Option (bG (Int×Int) (Unit)×H)).bind fun(aeh,kb)=>match aeh with
|.next (ag6,tx)=>
(some (.more ((ag6,tx),kb)))
|.ret aei=>(some (.done (.ret aei,kb)))
|.aP _=>none
|.bW _=>none)))))))else (some (.done (.aP lu,kc))))
noncomputable def dz.nU (T:Table) (a0:au) (Al:Int):(Int)×H→Option (ca ((Int)×H) (bG (Unit) (Unit)×H)):=fun(l3,Aj)=>
(bif (decide (Al<l3))then(let l6:H:=H.de Aj 0
(aJ (0≤(IntKind.wrap .i64 (l3-1))∧(IntKind.wrap .i64 (l3-1))<((a0.len:Nat):Int)) ((ah (.leaf (.int .i64)) l6 (V.add a0.a (Int.toNat (IntKind.wrap .i64 (l3-1))*1))).bind fun D_=>
(aJ (0≤l3∧l3<((a0.len:Nat):Int)) ((ah (.leaf (.int .i64)) l6 (V.add a0.a (Int.toNat l3*1))).bind fun MS=>
(aJ (0≤l3∧l3<((a0.len:Nat):Int)) ((H.aY l6 (V.add a0.a (Int.toNat l3*1)) [.int .i64 D_]).bind fun ag7=>
(aJ (0≤(IntKind.wrap .i64 (l3-1))∧(IntKind.wrap .i64 (l3-1))<((a0.len:Nat):Int)) ((H.aY ag7 (V.add a0.a (Int.toNat (IntKind.wrap .i64 (l3-1))*1)) [.int .i64 MS]).bind fun ag8=>
(some (.more ((IntKind.wrap .i64 (l3-1)),ag8))))))))))))else (some (.done (.aP (),Aj))))
noncomputable def dz.pV (T:Table) (a0:au) (a1:Int) (a2:Int) (a3:Int) (a4:V):(Int×Int)×H→Option (ca ((Int×Int)×H) (bG (Int) (Unit)×H)):=fun((qv,rP),Hl)=>
(bif (decide (qv<rP))then(let fD:H:=H.de Hl 0
(aJ (0≤(IntKind.wrap .i64 ((IntKind.wrap .i64 ((IntKind.wrap .i64 ((IntKind.wrap .i64 ((Int.fdiv (IntKind.wrap .u64 ((IntKind.wrap .i64 (a1+a3)))) (2^(min (Int.toNat 1) (IntKind.bits .u64))))))+a2))-1))-(IntKind.wrap .i64 ((Int.fdiv (IntKind.wrap .u64 ((IntKind.wrap .i64 (qv+rP)))) (2^(min (Int.toNat 1) (IntKind.bits .u64))))))))∧(IntKind.wrap .i64 ((IntKind.wrap .i64 ((IntKind.wrap .i64 ((IntKind.wrap .i64 ((Int.fdiv (IntKind.wrap .u64 ((IntKind.wrap .i64 (a1+a3)))) (2^(min (Int.toNat 1) (IntKind.bits .u64))))))+a2))-1))-(IntKind.wrap .i64 ((Int.fdiv (IntKind.wrap .u64 ((IntKind.wrap .i64 (qv+rP)))) (2^(min (Int.toNat 1) (IntKind.bits .u64))))))))<((a0.len:Nat):Int)) ((ah (.leaf (.int .i64)) fD (V.add a0.a (Int.toNat (IntKind.wrap .i64 ((IntKind.wrap .i64 ((IntKind.wrap .i64 ((IntKind.wrap .i64 ((Int.fdiv (IntKind.wrap .u64 ((IntKind.wrap .i64 (a1+a3)))) (2^(min (Int.toNat 1) (IntKind.bits .u64))))))+a2))-1))-(IntKind.wrap .i64 ((Int.fdiv (IntKind.wrap .u64 ((IntKind.wrap .i64 (qv+rP)))) (2^(min (Int.toNat 1) (IntKind.bits .u64))))))))*1))).bind fun MT=>
(aJ (0≤(IntKind.wrap .i64 ((Int.fdiv (IntKind.wrap .u64 ((IntKind.wrap .i64 (qv+rP)))) (2^(min (Int.toNat 1) (IntKind.bits .u64))))))∧(IntKind.wrap .i64 ((Int.fdiv (IntKind.wrap .u64 ((IntKind.wrap .i64 (qv+rP)))) (2^(min (Int.toNat 1) (IntKind.bits .u64))))))<((a0.len:Nat):Int)) ((ah (.leaf (.int .i64)) fD (V.add a0.a (Int.toNat (IntKind.wrap .i64 ((Int.fdiv (IntKind.wrap .u64 ((IntKind.wrap .i64 (qv+rP)))) (2^(min (Int.toNat 1) (IntKind.bits .u64))))))*1))).bind fun ag9=>
(eE T.dg a4 [.int .i64 MT,.int .i64 ag9] fD fun aha TI=>
(an.pack (.one (.leaf (.int .i64))) aha).bind fun ahb=>
((bif (!(decide (ahb<0)))then(some (.next ((IntKind.wrap .i64 ((IntKind.wrap .i64 ((Int.fdiv (IntKind.wrap .u64 ((IntKind.wrap .i64 (qv+rP)))) (2^(min (Int.toNat 1) (IntKind.bits .u64))))))+1)),rP),TI))else (some (.next (qv,(IntKind.wrap .i64 ((Int.fdiv (IntKind.wrap .u64 ((IntKind.wrap .i64 (qv+rP)))) (2^(min (Int.toNat 1) (IntKind.bits .u64))))))),TI)):Option (bG (Int×Int) (Unit)×H)).bind fun(aej,TJ)=>match aej with
|.next (ahc,ahd)=>
(some (.more ((ahc,ahd),TJ)))
|.ret aek=>(some (.done (.ret aek,TJ)))
|.aP _=>none
|.bW _=>none)))))))else (some (.done (.aP qv,Hl))))
noncomputable def dz.step (T:Table) (rec:au→Int→Int→Int→V→H→Option ((Unit)×H)) (a0:au) (a1:Int) (a2:Int) (a3:Int) (a4:V) (h:H):Option ((Unit)×H):=
(bif (decide ((IntKind.wrap .i64 (a2-a1))=1))then((iter bd (dz.aZ T a0 a1 a4) ((a2,a3),h)).bind fun(wD,cD)=>match wD with
|.next _=>none
|.ret C9=>(some (C9,cD))
|.aP xd=>
((iter bd (dz.cl T a0 xd) (a1,cD)).bind fun(LD,jK)=>match LD with
|.next _=>none
|.ret LF=>(some (LF,jK))
|.aP _=>
(some ((),jK))
|.bW _=>none)
|.bW _=>none)else (bif (decide ((IntKind.wrap .i64 (a3-a2))=1))then((iter bd (dz.fM T a0 a2 a4) ((a1,a2),h)).bind fun(ael,uZ)=>match ael with
|.next _=>none
|.ret aem=>(some (aem,uZ))
|.aP Al=>
((iter bd (dz.nU T a0 Al) (a2,uZ)).bind fun(Da,uX)=>match Da with
|.next _=>none
|.ret Db=>(some (Db,uX))
|.aP _=>
(some ((),uX))
|.bW _=>none)
|.bW _=>none)else ((bif (decide ((IntKind.wrap .i64 ((Int.fdiv (IntKind.wrap .u64 ((IntKind.wrap .i64 (a1+a3)))) (2^(min (Int.toNat 1) (IntKind.bits .u64))))))<a2))then(some (.next ((IntKind.wrap .i64 ((IntKind.wrap .i64 ((IntKind.wrap .i64 ((Int.fdiv (IntKind.wrap .u64 ((IntKind.wrap .i64 (a1+a3)))) (2^(min (Int.toNat 1) (IntKind.bits .u64))))))+a2))-a3)),(IntKind.wrap .i64 ((Int.fdiv (IntKind.wrap .u64 ((IntKind.wrap .i64 (a1+a3)))) (2^(min (Int.toNat 1) (IntKind.bits .u64))))))),h))else (some (.next (a1,a2),h)):Option (bG (Int×Int) (Unit)×H)).bind fun(aen,TK)=>match aen with
|.next (ahe,u0)=>
((iter bd (dz.pV T a0 a1 a2 a3 a4) ((ahe,u0),TK)).bind fun(aeo,MU)=>match aeo with
|.next _=>none
|.ret aep=>(some (aep,MU))
|.aP l7=>
(((bif (decide (l7<a2))then(some ((decide (a2<(IntKind.wrap .i64 ((IntKind.wrap .i64 ((IntKind.wrap .i64 ((Int.fdiv (IntKind.wrap .u64 ((IntKind.wrap .i64 (a1+a3)))) (2^(min (Int.toNat 1) (IntKind.bits .u64))))))+a2))-l7)))),MU))else (some (false,MU)))).bind fun(ahf,TL)=>
((bif ahf then((iE (dz.tb T) a0 l7 a2 (IntKind.wrap .i64 ((IntKind.wrap .i64 ((IntKind.wrap .i64 ((Int.fdiv (IntKind.wrap .u64 ((IntKind.wrap .i64 (a1+a3)))) (2^(min (Int.toNat 1) (IntKind.bits .u64))))))+a2))-l7)) a4 TL).bind fun(_,qw)=>
(some (.next (),qw)))else (some (.next (),TL)):Option (bG (Unit) (Unit)×H)).bind fun(aeq,MV)=>match aeq with
|.next _=>
(((bif (decide (a1<l7))then(some ((decide (l7<(IntKind.wrap .i64 ((Int.fdiv (IntKind.wrap .u64 ((IntKind.wrap .i64 (a1+a3)))) (2^(min (Int.toNat 1) (IntKind.bits .u64)))))))),MV))else (some (false,MV)))).bind fun(MW,TM)=>
((bif MW then((rec a0 a1 l7 (IntKind.wrap .i64 ((Int.fdiv (IntKind.wrap .u64 ((IntKind.wrap .i64 (a1+a3)))) (2^(min (Int.toNat 1) (IntKind.bits .u64)))))) a4 TM).bind fun(_,ahg)=>
(some (.next (),ahg)))else (some (.next (),TM)):Option (bG (Unit) (Unit)×H)).bind fun(aer,MX)=>match aer with
|.next _=>
(((bif (decide ((IntKind.wrap .i64 ((Int.fdiv (IntKind.wrap .u64 ((IntKind.wrap .i64 (a1+a3)))) (2^(min (Int.toNat 1) (IntKind.bits .u64))))))<(IntKind.wrap .i64 ((IntKind.wrap .i64 ((IntKind.wrap .i64 ((Int.fdiv (IntKind.wrap .u64 ((IntKind.wrap .i64 (a1+a3)))) (2^(min (Int.toNat 1) (IntKind.bits .u64))))))+a2))-l7))))then(some ((decide ((IntKind.wrap .i64 ((IntKind.wrap .i64 ((IntKind.wrap .i64 ((Int.fdiv (IntKind.wrap .u64 ((IntKind.wrap .i64 (a1+a3)))) (2^(min (Int.toNat 1) (IntKind.bits .u64))))))+a2))-l7))<a3)),MX))else (some (false,MX)))).bind fun(ahh,TN)=>
((bif ahh then((rec a0 (IntKind.wrap .i64 ((Int.fdiv (IntKind.wrap .u64 ((IntKind.wrap .i64 (a1+a3)))) (2^(min (Int.toNat 1) (IntKind.bits .u64)))))) (IntKind.wrap .i64 ((IntKind.wrap .i64 ((IntKind.wrap .i64 ((Int.fdiv (IntKind.wrap .u64 ((IntKind.wrap .i64 (a1+a3)))) (2^(min (Int.toNat 1) (IntKind.bits .u64))))))+a2))-l7)) a3 a4 TN).bind fun(_,qx)=>
(some (.next (),qx)))else (some (.next (),TN)):Option (bG (Unit) (Unit)×H)).bind fun(aes,TO)=>match aes with
|.next _=>
(some ((),TO))
|.ret aet=>(some (aet,TO))
|.aP _=>none
|.bW _=>none))
|.ret aeu=>(some (aeu,MX))
|.aP _=>none
|.bW _=>none))
|.ret aev=>(some (aev,MV))
|.aP _=>none
|.bW _=>none))
|.bW _=>none)
|.ret aew=>(some (aew,TK))
|.aP _=>none
|.bW _=>none)))
noncomputable def dz.ka (T:Table) (n:Nat):au→Int→Int→Int→V→H→Option ((Unit)×H):=Nat.rec (fun _a0 _a1 _a2 _a3 _a4 _=>none) (fun _ r=>dz.step T r) n
noncomputable def dz (T:Table) (a0:au) (a1:Int) (a2:Int) (a3:Int) (a4:V) (h:H):Option ((Unit)×H):=dz.ka T 40 a0 a1 a2 a3 a4 h
noncomputable def dz.p (T:cq):bj:=ad0 (bf [iE.p (dz.b T)] [] (dz.b T)) {br [(50,[10,11],[.leaf (.int .i64),.leaf (.int .i64)],none,none),(103,[14,15],[.leaf (.int .i64),.leaf (.int .i64)],none,none),(140,[20,21],[.leaf (.int .i64),.leaf (.int .i64)],none,none),(171,[20,21],[.leaf (.int .i64),.leaf (.int .i64)],none,none),(185,[],[],none,none),(199,[],[],none,none),(213,[],[],none,none)] [(3,[10,11],[.leaf (.int .i64),.leaf (.int .i64)],[10],[.leaf (.int .i64)],some 0,none),(9,[13],[.leaf (.int .i64)],[],[],some 2,none),(15,[14,15],[.leaf (.int .i64),.leaf (.int .i64)],[14],[.leaf (.int .i64)],some 4,none),(21,[17],[.leaf (.int .i64)],[],[],some 6,none),(33,[20,21],[.leaf (.int .i64),.leaf (.int .i64)],[20],[.leaf (.int .i64)],some 8,none)]with dB:=[(39,[185],[.leaf .bool]),(41,[199],[.leaf .bool]),(43,[213],[.leaf .bool])]} Tryz.func227 40 [.leaf .slice,.leaf (.int .i64),.leaf (.int .i64),.leaf (.int .i64),.leaf .dyn] (.many []) (fun n x h=>dz.ka T.t n x.1 x.2.1 x.2.2.1 x.2.2.2.1 x.2.2.2.2 h) (fun _ _=>rfl) fun _ _ _=>by kernel_rfl
noncomputable def dN.tb (T:Table):Table:=tS [] [] T
noncomputable def dN.b (T:cq):cq:=bf [] [] T
noncomputable def dN.aZ (T:Table) (a0:au) (a1:Int) (a2:V):(Int×Int)×H→Option (ca ((Int×Int)×H) (bG (Int) (Unit)×H)):=fun((bb,cc),h3)=>
(bif (decide (cc≤a1))then((jz (dN.tb T) a0 bb cc a2 h3).bind fun(_,aI)=>
(some (.more ((cc,(IntKind.wrap .i64 (cc+20))),aI))))else (some (.done (.aP bb,h3))))
noncomputable def dN.cl (T:Table) (a0:au) (a1:Int) (a2:V) (fj:Int):(Int×Int)×H→Option (ca ((Int×Int)×H) (bG (Int) (Unit)×H)):=fun((oj,pa),cO)=>
(bif (decide (pa≤a1))then((dz (dN.tb T) a0 oj (IntKind.wrap .i64 (oj+fj)) pa a2 cO).bind fun(_,cD)=>
(some (.more ((pa,(IntKind.wrap .i64 (pa+(IntKind.wrap .i64 (2*fj))))),cD))))else (some (.done (.aP oj,cO))))
noncomputable def dN.fM (T:Table) (a0:au) (a1:Int) (a2:V):(Int)×H→Option (ca ((Int)×H) (bG (Unit) (Unit)×H)):=fun(fj,cJ)=>
(bif (decide (fj<a1))then((iter bd (dN.cl T a0 a1 a2 fj) ((0,(IntKind.wrap .i64 (2*fj))),cJ)).bind fun(LG,dU)=>match LG with
|.next _=>none
|.ret De=>(some (.done (.ret De,dU)))
|.aP gI=>
((bif (decide ((IntKind.wrap .i64 (gI+fj))<a1))then((dz (dN.tb T) a0 gI (IntKind.wrap .i64 (gI+fj)) a1 a2 dU).bind fun(_,dy)=>
(some (.next (),dy)))else (some (.next (),dU)):Option (bG (Unit) (Unit)×H)).bind fun(sX,et)=>match sX with
|.next _=>
(some (.more ((IntKind.wrap .i64 (fj*2)),et)))
|.ret wE=>(some (.done (.ret wE,et)))
|.aP _=>none
|.bW _=>none)
|.bW _=>none)else (some (.done (.aP (),cJ))))
noncomputable def dN (T:Table) (a0:au) (a1:Int) (a2:V) (h:H):Option ((Unit)×H):=
((iter bd (dN.aZ T a0 a1 a2) ((0,20),h)).bind fun(qq,ba)=>match qq with
|.next _=>none
|.ret tq=>(some (tq,ba))
|.aP jN=>
((jz (dN.tb T) a0 jN a1 a2 ba).bind fun(_,h9)=>
((iter bd (dN.fM T a0 a1 a2) (20,h9)).bind fun(LH,hZ)=>match LH with
|.next _=>none
|.ret s3=>(some (s3,hZ))
|.aP _=>
(some ((),hZ))
|.bW _=>none))
|.bW _=>none)
noncomputable def dN.p (T:cq):bj:=eu (bf [jz.p (dN.b T),dz.p (dN.b T)] [] (dN.b T)) (br [(54,[],[],none,none)] [(2,[7,8],[.leaf (.int .i64),.leaf (.int .i64)],[7],[.leaf (.int .i64)],some 0,none),(9,[7,8],[.leaf (.int .i64),.leaf (.int .i64)],[7],[.leaf (.int .i64)],some 4,none),(7,[6],[.leaf (.int .i64)],[],[],some 2,none)]) Tryz.func225 [.leaf .slice,.leaf (.int .i64),.leaf .dyn] (.many []) (fun x h=>dN T.t x.1 x.2.1 x.2.2 h) fun _ _=>by kernel_rfl
noncomputable def hd.tb (T:Table):Table:=tS [] [] T
noncomputable def hd.b (T:cq):cq:=bf [] [] T
noncomputable def hd (T:Table) (a0:au) (a1:V) (h:H):Option ((Unit)×H):=
((dN (hd.tb T) a0 ((a0.len:Nat):Int) a1 h).bind fun(_,h1)=>
(some ((),h1)))
noncomputable def hd.p (T:cq):bj:=eu (bf [dN.p (hd.b T)] [] (hd.b T)) (br [] []) Tryz.func220 [.leaf .slice,.leaf .dyn] (.many []) (fun x h=>hd T.t x.1 x.2 h) fun _ _=>by kernel_rfl
noncomputable def A8 (a0:Int) (a1:Int) (h:H):Option ((Int)×H):=
((vr a0).bind fun bw=>
((vr a1).bind fun bJ=>
(bif bw then(bif bJ then(some (0,h))else (some ((-1),h)))else (bif bJ then(some (1,h))else (bif (decide (a0<a1))then(some ((-1),h))else (bif (decide (a1<a0))then(some (1,h))else (some (0,h))))))))
noncomputable def A8.x:=cQ (bf [vr.p] [] bC) (br [] []) Tryz.func222 [.leaf (.int .i64),.leaf (.int .i64)] (.one (.leaf (.int .i64))) (fun x h=>A8 x.1 x.2 h) fun _ _=>by kernel_rfl
noncomputable def xV (a0:Int) (a1:Int):Option (Int):=(A8 a0 a1 H.empty).bind fun p=>av false p.2 (.one (.leaf (.int .i64))) (an.un (.one (.leaf (.int .i64))) p.1)
noncomputable def xV.p:bj:=cF.low [.leaf (.int .i64),.leaf (.int .i64)] A8.x (.one (.leaf (.int .i64))) (fun x=>xV x.1 x.2) fun _=>by kernel_rfl
noncomputable def xR (a0:Int) (a1:Int) (a2:V) (h:H):Option ((Int)×H):=
(let h1:H:=H.de h 0
((ah (.leaf .slice) h1 a2).bind fun b5=>
(aJ (0≤a1∧a1<((b5.len:Nat):Int)) ((ah (.leaf (.int .i64)) h1 (V.add b5.a (Int.toNat a1*1))).bind fun cx=>
((ah (.leaf .slice) h1 a2).bind fun eB=>
(aJ (0≤a0∧a0<((eB.len:Nat):Int)) ((ah (.leaf (.int .i64)) h1 (V.add eB.a (Int.toNat a0*1))).bind fun fb=>
((xV cx fb).bind fun b4=>
(some (b4,h1))))))))))
noncomputable def xR.p:bj:=eu (bf [xV.p] [] bC) (br [] []) Tryz.func221 [.leaf (.int .i64),.leaf (.int .i64),.leaf .ptr] (.one (.leaf (.int .i64))) (fun x h=>xR x.1 x.2.1 x.2.2 h) fun _ _=>by kernel_rfl
noncomputable def h7.tb:cq:=bf [r1.p,tP.p] [xR.p] bC
noncomputable def h7.fc:cq:=bf [hd.p h7.tb] [] h7.tb
noncomputable def h7.aZ (h:H) (a0:Int) (a1:au) (bw:Int):(Int×Int)×H→Option (ca ((Int×Int)×H) (bG (Int) (au×Int)×H)):=fun((fj,df),cX)=>
(bif (decide (df<((a1.len:Nat):Int)))then(aJ (0≤df∧df<((a1.len:Nat):Int)) ((ah (.leaf (.int .i64)) cX (V.add a1.a (Int.toNat df*1))).bind fun jo=>
(let cO:H:=H.de cX 0
((ah (.leaf .slice) cO (.aa (h.next+3) 1 0)).bind fun hb=>
((r1 a0 jo bw).bind fun(iT,tz,rM)=>
(aJ (0≤df∧df<(((Int.toNat ((a1.len:Nat):Int)):Nat):Int)) ((H.aY cO (.aa h.next (Int.toNat ((a1.len:Nat):Int)*1) (0+(Int.toNat df*1))) [.int .i64 iT]).bind fun eO=>
(aJ (0≤df∧df<((hb.len:Nat):Int)) ((H.aY eO (V.add hb.a (Int.toNat df*1)) [.int .i64 tz]).bind fun dy=>
(aJ (fg (.aa (h.next+3) 1 0:V) (.aa h.next (Int.toNat ((a1.len:Nat):Int)*1) (0+(Int.toNat df*1)):V)=true) (aJ (0≤df∧df<(((Int.toNat ((a1.len:Nat):Int)):Nat):Int)) ((H.aY dy (.aa (h.next+2) (Int.toNat ((a1.len:Nat):Int)*1) (0+(Int.toNat df*1))) [.int .i64 df]).bind fun et=>
(aJ (0≤df∧df<(((Int.toNat ((a1.len:Nat):Int)):Nat):Int)) ((ah (.leaf (.int .i64)) et (.aa h.next (Int.toNat ((a1.len:Nat):Int)*1) (0+(Int.toNat df*1)))).bind fun mG=>
(some (.more (((IntKind.wrap .i64 (fj-mG)),(IntKind.wrap .i64 (df+1))),et)))))))))))))))))else (some (.done (.aP fj,cX))))
noncomputable def h7.cl (h:H) (a1:au) (mH:Int):(Int)×H→Option (ca ((Int)×H) (bG (Unit) (au×Int)×H)):=fun(Ea,h0)=>
(bif (decide (Ea<mH))then(aJ (0≤Ea∧Ea<(((Int.toNat ((a1.len:Nat):Int)):Nat):Int)) ((ah (.leaf (.int .i64)) h0 (.aa (h.next+2) (Int.toNat ((a1.len:Nat):Int)*1) (0+(Int.toNat Ea*1)))).bind fun o8=>
(aJ (0≤o8∧o8<(((Int.toNat ((a1.len:Nat):Int)):Nat):Int)) ((ah (.leaf (.int .i64)) h0 (.aa h.next (Int.toNat ((a1.len:Nat):Int)*1) (0+(Int.toNat o8*1)))).bind fun lr=>
(aJ (0≤o8∧o8<(((Int.toNat ((a1.len:Nat):Int)):Nat):Int)) ((H.aY h0 (.aa h.next (Int.toNat ((a1.len:Nat):Int)*1) (0+(Int.toNat o8*1))) [.int .i64 (IntKind.wrap .i64 (lr+1))]).bind fun c2=>
(some (.more ((IntKind.wrap .i64 (Ea+1)),c2)))))))))else (some (.done (.aP (),h0))))
noncomputable def h7 (a0:Int) (a1:au) (h:H):Option ((au×Int)×H):=
((bB true h [.int .i64] a1).bind fun cU=>
((tP a0 cU).bind fun(bw,bJ)=>
(bif (!(decide (bJ=0)))then(some ((⟨.nil,0,0,false⟩,bJ),h))else (let aI:H:=H.de h 4
(aJ (0≤((a1.len:Nat):Int)∧((a1.len:Nat):Int)≤((a1.len:Nat):Int)∧((a1.len:Nat):Int)≤ei∧8≤2^11∧1=1) (let ba:H:=H.put aI h.next (.own (eI [.int .i64 0] (Int.toNat ((a1.len:Nat):Int))) 1)
(aJ (0≤((a1.len:Nat):Int)∧((a1.len:Nat):Int)≤((a1.len:Nat):Int)∧((a1.len:Nat):Int)≤ei∧8≤2^11∧1=1) (let bp:H:=H.put ba (h.next+1) (.own (eI [.int .i64 0] (Int.toNat ((a1.len:Nat):Int))) 1)
(aJ (0≤((a1.len:Nat):Int)∧((a1.len:Nat):Int)≤((a1.len:Nat):Int)∧((a1.len:Nat):Int)≤ei∧8≤2^11∧1=1) (let bE:H:=H.put bp (h.next+2) (.own (eI [.int .i64 0] (Int.toNat ((a1.len:Nat):Int))) 1)
(let h8:H:=H.put bE (h.next+3) (.own [.slice .nil 0 0 false] 1)
((H.aY h8 (.aa (h.next+3) 1 0) [.slice (.aa (h.next+1) (Int.toNat ((a1.len:Nat):Int)*1) 0) (Int.toNat ((a1.len:Nat):Int)) (Int.toNat ((a1.len:Nat):Int)) true]).bind fun h9=>
(aJ (fg (.aa (h.next+2) 0 0:V) (.aa (h.next+3) 1 0:V)=true) ((iter bd (h7.aZ h a0 a1 bw) ((a0,0),h9)).bind fun(sZ,eP)=>match sZ with
|.next _=>none
|.ret qb=>(some (qb,eP))
|.aP mH=>
((hd h7.tb.t ⟨.aa (h.next+2) (Int.toNat ((a1.len:Nat):Int)*1) 0,(Int.toNat ((a1.len:Nat):Int)),(Int.toNat ((a1.len:Nat):Int)),true⟩ (.func 221 [.aa (h.next+3) 1 0]:V) eP).bind fun(_,gT)=>
((iter bd (h7.cl h a1 mH) (0,gT)).bind fun(LI,jr)=>match LI with
|.next _=>none
|.ret LJ=>(some (LJ,jr))
|.aP _=>
(some ((⟨.aa h.next (Int.toNat ((a1.len:Nat):Int)*1) 0,(Int.toNat ((a1.len:Nat):Int)),(Int.toNat ((a1.len:Nat):Int)),true⟩,0),jr))
|.bW _=>none))
|.bW _=>none))))))))))))))
noncomputable def h7.x:=cQ h7.fc (br [] [(7,[11,36],[.leaf (.int .i64),.leaf (.int .i64)],[11],[.leaf (.int .i64)],some 0,none),(15,[70],[.leaf (.int .i64)],[],[],some 2,none)]) Tryz.func212 [.leaf (.int .i64),.leaf .slice] (.many [.leaf .slice,.leaf (.int .i64)]) (fun x h=>h7 x.1 x.2 h) fun _ _=>by kernel_rfl
noncomputable def vj (a0:Int) (a1:(List (Int))):Option ((List (Int))×Int):=(h7 a0 (ae false [.int .i64] a1) H.empty).bind fun p=>av false p.2 (.many [.leaf (.row [.int .i64]),.leaf (.int .i64)]) (an.un (.many [.leaf .slice,.leaf (.int .i64)]) p.1)
noncomputable def vj.p:bj:=cF.low [.leaf (.int .i64),.leaf (.row [.int .i64])] h7.x (.many [.leaf (.row [.int .i64]),.leaf (.int .i64)]) (fun x=>vj x.1 x.2) fun _=>by kernel_rfl
noncomputable def px.aZ (bQ:List (Int)) (fp:au):(Int)×H→Option (ca ((Int)×H) (bG (Unit) (au×au×Int)×H)):=fun(g1,c5)=>
(bif (decide (g1<((bQ.length:Nat):Int)))then(aJ (0≤g1∧g1<((bQ.length:Nat):Int)) ((ah (.leaf (.int .i64)) c5 (V.add ((ae true [.int .i64] bQ).a) (Int.toNat g1*1))).bind fun iv=>
(aJ (0≤g1∧g1<((fp.len:Nat):Int)) ((ah (.leaf (.int .i64)) c5 (V.add fp.a (Int.toNat g1*1))).bind fun jn=>
(aJ (0≤g1∧g1<((fp.len:Nat):Int)) ((H.aY c5 (V.add fp.a (Int.toNat g1*1)) [.int .i64 (IntKind.wrap .i64 (jn-iv))]).bind fun cM=>
(some (.more ((IntKind.wrap .i64 (g1+1)),cM)))))))))else (some (.done (.aP (),c5))))
noncomputable def px (a0:au) (a1:Int) (h:H):Option ((au×au×Int)×H):=
((bB true h [.int .i64] a0).bind fun cU=>
((tP a1 cU).bind fun(bw,bJ)=>
(bif (!(decide (bJ=0)))then(some ((⟨.nil,0,0,false⟩,⟨.nil,0,0,false⟩,bJ),h))else (bif (decide (bw<a1))then(some ((⟨.nil,0,0,false⟩,⟨.nil,0,0,false⟩,17),h))else ((bB true h [.int .i64] a0).bind fun mO=>
((vj a1 mO).bind fun(bQ,di)=>
((nK 1 8 a0 h).bind fun(fp,h8)=>
((iter bd (px.aZ bQ fp) (0,h8)).bind fun(Df,cO)=>match Df with
|.next _=>none
|.ret Dg=>(some (Dg,cO))
|.aP _=>
(some (((ae true [.int .i64] bQ),fp,0),cO))
|.bW _=>none))))))))
noncomputable def px.x:=cQ (bf [ET.p,tP.p,vj.p] [] bC) (br [] [(9,[36],[.leaf (.int .i64)],[],[],some 0,none)]) Tryz.func199 [.leaf .slice,.leaf (.int .i64)] (.many [.leaf .slice,.leaf .slice,.leaf (.int .i64)]) (fun x h=>px x.1 x.2 h) fun _ _=>by kernel_rfl
noncomputable def xW (a0:(List (Int))) (a1:Int):Option ((List (Int))×(List (Int))×Int):=(px (ae false [.int .i64] a0) a1 H.empty).bind fun p=>av false p.2 (.many [.leaf (.row [.int .i64]),.leaf (.row [.int .i64]),.leaf (.int .i64)]) (an.un (.many [.leaf .slice,.leaf .slice,.leaf (.int .i64)]) p.1)
noncomputable def xW.p:bj:=cF.low [.leaf (.row [.int .i64]),.leaf (.int .i64)] px.x (.many [.leaf (.row [.int .i64]),.leaf (.row [.int .i64]),.leaf (.int .i64)]) (fun x=>xW x.1 x.2) fun _=>by kernel_rfl
noncomputable def pD.aZ (a0:au) (a1:au):(au×Int)×H→Option (ca ((au×Int)×H) (bG (au) (au)×H)):=fun((bb,cc),h3)=>
(bif (decide (cc<((a0.len:Nat):Int)))then(aJ (0≤cc∧cc<((a0.len:Nat):Int)) ((ah (.agg [.int .i64,.int .i64]) h3 (V.add a0.a (Int.toNat cc*2))).bind fun(ij,jh)=>
(let ba:H:=H.new h3 [.int .i64 0,.int .i64 0] 2
((H.aY ba (.aa h3.next 2 0) [.int .i64 ij,.int .i64 jh]).bind fun bp=>
(aJ (0≤cc∧cc<((a1.len:Nat):Int)) ((ah (.leaf (.int .i64)) bp (V.add a1.a (Int.toNat cc*1))).bind fun fK=>
((bif (decide ((0:Int)<fK))then(let h8:H:=H.de bp 0
((ah (.leaf (.int .i64)) h8 (.aa h3.next 2 0)).bind fun fT=>
(aJ (0≤cc∧cc<((a1.len:Nat):Int)) ((ah (.leaf (.int .i64)) h8 (V.add a1.a (Int.toNat cc*1))).bind fun e9=>
((c7 h8 none 2 16 bb [.int .i64 fT,.int .i64 e9] 1).bind fun(Eb,cX)=>
(some (.next Eb,cX)))))))else (some (.next bb,bp)):Option (bG (au) (au)×H)).bind fun(wD,cD)=>match wD with
|.next w_=>
(some (.more ((w_,(IntKind.wrap .i64 (cc+1))),cD)))
|.ret De=>(some (.done (.ret De,cD)))
|.aP _=>none
|.bW _=>none)))))))else (some (.done (.aP bb,h3))))
noncomputable def pD (a0:au) (a1:au) (h:H):Option ((au)×H):=
((iter bd (pD.aZ a0 a1) ((⟨.nil,0,0,false⟩,0),h)).bind fun(Lz,eO)=>match Lz with
|.next _=>none
|.ret LA=>(some (LA,eO))
|.aP om=>
(some (om,eO))
|.bW _=>none)
noncomputable def pD.x:=cQ (bf [] [] bC) (br [(19,[5],[.leaf .slice],none,none)] [(3,[5,10],[.leaf .slice,.leaf (.int .i64)],[5],[.leaf .slice],some 0,none)]) Tryz.func200 [.leaf .slice,.leaf .slice] (.one (.leaf .slice)) (fun x h=>pD x.1 x.2 h) fun _ _=>by kernel_rfl
noncomputable def vy (a0:(List (Int×Int))) (a1:(List (Int))):Option ((List (Int×Int))):=(pD (ae false [.int .i64,.int .i64] a0) (ae false [.int .i64] a1) H.empty).bind fun p=>av false p.2 (.one (.leaf (.row [.int .i64,.int .i64]))) (an.un (.one (.leaf .slice)) p.1)
noncomputable def vy.p:bj:=cF.low [.leaf (.row [.int .i64,.int .i64]),.leaf (.row [.int .i64])] pD.x (.one (.leaf (.row [.int .i64,.int .i64]))) (fun x=>vy x.1 x.2) fun _=>by kernel_rfl
noncomputable def Bu (a0:au) (a1:Int) (h:H):Option ((au×au×Int)×H):=
((bB true h [.int .i64,.int .i64] a0).bind fun cU=>
((q6 cU).bind fun(bw,bJ)=>
(bif (!(decide (bJ=0)))then(some ((⟨.nil,0,0,false⟩,⟨.nil,0,0,false⟩,bJ),h))else (bif (decide (a1<0))then(some ((⟨.nil,0,0,false⟩,⟨.nil,0,0,false⟩,2),h))else (bif (decide (bw<a1))then(some ((⟨.nil,0,0,false⟩,⟨.nil,0,0,false⟩,17),h))else (bif (decide (((a0.len:Nat):Int)=0))then(some ((⟨.nil,0,0,false⟩,⟨.nil,0,0,false⟩,0),h))else ((bB true h [.int .i64,.int .i64] a0).bind fun mO=>
((tV mO).bind fun(bQ,di)=>
((bB true h [.int .i64] (ae true [.int .i64] bQ)).bind fun D5=>
((xW D5 a1).bind fun(fp,oz,xF)=>
((bB true h [.int .i64,.int .i64] a0).bind fun tw=>
((bB true h [.int .i64] (ae true [.int .i64] fp)).bind fun Eb=>
((vy tw Eb).bind fun og=>
((bB true h [.int .i64,.int .i64] a0).bind fun An=>
((bB true h [.int .i64] (ae true [.int .i64] oz)).bind fun D2=>
((vy An D2).bind fun kI=>
(some (((ae true [.int .i64,.int .i64] og),(ae true [.int .i64,.int .i64] kI),0),h))))))))))))))))))
noncomputable def Bu.x:=cQ (bf [q6.p,tV.p,xW.p,vy.p] [] bC) (br [] []) Tryz.func179 [.leaf .slice,.leaf (.int .i64)] (.many [.leaf .slice,.leaf .slice,.leaf (.int .i64)]) (fun x h=>Bu x.1 x.2 h) fun _ _=>by kernel_rfl
noncomputable def x_ (a0:(List (Int×Int))) (a1:Int):Option ((List (Int×Int))×(List (Int×Int))×Int):=(Bu (ae false [.int .i64,.int .i64] a0) a1 H.empty).bind fun p=>av false p.2 (.many [.leaf (.row [.int .i64,.int .i64]),.leaf (.row [.int .i64,.int .i64]),.leaf (.int .i64)]) (an.un (.many [.leaf .slice,.leaf .slice,.leaf (.int .i64)]) p.1)
noncomputable def x_.p:bj:=cF.low [.leaf (.row [.int .i64,.int .i64]),.leaf (.int .i64)] Bu.x (.many [.leaf (.row [.int .i64,.int .i64]),.leaf (.row [.int .i64,.int .i64]),.leaf (.int .i64)]) (fun x=>x_ x.1 x.2) fun _=>by kernel_rfl
noncomputable def Bv (a0:(Int×Int×Int×au)) (a1:Int) (a2:Int) (h:H):Option (((Int×Int×Int×au)×(Int×Int×Int×au)×Int)×H):=
(match a0 with
|(cz,cA,cT,dZ)=>
(let h1:H:=H.new h [.int .i64 cz,.int .i64 cA,.int .i64 cT,.slice dZ.a dZ.len dZ.cap dZ.tail] 4
(let h2:H:=H.new h1 [.int .i64 0,.int .i64 0,.int .i64 0,.slice .nil 0 0 false] 4
(let h3:H:=H.new h2 [.int .i64 0,.int .i64 0,.int .i64 0,.slice .nil 0 0 false] 4
((ah (.agg [.int .i64,.int .i64,.int .i64,.slice]) h3 (.aa h.next 4 0)).bind fun(ij,jh,p8,jF)=>
((bB true h3 [.int .i64,.int .i64,.int .i64,.row [.int .i64,.int .i64]] ⟨.lp true ([.int .i64 ij,.int .i64 jh,.int .i64 p8,.slice jF.a jF.len jF.cap jF.tail]) 0,1,1,false⟩).bind fun qH=>
((oH qH).bind fun(di,b4)=>
(bif (!(decide (b4=0)))then((H.aY h3 (.aa h1.next 4 0) [.int .i64 0,.int .i64 0,.int .i64 0,.slice .nil 0 0 false]).bind fun h8=>
((H.aY h8 (.aa h2.next 4 0) [.int .i64 0,.int .i64 0,.int .i64 0,.slice .nil 0 0 false]).bind fun h9=>
((ah (.agg [.int .i64,.int .i64,.int .i64,.slice]) h9 (.aa h1.next 4 0:V)).bind fun(nV,nW,nX,jW)=>
((ah (.agg [.int .i64,.int .i64,.int .i64,.slice]) h9 (.aa h2.next 4 0:V)).bind fun(mz,mA,nY,lP)=>
(some (((nV,nW,nX,jW),(mz,mA,nY,lP),1),h9))))))else ((((ua a2).bind fun ni=>
(bif !(!ni)then(some ((decide (a1<0)),h3))else (some (true,h3))))).bind fun(pa,cO)=>
(bif pa then((H.aY cO (.aa h1.next 4 0) [.int .i64 0,.int .i64 0,.int .i64 0,.slice .nil 0 0 false]).bind fun cD=>
((H.aY cD (.aa h2.next 4 0) [.int .i64 0,.int .i64 0,.int .i64 0,.slice .nil 0 0 false]).bind fun dU=>
((ah (.agg [.int .i64,.int .i64,.int .i64,.slice]) dU (.aa h1.next 4 0:V)).bind fun(su,sw,vY,nR)=>
((ah (.agg [.int .i64,.int .i64,.int .i64,.slice]) dU (.aa h2.next 4 0:V)).bind fun(nS,nT,sB,oY)=>
(some (((su,sw,vY,nR),(nS,nT,sB,oY),2),dU))))))else ((ah (.leaf (.int .i64)) cO (.aa h.next 4 2)).bind fun gu=>
(bif (decide (gu<a1))then((H.aY cO (.aa h1.next 4 0) [.int .i64 0,.int .i64 0,.int .i64 0,.slice .nil 0 0 false]).bind fun dy=>
((H.aY dy (.aa h2.next 4 0) [.int .i64 0,.int .i64 0,.int .i64 0,.slice .nil 0 0 false]).bind fun et=>
((ah (.agg [.int .i64,.int .i64,.int .i64,.slice]) et (.aa h1.next 4 0:V)).bind fun(v8,v_,Cq,uD)=>
((ah (.agg [.int .i64,.int .i64,.int .i64,.slice]) et (.aa h2.next 4 0:V)).bind fun(nP,nQ,vW,vX)=>
(some (((v8,v_,Cq,uD),(nP,nQ,vW,vX),17),et))))))else ((ah (.agg [.int .i64,.int .i64]) cO (.aa h.next 4 1)).bind fun(Cr,Cs)=>
((yo (Cr,Cs) a1).bind fun((abK,abL),(abM,abN),pc)=>
(let gU:H:=H.new cO [.int .i64 0,.int .i64 0] 2
(let h0:H:=H.new gU [.int .i64 0,.int .i64 0] 2
((H.aY h0 (.aa cO.next 2 0) [.int .i64 abK,.int .i64 abL]).bind fun hB=>
((H.aY hB (.aa gU.next 2 0) [.int .i64 abM,.int .i64 abN]).bind fun kc=>
((ah (.leaf .slice) kc (.aa h.next 4 3)).bind fun D3=>
((ah (.leaf (.int .i64)) kc (.aa cO.next 2 0)).bind fun o9=>
((bB true kc [.int .i64,.int .i64] D3).bind fun D4=>
((x_ D4 o9).bind fun(MY,D8,TE)=>
(let kb:H:=H.de kc 0
((ah (.agg [.int .i64,.int .i64]) kb (.aa cO.next 2 0)).bind fun(Ct,Cu)=>
((ah (.leaf (.int .i64)) kb (.aa h.next 4 0)).bind fun tt=>
((ah (.agg [.int .i64,.int .i64]) kb (.aa gU.next 2 0)).bind fun(vZ,v7)=>
((H.aY kb (.aa h1.next 4 0) [.int .i64 a2,.int .i64 Ct,.int .i64 Cu,.slice ((ae true [.int .i64,.int .i64] MY).a) MY.length MY.length true]).bind fun l5=>
((H.aY l5 (.aa h2.next 4 0) [.int .i64 tt,.int .i64 vZ,.int .i64 v7,.slice ((ae true [.int .i64,.int .i64] D8).a) D8.length D8.length true]).bind fun uZ=>
(aJ (fg (.aa h.next 4 0:V) (.aa h1.next 4 0:V)=true) (aJ (fg (.aa gU.next 2 0:V) (.aa h1.next 4 0:V)=true) ((ah (.agg [.int .i64,.int .i64,.int .i64,.slice]) uZ (.aa h1.next 4 0:V)).bind fun(Cl,Cm,Cn,uC)=>
((ah (.agg [.int .i64,.int .i64,.int .i64,.slice]) uZ (.aa h2.next 4 0:V)).bind fun(abO,abP,abQ,abR)=>
(some (((Cl,Cm,Cn,uC),(abO,abP,abQ,abR),0),uZ))))))))))))))))))))))))))))))))))
noncomputable def Bv.x:=cQ (bf [oH.p,ua.p,yo.p,x_.p] [] bC) {br [] []with dB:=[(4,[28],[.leaf .bool])]} Tryz.func155 [.agg [.int .i64,.int .i64,.int .i64,.slice],.leaf (.int .i64),.leaf (.int .i64)] (.many [.agg [.int .i64,.int .i64,.int .i64,.slice],.agg [.int .i64,.int .i64,.int .i64,.slice],.leaf (.int .i64)]) (fun x h=>Bv x.1 x.2.1 x.2.2 h) fun _ _=>by kernel_rfl
noncomputable def ya (a0:(Int×Int×Int×(List (Int×Int)))) (a1:Int) (a2:Int):Option ((Int×Int×Int×(List (Int×Int)))×(Int×Int×Int×(List (Int×Int)))×Int):=(Bv (a0.1,a0.2.1,a0.2.2.1,ae false [.int .i64,.int .i64] a0.2.2.2) a1 a2 H.empty).bind fun p=>av false p.2 (.many [.agg [.int .i64,.int .i64,.int .i64,.row [.int .i64,.int .i64]],.agg [.int .i64,.int .i64,.int .i64,.row [.int .i64,.int .i64]],.leaf (.int .i64)]) (an.un (.many [.agg [.int .i64,.int .i64,.int .i64,.slice],.agg [.int .i64,.int .i64,.int .i64,.slice],.leaf (.int .i64)]) p.1)
noncomputable def ya.p:bj:=cF.low [.agg [.int .i64,.int .i64,.int .i64,.row [.int .i64,.int .i64]],.leaf (.int .i64),.leaf (.int .i64)] Bv.x (.many [.agg [.int .i64,.int .i64,.int .i64,.row [.int .i64,.int .i64]],.agg [.int .i64,.int .i64,.int .i64,.row [.int .i64,.int .i64]],.leaf (.int .i64)]) (fun x=>ya x.1 x.2.1 x.2.2) fun _=>by kernel_rfl
noncomputable def H8 (a0:au) (h:H):Option ((au)×H):=
(bif !(V.h_ (a0.a:V))then(bif (!(V.bm (a0.a:V)))then(some (⟨.nil,0,0,false⟩,h))else ((cellsOf h (.slice a0.a a0.len a0.cap a0.tail:V) 4).bind fun(oy,oh)=>
((c7 h none 4 48 (⟨.lp true ([]) 0,0,0,false⟩) oh oy).bind fun(cU,h2)=>
(some (cU,h2)))))else none)
noncomputable def H8.p:bj:=AL (bf [] [] bC) (br [] []) Tryz.func129 4 48 H8 (fun _ _=>by kernel_rfl) fun _ _=>by kernel_rfl
noncomputable def H5 (a0:au) (h:H):Option ((au)×H):=
(bif !(V.h_ (a0.a:V))then(bif (!(V.bm (a0.a:V)))then(some (⟨.nil,0,0,false⟩,h))else ((cellsOf h (.slice a0.a a0.len a0.cap a0.tail:V) 2).bind fun(oy,oh)=>
((c7 h none 2 16 (⟨.lp true ([]) 0,0,0,false⟩) oh oy).bind fun(cU,h2)=>
(some (cU,h2)))))else none)
noncomputable def H5.p:bj:=AL (bf [] [] bC) (br [] []) Tryz.func130 2 16 H5 (fun _ _=>by kernel_rfl) fun _ _=>by kernel_rfl
noncomputable def U7.p:bj:=⟨130,mE [.leaf (.row [.int .i64,.int .i64])] (.one (.leaf (.row [.int .i64,.int .i64]))) (k4 16),Ja H5.p.ok rfl (by omega) rfl⟩
noncomputable def oD.aZ (bw:au):(Int)×H→Option (ca ((Int)×H) (bG (Unit) (au)×H)):=fun(cj,aI)=>
(bif (decide (cj<((bw.len:Nat):Int)))then(aJ (0≤cj∧cj<((bw.len:Nat):Int)) (aJ (V.bm ((V.add bw.a (Int.toNat cj*4)):V)=true) ((ah (.leaf .slice) aI (V.add (V.add bw.a (Int.toNat cj*4)) 3)).bind fun fb=>
((bB true aI [.int .i64,.int .i64] fb).bind fun qH=>
((k4 16 qH).bind fun b4=>
(aJ (0≤cj∧cj<((bw.len:Nat):Int)) (aJ (V.bm ((V.add bw.a (Int.toNat cj*4)):V)=true) ((H.aY aI (V.add (V.add bw.a (Int.toNat cj*4)) 3) [.slice ((ae true [.int .i64,.int .i64] b4).a) b4.length b4.length true]).bind fun h8=>
(some (.more ((IntKind.wrap .i64 (cj+1)),h8)))))))))))else (some (.done (.aP (),aI))))
noncomputable def oD (a0:au) (h:H):Option ((au)×H):=
((nK 4 48 a0 h).bind fun(bw,h2)=>
((iter bd (oD.aZ bw) (0,h2)).bind fun(Dd,h9)=>match Dd with
|.next _=>none
|.ret qa=>(some (qa,h9))
|.aP _=>
(some (bw,h9))
|.bW _=>none))
noncomputable def oD.p:bj:=eu (bf [H8.p,U7.p] [] bC) (br [] [(3,[8],[.leaf (.int .i64)],[],[],some 0,none)]) Tryz.func128 [.leaf .slice] (.one (.leaf .slice)) (fun x h=>oD x h) fun _ _=>by kernel_rfl
noncomputable def H7 (a0:au) (h:H):Option ((au)×H):=
(bif !(V.h_ (a0.a:V))then(bif (!(V.bm (a0.a:V)))then(some (⟨.nil,0,0,false⟩,h))else ((cellsOf h (.slice a0.a a0.len a0.cap a0.tail:V) 5).bind fun(oy,oh)=>
((c7 h none 5 64 (⟨.lp true ([]) 0,0,0,false⟩) oh oy).bind fun(cU,h2)=>
(some (cU,h2)))))else none)
noncomputable def H7.p:bj:=AL (bf [] [] bC) (br [] []) Tryz.func131 5 64 H7 (fun _ _=>by kernel_rfl) fun _ _=>by kernel_rfl
noncomputable def oC.aZ (T:Table) (a0:au) (a1:V) (h2:H):(Int)×H→Option (ca ((Int)×H) (bG (Unit) ((Int×Int×Int×ByteArray×au))×H)):=fun(eX,h8)=>
(bif (decide (eX<((a0.len:Nat):Int)))then(let h9:H:=H.de h8 0
(aJ (0≤eX∧eX<((a0.len:Nat):Int)) ((ah (.agg [.int .i64,.int .i64,.int .i64,.str,.slice]) h9 (V.add a0.a (Int.toNat eX*5))).bind fun(nV,nW,nX,jW,uE)=>
((ah (.agg [.int .i64,.int .i64,.int .i64,.str,.slice]) h9 (.aa h2.next 5 0)).bind fun(mz,mA,nY,lP,zc)=>
(eE T.dg a1 [.agg [.int .i64 nV,.int .i64 nW,.int .i64 nX,.str jW,.slice uE.a uE.len uE.cap uE.tail],.agg [.int .i64 mz,.int .i64 mA,.int .i64 nY,.str lP,.slice zc.a zc.len zc.cap zc.tail]] h9 fun ahi cM=>
(an.pack (.one (.leaf (.int .i64))) ahi).bind fun kI=>
((bif (decide ((0:Int)<kI))then(aJ (0≤eX∧eX<((a0.len:Nat):Int)) ((ah (.agg [.int .i64,.int .i64,.int .i64,.str,.slice]) cM (V.add a0.a (Int.toNat eX*5))).bind fun(Cv,Cw,Cx,Cy,Gh)=>
((H.aY cM (.aa h2.next 5 0) [.int .i64 Cv,.int .i64 Cw,.int .i64 Cx,.str Cy,.slice Gh.a Gh.len Gh.cap Gh.tail]).bind fun dU=>
(some (.next (),dU)))))else (some (.next (),cM)):Option (bG (Unit) ((Int×Int×Int×ByteArray×au))×H)).bind fun(Dh,d_)=>match Dh with
|.next _=>
(some (.more ((IntKind.wrap .i64 (eX+1)),d_)))
|.ret Di=>(some (.done (.ret Di,d_)))
|.aP _=>none
|.bW _=>none))))))else (some (.done (.aP (),h8))))
noncomputable def oC (T:Table) (a0:au) (a1:V) (h:H):Option (((Int×Int×Int×ByteArray×au))×H):=
(let h1:H:=H.new h [.int .i64 0,.int .i64 0,.int .i64 0,.str (⟨#[]⟩:ByteArray),.slice .nil 0 0 false] 5
((bif (decide (((a0.len:Nat):Int)<1))then none else (some (.next (),h1)):Option (bG (Unit) ((Int×Int×Int×ByteArray×au))×H)).bind fun(ahj,h2)=>match ahj with
|.next _=>
(aJ (0≤(0:Int)∧0<((a0.len:Nat):Int)) ((ah (.agg [.int .i64,.int .i64,.int .i64,.str,.slice]) h2 (V.add a0.a 0)).bind fun(ij,jh,p8,jF,zN)=>
(let ba:H:=H.new h2 [.int .i64 0,.int .i64 0,.int .i64 0,.str (⟨#[]⟩:ByteArray),.slice .nil 0 0 false] 5
((H.aY ba (.aa h2.next 5 0) [.int .i64 ij,.int .i64 jh,.int .i64 p8,.str jF,.slice zN.a zN.len zN.cap zN.tail]).bind fun bp=>
((iter bd (oC.aZ T a0 a1 h2) (1,bp)).bind fun(LK,dy)=>match LK with
|.next _=>none
|.ret LL=>(some (LL,dy))
|.aP _=>
((ah (.agg [.int .i64,.int .i64,.int .i64,.str,.slice]) dy (.aa h2.next 5 0)).bind fun(nP,nQ,vW,vX,zb)=>
((H.aY dy (.aa h.next 5 0) [.int .i64 nP,.int .i64 nQ,.int .i64 vW,.str vX,.slice zb.a zb.len zb.cap zb.tail]).bind fun hZ=>
((ah (.agg [.int .i64,.int .i64,.int .i64,.str,.slice]) hZ (.aa h.next 5 0:V)).bind fun(zd,ze,zf,KB,abS)=>
(some ((zd,ze,zf,KB,abS),hZ)))))
|.bW _=>none)))))
|.ret s3=>(some (s3,h2))
|.aP _=>none
|.bW _=>none))
noncomputable def oC.p (T:cq):bj:=eu (bf [] [] T) (br [(9,[],[],none,none),(27,[],[],none,none)] [(5,[6],[.leaf (.int .i64)],[],[],some 0,none)]) Tryz.func136 [.leaf .slice,.leaf .dyn] (.one (.agg [.int .i64,.int .i64,.int .i64,.str,.slice])) (fun x h=>oC T.t x.1 x.2 h) fun _ _=>by kernel_rfl
abbrev AM:List ab:=[.int .i64,.int .i64]
abbrev bN:List ab:=[.int .i64,.int .i64,.int .i64,.row AM]
abbrev gN:List ab:=[.int .i64,.int .i64,.int .i64,.str,.row [.str]]
abbrev TP:=Int×Int
abbrev Ao:=Int×Int×Int×List TP
abbrev dV:=Int×Int×Int×ByteArray×List ByteArray
theorem QH{ts:List ai}{rs:an}{f:aj ts→H→Option (rs.C×H)}{args:List V}{h:H}{v:V}{ar:H}(aU:(e8 ts rs f).fC args h (fun v h=>some (v,h))=some (v,ar)):∃x r,aj.pack ts args=some x∧f x h=some (r,ar)∧v=rs.un r:=by
 simp only[e8,Option.bind_eq_some_iff,Option.some.injEq,Prod.mk.injEq]at aU
 obtain⟨x,hx,⟨r,h2⟩,ak,rfl,rfl⟩:=aU
 exact ⟨x,r,hx,ak,rfl⟩
theorem Ju{ts:List ai}{rs:an}{f:aj ts→H→Option (rs.C×H)}{args:List V}{h:H}{x:aj ts}{r:rs.C}{ar:H}(hx:aj.pack ts args=some x)(ak:f x h=some (r,ar)):(e8 ts rs f).fC args h (fun v h=>some (v,h))=some (rs.un r,ar):=by
 simp only[e8,hx,Option.bind_some,ak]
theorem Z8{h:H}{i:Nat}{s:Slot}{cs:List V}{e:Nat}(hi:i<h.next):H.new (h.put i s) cs e=(h.new cs e).put i s:=by
 refine H.ext' rfl fun j=>?_
 simp only[H.new,H.put]
 by_cases aL:j=i
 ·subst aL;rw[c8 (show j≠h.next by omega)];rfl
 ·rw[c8 aL];rfl
theorem aaC{h:H}(bk:∀i,h.next≤i→h.m i=.fresh):∃sl,h=ag sl∧sl.length=h.next:=by
 refine⟨(List.range h.next).map h.m,H.ext' (by simp[ag]) fun i=>?_,by simp⟩
 simp only[fO]
 rcases Nat.lt_or_ge i h.next with hi|hi
 ·rw[List.getElem?_map,List.getElem?_range hi];rfl
 ·rw[List.getElem?_eq_none (by simpa using hi),bk i hi];rfl
theorem Rh{g:FuncId}{ts:List ai}{rs:an}{f hF:aj ts→H→Option (rs.C×H)}(ok:eR Tryz.prog g (e8 ts rs f))(aa:∀x,aj.pack ts (aj.un ts x)=some x)(sL:∀x sl r,hF x (ag sl)=some r→f x (ag sl)=some r):eR Tryz.prog g (e8 ts rs hF):=by
 refine yW fun x h r ar hx base ρ w us af aq=>?_
 obtain⟨sl,rfl,_⟩:=aaC af.top
 exact ((ok (aj.un ts x) (ag sl)).2 (rs.un r) ar (Ju (aa x) (sL x sl (r,ar) hx))).2 base ρ w us af aq
def ik(h:H)(w n:Nat)(cs:List V):au×H:=if n=0 then(⟨.lp true [] 0,0,0,false⟩,h)else (⟨.aa h.next (n*w) 0,n,n,true⟩,h.new cs w)
theorem P4{h:H}{w n:Nat}{cs:List V}(ak:h.m h.next=.fresh):h.next≤(ik h w n cs).2.next∧(∀j,h.m j≠.fresh→(ik h w n cs).2.m j=h.m j)∧∀(i:Nat) (s:Slot),i<h.next→h.m i=.fresh→(ik h w n cs).2.m i=.fresh∧ik (h.put i s) w n cs=((ik h w n cs).1,(ik h w n cs).2.put i s)∧(h.put i s).m (h.put i s).next=.fresh:=by
 unfold ik
 have fr:∀(i:Nat) (s:Slot),i<h.next→(h.put i s).m (h.put i s).next=.fresh:=fun i s hi=>by
  show(h.put i s).m h.next=.fresh
  simp only[H.put,c8 (show h.next≠i by omega),cond_false]
  exact ak
 by_cases aO:n=0
 ·simp only[if_pos aO]
  exact ⟨Nat.le_refl _,by simp,fun i s hi hh=>⟨hh,by simp,fr i s hi⟩⟩
 ·simp only[if_neg aO]
  refine⟨Nat.le_succ _,fun j aL=>?_,fun i s hi hh=>⟨?_, ?_,fr i s hi⟩⟩
  ·have:j≠h.next:=fun e=>aL (by rw[e];exact ak)
   simp[H.new,c8 this]
  ·simp only[H.new,c8 (show i≠h.next by omega),cond_false];exact hh
  ·rw[Z8 hi];rfl
noncomputable def lE (a0:au) (h:H):Option (au×H):=
 match a0.a,h.m h.next with
 |.lp _ cs o,.fresh=>aJ (o=0∧cs.length=a0.len*5∧a0.len≤2^20) (some (ik h 5 a0.len cs))
 |_,_=>none
theorem Of{a0:au}{h:H}{r:au×H}(af:lE a0 h=some r):∃f cs,a0.a=.lp f cs 0∧cs.length=a0.len*5∧a0.len≤2^20∧h.m h.next=.fresh∧r=ik h 5 a0.len cs:=by
 unfold lE at af
 split at af
 ·rename_i f cs o bD ak
  obtain⟨⟨rfl,h2,h3⟩,aI⟩:=fe af
  cases aI
  exact ⟨f,cs,bD,h2,h3,ak,rfl⟩
 ·cases af
theorem Og{a0:au}{h:H}{f:Bool}{cs:List V}(bD:a0.a=.lp f cs 0)(aq:cs.length=a0.len*5)(aM:a0.len≤2^20)(ak:h.m h.next=.fresh):lE a0 h=some (ik h 5 a0.len cs):=by
 unfold lE
 rw[bD,ak]
 simp only
 rw[aS ⟨trivial,aq,aM⟩]
noncomputable def lE.e:Entry:={e8 [.leaf .slice] (.one (.leaf .slice)) lE with
 free:=true
 Kn:=fun _ args h v ar aU=>by
  obtain⟨x,r,hx,ak,rfl⟩:=QH aU
  obtain⟨f,cs,h1,h2,h3,aI,ba⟩:=Of ak
  obtain⟨aG,e2,bP⟩:=P4 (w:=5) (n:=x.len) (cs:=cs) aI
  have kG:r=(ik h 5 x.len cs).1:=congrArg Prod.fst ba
  have MZ:ar=(ik h 5 x.len cs).2:=congrArg Prod.snd ba
  subst kG MZ
  refine⟨aG,e2,fun i s hi eg=>?_⟩
  obtain⟨aw,aH,aW⟩:=bP i s hi eg
  exact ⟨aw,Ju hx (by rw[Og h1 h2 h3 aW,aH])⟩}
theorem lE.ok:eR Tryz.prog 131 lE.e:=by
 have:=Rh (rs:=.one (.leaf .slice)) (hF:=fun(x:aj [.leaf .slice]) h=>lE x h) H7.p.ok (fun _=>rfl) fun x sl r af=>by
  obtain⟨f,cs,h1,h2,h3,aI,ba⟩:=Of af
  subst ba
  unfold nK ik
  by_cases aO:x.len=0
  ·rw[if_pos aO,if_pos aO]
  ·rw[if_neg aO,if_neg aO]
   have ao:cellsOf (ag sl) (.slice x.a x.len x.cap x.tail) 5=some (x.len,cs):=by
    simp only[cellsOf,if_neg aO,h1,H.fv,H.from,List.drop_zero,Option.bind_some]
    rw[if_pos ⟨by rw[h2];exact Nat.le_refl _,by omega⟩,List.take_of_length_le (by rw[h2];exact Nat.le_refl _)]
    rfl
   rw[ao]
   simp only[Option.bind_some,c7,iF,newAt]
   rw[if_neg aO,aS ⟨by unfold ei;omega,by decide⟩,if_pos ⟨trivial,trivial,trivial⟩]
 exact this
theorem Y7{sl:List Slot}{i:Nat}{s bc:Slot}(h:i=sl.length):(sl++[s]).set i bc=sl++[bc]:=by
 subst h
 simp
theorem Y8{f:Bool}{xs:List Ao}{h:H}:cellsOf h (.slice (ae f bN xs).a (ae f bN xs).len (ae f bN xs).cap (ae f bN xs).tail) 4=some (xs.length,xs.flatMap fun x=>LT.lo f bN x):=by
 have j_:(xs.flatMap fun x=>LT.lo f bN x).length=xs.length*4:=hK (ls:=bN) xs
 by_cases aO:xs.length=0
 ·have:xs=[]:=List.eq_nil_of_length_eq_zero aO
  subst this
  rfl
 ·show cellsOf h (.slice (ae f bN xs).a xs.length (ae f bN xs).cap (ae f bN xs).tail) 4=_
  simp only[cellsOf,if_neg aO,H.fv,ae,H.from,List.drop_zero,Option.bind_some]
  rw[if_pos ⟨by rw[j_];exact Nat.le_refl _,by omega⟩,List.take_of_length_le (by rw[j_];exact Nat.le_refl _)]
  rfl
theorem Pj(A L R:List V){k:Nat}(v:V)(aN:k<L.length):Ev.splice (A++(L++R)) (A.length+k) [v]=A++(Ev.splice L k [v]++R):=by
 have aG:(A++(L++R)).take (A.length+k)=A++L.take k:=by
  rw[List.take_append,List.take_of_length_le (by omega),Nat.add_sub_cancel_left,List.take_append_of_le_length (by omega)]
 have e2:(A++(L++R)).drop (A.length+k+1)=L.drop (k+1)++R:=by
  rw[List.drop_append,List.drop_eq_nil_of_le (by omega),List.nil_append,show A.length+k+1-A.length=k+1 by omega,List.drop_append_of_le_length (by omega)]
 unfold Ev.splice
 simp only[List.length_singleton,aG,e2,List.append_assoc]
def pS(x:Ao):Prop:=x.2.2.2.length≤2^20
theorem Y9(l:List TP)(h:l.length≤2^20):k4 16 l=some l:=by
 unfold k4
 rw[aS ⟨by unfold ei;omega,by decide⟩]
theorem X2{f:Bool}{xs:List Ao}{sl:List Slot}(aq:xs.length≤2^20)(ad:∀x∈xs,pS x):oD (ae f bN xs) (ag sl)=some (ik (ag sl) 4 xs.length (bx bN xs)):=by
 unfold oD
 by_cases aO:xs.length=0
 ·have:xs=[]:=List.eq_nil_of_length_eq_zero aO
  subst this
  have aG:nK 4 48 (ae f bN []) (ag sl)=some (⟨.lp true [] 0,0,0,false⟩,ag sl):=rfl
  rw[aG,Option.bind_some]
  simp only
  have:iter bd (oD.aZ ⟨.lp true [] 0,0,0,false⟩) (0,ag sl)=some (.aP (),ag sl):=BO (fun _=>(0,ag sl)) 0 bd (fun i hi=>by omega) (by
   unfold oD.aZ
   simp -implicitDefEqProofs only[]
   rfl) (dj (by omega))
  rw[this]
  rfl
 ·have ao:=Y8 (f:=f) (xs:=xs) (h:=ag sl)
  have aG:nK 4 48 (ae f bN xs) (ag sl)=some (fh sl.length bN xs.length,ag (sl++[.own (xs.flatMap fun x=>LT.lo f bN x) 4])):=by
   unfold nK
   rw[if_neg (show ¬(ae f bN xs).len=0 from aO),ao]
   simp only[Option.bind_some,c7,iF,newAt]
   rw[if_neg aO,aS ⟨by unfold ei;omega,by decide⟩,if_pos ⟨trivial,trivial,trivial⟩,b9]
   rfl
  rw[aG,Option.bind_some]
  simp only
  have hlen:(((fh sl.length bN xs.length).len:Nat):Int)=(xs.length:Int):=rfl
  have loop:iter bd (oD.aZ (fh sl.length bN xs.length)) (0,ag (sl++[.own (xs.flatMap fun x=>LT.lo f bN x) 4]))=some (.aP (),ag (sl++[.own (bx bN xs) 4])):=by
   refine kr (fun i=>((i:Int),ag (sl++[.own ((xs.take i).flatMap (fun x=>LT.lo true bN x)++(xs.drop i).flatMap (fun x=>LT.lo f bN x)) 4]))) (by simp) xs.length bd (fun i hi=>?_) ?_ (dj (by omega))
   ·have hx:xs[i]? =some xs[i]:=List.getElem?_eq_getElem hi
    have eh:((xs.take i).flatMap fun x=>LT.lo true bN x).length=i*4:=by rw[hK (ls:=bN),List.length_take,Nat.min_eq_left (by omega)];rfl
    have bF:xs.drop i=xs[i]::xs.drop (i+1):=List.drop_eq_getElem_cons hi
    have iy:((xs.drop i).flatMap fun x=>LT.lo f bN x)=LT.lo f bN xs[i]++(xs.drop (i+1)).flatMap fun x=>LT.lo f bN x:=by rw[bF,List.flatMap_cons]
    have iX:((xs.drop (i+1)).flatMap fun x=>LT.lo f bN x).length=(xs.length-(i+1))*4:=by rw[hK (ls:=bN),List.length_drop];rfl
    have TQ:(LT.lo f bN xs[i]).length=4:=rfl
    have wI:((xs.take i).flatMap (fun x=>LT.lo true bN x)++(xs.drop i).flatMap (fun x=>LT.lo f bN x)).length=xs.length*4:=by
     rw[List.length_append,eh,iy,List.length_append,TQ,iX];omega
    have sq:V.add (V.add (fh sl.length bN xs.length).a (i*4)) 3=.aa sl.length (xs.length*4) (i*4+3):=by simp[fh,V.add]
    have rd:ah (.leaf .slice) (ag (sl++[.own ((xs.take i).flatMap (fun x=>LT.lo true bN x)++(xs.drop i).flatMap (fun x=>LT.lo f bN x)) 4])) (V.add (V.add (fh sl.length bN xs.length).a (i*4)) 3)=some (ae f AM xs[i].2.2.2):=by
     rw[sq,e5 (g:=xs.length*4) (e:=4) (cs:=(xs.take i).flatMap (fun x=>LT.lo true bN x)++(xs.drop i).flatMap (fun x=>LT.lo f bN x)) (by simp) wI,List.getElem?_append_right (by omega),eh,Nat.add_sub_cancel_left,iy]
     rfl
    have wr:H.aY (ag (sl++[.own ((xs.take i).flatMap (fun x=>LT.lo true bN x)++(xs.drop i).flatMap (fun x=>LT.lo f bN x)) 4])) (V.add (V.add (fh sl.length bN xs.length).a (i*4)) 3) [.slice (ae true AM xs[i].2.2.2).a xs[i].2.2.2.length xs[i].2.2.2.length true]=some (ag (sl++[.own ((xs.take (i+1)).flatMap (fun x=>LT.lo true bN x)++(xs.drop (i+1)).flatMap (fun x=>LT.lo f bN x)) 4])):=by
     rw[sq,eS (cs:=(xs.take i).flatMap (fun x=>LT.lo true bN x)++(xs.drop i).flatMap (fun x=>LT.lo f bN x)) (e:=4) (by simp) wI (by show i*4+3+1≤_;omega),Y7 rfl]
     have:Ev.splice ((xs.take i).flatMap (fun x=>LT.lo true bN x)++(xs.drop i).flatMap (fun x=>LT.lo f bN x)) (i*4+3) [.slice (ae true AM xs[i].2.2.2).a xs[i].2.2.2.length xs[i].2.2.2.length true]=(xs.take (i+1)).flatMap (fun x=>LT.lo true bN x)++(xs.drop (i+1)).flatMap (fun x=>LT.lo f bN x):=by
      have bt:(xs.take (i+1)).flatMap (fun x=>LT.lo true bN x)=(xs.take i).flatMap (fun x=>LT.lo true bN x)++LT.lo true bN xs[i]:=by
       rw[List.take_add_one,hx,Option.toList_some,List.flatMap_append,List.flatMap_cons,List.flatMap_nil,List.append_nil]
      rw[bt]
      rw[iy,←eh,Pj _ _ _ _ (show 3<(LT.lo f bN xs[i]).length by rw[TQ];decide)]
      rw[List.append_assoc]
      rfl
     rw[this]
    unfold oD.aZ
    simp -implicitDefEqProofs only[Int.toNat_natCast]
    have o4:V.bm (V.add (fh sl.length bN xs.length).a (i*4))=true:=rfl
    rw[hlen,decide_eq_true (by omega),cond_true,aS (by omega),aS o4,rd]
    have dH:bB true (ag (sl++[.own ((xs.take i).flatMap (fun x=>LT.lo true bN x)++(xs.drop i).flatMap (fun x=>LT.lo f bN x)) 4])) AM (ae f AM xs[i].2.2.2)=some xs[i].2.2.2:=hL rfl
    simp -implicitDefEqProofs only[Option.bind_some,dH,Y9 _ (ad _ (List.getElem_mem hi))]
    rw[aS (by omega),aS o4,wr,Option.bind_some,dO (by omega)]
   ·unfold oD.aZ
    simp -implicitDefEqProofs only[]
    rw[hlen,decide_eq_false (by omega),cond_false,List.take_length,List.drop_length,List.flatMap_nil,List.append_nil]
  rw[loop]
  unfold ik
  rw[if_neg aO,b9]
  rfl
noncomputable def k2 (a0:au) (h:H):Option (au×H):=
 open Classical in
 match bB true H.empty bN a0,h.m h.next with
 |some xs,.fresh=>if(∃f,a0=ae f bN xs)∧xs.length≤2^20∧(∀x∈xs,pS x)then some (ik h 4 xs.length (bx bN xs))else none
 |_,_=>none
theorem OQ{a0:au}{h:H}{r:au×H}(af:k2 a0 h=some r):∃f xs,a0=ae f bN xs∧xs.length≤2^20∧(∀x∈xs,pS x)∧h.m h.next=.fresh∧r=ik h 4 xs.length (bx bN xs):=by
 unfold k2 at af
 split at af
 ·rename_i xs h1 h2
  split at af
  ·rename_i ao
   obtain⟨⟨f,e⟩,bL,a_⟩:=ao
   cases af
   exact ⟨f,xs,e,bL,a_,h2,rfl⟩
  ·cases af
 ·cases af
theorem OR{f:Bool}{xs:List Ao}{h:H}(aq:xs.length≤2^20)(ad:∀x∈xs,pS x)(ak:h.m h.next=.fresh):k2 (ae f bN xs) h=some (ik h 4 xs.length (bx bN xs)):=by
 have h1:bB true H.empty bN (ae f bN xs)=some xs:=hL rfl
 unfold k2
 rw[h1,ak]
 simp only
 rw[if_pos ⟨⟨f,rfl⟩,aq,ad⟩]
noncomputable def k2.e:Entry:={e8 [.leaf .slice] (.one (.leaf .slice)) k2 with
 free:=true
 Kn:=fun _ args h v ar aU=>by
  obtain⟨x,r,hx,ak,rfl⟩:=QH aU
  obtain⟨f,xs,rfl,h2,h3,aI,ba⟩:=OQ ak
  obtain⟨aG,e2,bP⟩:=P4 (w:=4) (n:=xs.length) (cs:=bx bN xs) aI
  have kG:r=(ik h 4 xs.length (bx bN xs)).1:=congrArg Prod.fst ba
  have MZ:ar=(ik h 4 xs.length (bx bN xs)).2:=congrArg Prod.snd ba
  subst kG MZ
  refine⟨aG,e2,fun i s hi eg=>?_⟩
  obtain⟨aw,aH,aW⟩:=bP i s hi eg
  exact ⟨aw,Ju hx (by rw[OR h2 h3 aW,aH])⟩}
theorem k2.ok:eR Tryz.prog 128 k2.e:=by
 have:=Rh (rs:=.one (.leaf .slice)) (hF:=fun(x:aj [.leaf .slice]) h=>k2 x h) oD.p.ok (fun _=>rfl) fun x sl r af=>by
  obtain⟨f,xs,rfl,h2,h3,aI,ba⟩:=OQ af
  subst ba
  exact X2 h2 h3
 exact this
noncomputable def lE.p:bj:=⟨131,lE.e,lE.ok⟩
noncomputable def k2.p:bj:=⟨128,k2.e,k2.ok⟩
end Go.Proofs.YtlphgijokknjhaaGreat
namespace Go.Proofs
open Go.Shelf
def Tryz.Pk:Go.Shelf.Ren:=⟨fun |7=>126|10=>154|n=>n,fun |23=>185|26=>3|3=>45|28=>190|0=>0|27=>189|33=>125|4=>4|n=>n,fun |n=>n⟩
theorem Tryz.aaD:Go.Proofs.SlLaysZI.n7 Tryz.prog Tryz.Pk:={
 mixed:=by kernel_rfl
 f7:=⟨Tryz.f126.name,by decide,Tryz.func126.trans (congrArg some (by kernel_rfl))⟩
 f10:=⟨Tryz.f154.name,by decide,Tryz.func154.trans (congrArg some (by kernel_rfl))⟩
 t0:=Tryz.underlying0
 a0:=Tryz.isAgg0
 z0:=Tryz.sizeOf0
 v0:=Tryz.zeroValue0
 t4:=Tryz.underlying4
 a4:=Tryz.isAgg4
 z4:=Tryz.sizeOf4
 v4:=Tryz.zeroValue4
 t23:=Tryz.underlying185
 a23:=Tryz.isAgg185
 z23:=Tryz.sizeOf185
 v23:=Tryz.zeroValue185
 t26:=Tryz.underlying3
 a26:=Tryz.isAgg3
 z26:=Tryz.sizeOf3
 v26:=Tryz.zeroValue3
 t27:=Tryz.underlying189
 a27:=Tryz.isAgg189
 z27:=Tryz.sizeOf189
 v27:=Tryz.zeroValue189
 t28:=Tryz.underlying190
 a28:=Tryz.isAgg190
 z28:=Tryz.sizeOf190
 v28:=Tryz.zeroValue190
 t33:=Tryz.underlying125
 a33:=Tryz.isAgg125
 z33:=Tryz.sizeOf125
 v33:=Tryz.zeroValue125}
def Tryz.OS:Go.Shelf.Ren:=⟨fun |6=>125|8=>152|9=>153|11=>176|13=>135|12=>177|23=>165|24=>166|14=>189|15=>190|16=>191|17=>192|18=>193|19=>194|20=>195|21=>196|22=>197|25=>205|26=>181|27=>182|28=>206|29=>207|30=>208|31=>215|n=>n,fun |26=>3|28=>190|24=>50|0=>0|3=>3|37=>174|48=>224|50=>226|4=>4|40=>216|39=>215|45=>221|5=>5|9=>9|51=>240|55=>244|57=>261|58=>262|33=>125|n=>n,fun |n=>n⟩
theorem Tryz.Z9:Go.Proofs.SlLaysZI.n6 Tryz.prog Tryz.OS:={
 mixed:=by kernel_rfl
 f6:=⟨Tryz.f125.name,by decide,Tryz.func125.trans (congrArg some (by kernel_rfl))⟩
 f8:=⟨Tryz.f152.name,by decide,Tryz.func152.trans (congrArg some (by kernel_rfl))⟩
 f11:=⟨Tryz.f176.name,by decide,Tryz.func176.trans (congrArg some (by kernel_rfl))⟩
 t0:=Tryz.underlying0
 a0:=Tryz.isAgg0
 z0:=Tryz.sizeOf0
 v0:=Tryz.zeroValue0
 t24:=Tryz.underlying50
 a24:=Tryz.isAgg50
 z24:=Tryz.sizeOf50
 v24:=Tryz.zeroValue50
 t26:=Tryz.underlying3
 a26:=Tryz.isAgg3
 z26:=Tryz.sizeOf3
 v26:=Tryz.zeroValue3
 t28:=Tryz.underlying190
 a28:=Tryz.isAgg190
 z28:=Tryz.sizeOf190
 v28:=Tryz.zeroValue190
 i26:=by kernel_rfl}
def Tryz.X3:Go.Shelf.Ren:=⟨fun |5=>153|8=>135|7=>177|19=>165|20=>166|10=>189|11=>190|12=>191|13=>192|14=>193|15=>194|16=>195|17=>196|18=>197|30=>205|31=>181|32=>182|33=>206|34=>207|35=>208|40=>215|n=>n,fun |23=>50|25=>3|3=>3|32=>174|22=>50|0=>0|44=>224|46=>226|4=>4|36=>216|35=>215|41=>221|5=>5|9=>9|53=>240|57=>244|63=>261|64=>262|n=>n,fun |n=>n⟩
theorem Tryz.pW:Go.Proofs.SlLaysM.n5 Tryz.prog Tryz.X3:={
 mixed:=by kernel_rfl
 f5:=⟨Tryz.f153.name,by decide,Tryz.func153.trans (congrArg some (by kernel_rfl))⟩
 f7:=⟨Tryz.f177.name,by decide,Tryz.func177.trans (congrArg some (by kernel_rfl))⟩
 f8:=Tryz.func135.trans (congrArg some (by kernel_rfl))
 f10:=⟨Tryz.f189.name,by decide,Tryz.func189.trans (congrArg some (by kernel_rfl))⟩
 f11:=⟨Tryz.f190.name,by decide,Tryz.func190.trans (congrArg some (by kernel_rfl))⟩
 f12:=⟨Tryz.f191.name,by decide,Tryz.func191.trans (congrArg some (by kernel_rfl))⟩
 f13:=⟨Tryz.f192.name,by decide,Tryz.func192.trans (congrArg some (by kernel_rfl))⟩
 f14:=⟨Tryz.f193.name,by decide,Tryz.func193.trans (congrArg some (by kernel_rfl))⟩
 f15:=⟨Tryz.f194.name,by decide,Tryz.func194.trans (congrArg some (by kernel_rfl))⟩
 f16:=⟨Tryz.f195.name,by decide,Tryz.func195.trans (congrArg some (by kernel_rfl))⟩
 f17:=⟨Tryz.f196.name,by decide,Tryz.func196.trans (congrArg some (by kernel_rfl))⟩
 f18:=⟨Tryz.f197.name,by decide,Tryz.func197.trans (congrArg some (by kernel_rfl))⟩
 f19:=Tryz.func165.trans (congrArg some (by kernel_rfl))
 f20:=Tryz.func166.trans (congrArg some (by kernel_rfl))
 f30:=⟨Tryz.f205.name,by decide,Tryz.func205.trans (congrArg some (by kernel_rfl))⟩
 f31:=Tryz.func181.trans (congrArg some (by kernel_rfl))
 f32:=Tryz.func182.trans (congrArg some (by kernel_rfl))
 f33:=⟨Tryz.f206.name,by decide,Tryz.func206.trans (congrArg some (by kernel_rfl))⟩
 f34:=⟨Tryz.f207.name,by decide,Tryz.func207.trans (congrArg some (by kernel_rfl))⟩
 f35:=⟨Tryz.f208.name,by decide,Tryz.func208.trans (congrArg some (by kernel_rfl))⟩
 f40:=⟨Tryz.f215.name,by decide,Tryz.func215.trans (congrArg some (by kernel_rfl))⟩
 t0:=Tryz.underlying0
 a0:=Tryz.isAgg0
 z0:=Tryz.sizeOf0
 v0:=Tryz.zeroValue0
 t3:=Tryz.underlying3
 a3:=Tryz.isAgg3
 z3:=Tryz.sizeOf3
 v3:=Tryz.zeroValue3
 t4:=Tryz.underlying4
 a4:=Tryz.isAgg4
 z4:=Tryz.sizeOf4
 v4:=Tryz.zeroValue4
 t5:=Tryz.underlying5
 a5:=Tryz.isAgg5
 z5:=Tryz.sizeOf5
 v5:=Tryz.zeroValue5
 t9:=Tryz.underlying9
 a9:=Tryz.isAgg9
 z9:=Tryz.sizeOf9
 v9:=Tryz.zeroValue9
 t22:=Tryz.underlying50
 a22:=Tryz.isAgg50
 z22:=Tryz.sizeOf50
 v22:=Tryz.zeroValue50
 t23:=Tryz.underlying50
 a23:=Tryz.isAgg50
 z23:=Tryz.sizeOf50
 v23:=Tryz.zeroValue50
 t25:=Tryz.underlying3
 a25:=Tryz.isAgg3
 z25:=Tryz.sizeOf3
 v25:=Tryz.zeroValue3
 t32:=Tryz.underlying174
 a32:=Tryz.isAgg174
 z32:=Tryz.sizeOf174
 v32:=Tryz.zeroValue174
 t35:=Tryz.underlying215
 a35:=Tryz.isAgg215
 z35:=Tryz.sizeOf215
 v35:=Tryz.zeroValue215
 t36:=Tryz.underlying216
 a36:=Tryz.isAgg216
 z36:=Tryz.sizeOf216
 v36:=Tryz.zeroValue216
 t41:=Tryz.underlying221
 a41:=Tryz.isAgg221
 z41:=Tryz.sizeOf221
 v41:=Tryz.zeroValue221
 t44:=Tryz.underlying224
 a44:=Tryz.isAgg224
 z44:=Tryz.sizeOf224
 v44:=Tryz.zeroValue224
 t46:=Tryz.underlying226
 a46:=Tryz.isAgg226
 z46:=Tryz.sizeOf226
 v46:=Tryz.zeroValue226
 t53:=Tryz.underlying240
 a53:=Tryz.isAgg240
 z53:=Tryz.sizeOf240
 v53:=Tryz.zeroValue240
 t57:=Tryz.underlying244
 a57:=Tryz.isAgg244
 z57:=Tryz.sizeOf244
 v57:=Tryz.zeroValue244
 t63:=Tryz.underlying261
 a63:=Tryz.isAgg261
 z63:=Tryz.sizeOf261
 v63:=Tryz.zeroValue261
 t64:=Tryz.underlying262
 a64:=Tryz.isAgg262
 z64:=Tryz.sizeOf262
 v64:=Tryz.zeroValue262}
def Tryz.Pl:Go.Shelf.Ren:=⟨fun |7=>40|10=>92|n=>n,fun |23=>101|26=>9|3=>3|28=>104|0=>0|27=>103|33=>159|4=>4|n=>n,fun |n=>n⟩
theorem Tryz.aaE:Go.Proofs.SlLaysZ.n7 Tryz.prog Tryz.Pl:={
 mixed:=by kernel_rfl
 f7:=⟨Tryz.f40.name,by decide,Tryz.func40.trans (congrArg some (by kernel_rfl))⟩
 f10:=⟨Tryz.f92.name,by decide,Tryz.func92.trans (congrArg some (by kernel_rfl))⟩
 t0:=Tryz.underlying0
 a0:=Tryz.isAgg0
 z0:=Tryz.sizeOf0
 v0:=Tryz.zeroValue0
 t4:=Tryz.underlying4
 a4:=Tryz.isAgg4
 z4:=Tryz.sizeOf4
 v4:=Tryz.zeroValue4
 t23:=Tryz.underlying101
 a23:=Tryz.isAgg101
 z23:=Tryz.sizeOf101
 v23:=Tryz.zeroValue101
 t26:=Tryz.underlying9
 a26:=Tryz.isAgg9
 z26:=Tryz.sizeOf9
 v26:=Tryz.zeroValue9
 t27:=Tryz.underlying103
 a27:=Tryz.isAgg103
 z27:=Tryz.sizeOf103
 v27:=Tryz.zeroValue103
 t28:=Tryz.underlying104
 a28:=Tryz.isAgg104
 z28:=Tryz.sizeOf104
 v28:=Tryz.zeroValue104
 t33:=Tryz.underlying159
 a33:=Tryz.isAgg159
 z33:=Tryz.sizeOf159
 v33:=Tryz.zeroValue159}
def Tryz.Pm:Go.Shelf.Ren:=⟨fun |7=>113|10=>145|n=>n,fun |23=>176|26=>9|3=>4|28=>104|0=>0|27=>103|33=>159|4=>4|n=>n,fun |n=>n⟩
theorem Tryz.aaF:Go.Proofs.SlLaysZ.n7 Tryz.prog Tryz.Pm:={
 mixed:=by kernel_rfl
 f7:=⟨Tryz.f113.name,by decide,Tryz.func113.trans (congrArg some (by kernel_rfl))⟩
 f10:=⟨Tryz.f145.name,by decide,Tryz.func145.trans (congrArg some (by kernel_rfl))⟩
 t0:=Tryz.underlying0
 a0:=Tryz.isAgg0
 z0:=Tryz.sizeOf0
 v0:=Tryz.zeroValue0
 t4:=Tryz.underlying4
 a4:=Tryz.isAgg4
 z4:=Tryz.sizeOf4
 v4:=Tryz.zeroValue4
 t23:=Tryz.underlying176
 a23:=Tryz.isAgg176
 z23:=Tryz.sizeOf176
 v23:=Tryz.zeroValue176
 t26:=Tryz.underlying9
 a26:=Tryz.isAgg9
 z26:=Tryz.sizeOf9
 v26:=Tryz.zeroValue9
 t27:=Tryz.underlying103
 a27:=Tryz.isAgg103
 z27:=Tryz.sizeOf103
 v27:=Tryz.zeroValue103
 t28:=Tryz.underlying104
 a28:=Tryz.isAgg104
 z28:=Tryz.sizeOf104
 v28:=Tryz.zeroValue104
 t33:=Tryz.underlying159
 a33:=Tryz.isAgg159
 z33:=Tryz.sizeOf159
 v33:=Tryz.zeroValue159}
def Tryz.OT:Go.Shelf.Ren:=⟨fun |6=>39|8=>90|9=>91|11=>133|13=>135|12=>134|23=>165|24=>166|14=>156|15=>157|16=>158|17=>159|18=>160|19=>161|20=>162|21=>163|22=>164|25=>180|26=>181|27=>182|28=>183|29=>184|30=>185|31=>201|n=>n,fun |26=>9|28=>104|24=>43|0=>0|3=>3|37=>174|48=>224|50=>226|4=>4|40=>216|39=>215|45=>221|5=>5|9=>9|51=>240|55=>244|57=>261|58=>262|33=>159|n=>n,fun |n=>n⟩
theorem Tryz.yG:Go.Proofs.SlLaysZ.n6 Tryz.prog Tryz.OT:={
 mixed:=by kernel_rfl
 f6:=⟨Tryz.f39.name,by decide,Tryz.func39.trans (congrArg some (by kernel_rfl))⟩
 f8:=⟨Tryz.f90.name,by decide,Tryz.func90.trans (congrArg some (by kernel_rfl))⟩
 f11:=⟨Tryz.f133.name,by decide,Tryz.func133.trans (congrArg some (by kernel_rfl))⟩
 t0:=Tryz.underlying0
 a0:=Tryz.isAgg0
 z0:=Tryz.sizeOf0
 v0:=Tryz.zeroValue0
 t24:=Tryz.underlying43
 a24:=Tryz.isAgg43
 z24:=Tryz.sizeOf43
 v24:=Tryz.zeroValue43
 t26:=Tryz.underlying9
 a26:=Tryz.isAgg9
 z26:=Tryz.sizeOf9
 v26:=Tryz.zeroValue9
 t28:=Tryz.underlying104
 a28:=Tryz.isAgg104
 z28:=Tryz.sizeOf104
 v28:=Tryz.zeroValue104
 i26:=by kernel_rfl}
def Tryz.X4:Go.Shelf.Ren:=⟨fun |6=>91|8=>135|9=>134|19=>165|20=>166|21=>156|22=>157|23=>158|24=>159|25=>160|26=>161|27=>162|28=>163|29=>164|36=>180|31=>181|32=>182|37=>183|38=>184|39=>185|41=>201|n=>n,fun |27=>43|29=>9|3=>3|32=>174|26=>43|0=>0|44=>224|46=>226|4=>4|36=>216|35=>215|41=>221|5=>5|9=>9|53=>240|57=>244|63=>261|64=>262|n=>n,fun |n=>n⟩
theorem Tryz.lQ:Go.Proofs.SlLaysM.n6 Tryz.prog Tryz.X4:={
 mixed:=by kernel_rfl
 f6:=⟨Tryz.f91.name,by decide,Tryz.func91.trans (congrArg some (by kernel_rfl))⟩
 f8:=Tryz.func135.trans (congrArg some (by kernel_rfl))
 f9:=⟨Tryz.f134.name,by decide,Tryz.func134.trans (congrArg some (by kernel_rfl))⟩
 f19:=Tryz.func165.trans (congrArg some (by kernel_rfl))
 f20:=Tryz.func166.trans (congrArg some (by kernel_rfl))
 f21:=⟨Tryz.f156.name,by decide,Tryz.func156.trans (congrArg some (by kernel_rfl))⟩
 f22:=⟨Tryz.f157.name,by decide,Tryz.func157.trans (congrArg some (by kernel_rfl))⟩
 f23:=⟨Tryz.f158.name,by decide,Tryz.func158.trans (congrArg some (by kernel_rfl))⟩
 f24:=⟨Tryz.f159.name,by decide,Tryz.func159.trans (congrArg some (by kernel_rfl))⟩
 f25:=⟨Tryz.f160.name,by decide,Tryz.func160.trans (congrArg some (by kernel_rfl))⟩
 f26:=⟨Tryz.f161.name,by decide,Tryz.func161.trans (congrArg some (by kernel_rfl))⟩
 f27:=⟨Tryz.f162.name,by decide,Tryz.func162.trans (congrArg some (by kernel_rfl))⟩
 f28:=⟨Tryz.f163.name,by decide,Tryz.func163.trans (congrArg some (by kernel_rfl))⟩
 f29:=⟨Tryz.f164.name,by decide,Tryz.func164.trans (congrArg some (by kernel_rfl))⟩
 f31:=Tryz.func181.trans (congrArg some (by kernel_rfl))
 f32:=Tryz.func182.trans (congrArg some (by kernel_rfl))
 f36:=⟨Tryz.f180.name,by decide,Tryz.func180.trans (congrArg some (by kernel_rfl))⟩
 f37:=⟨Tryz.f183.name,by decide,Tryz.func183.trans (congrArg some (by kernel_rfl))⟩
 f38:=⟨Tryz.f184.name,by decide,Tryz.func184.trans (congrArg some (by kernel_rfl))⟩
 f39:=⟨Tryz.f185.name,by decide,Tryz.func185.trans (congrArg some (by kernel_rfl))⟩
 f41:=⟨Tryz.f201.name,by decide,Tryz.func201.trans (congrArg some (by kernel_rfl))⟩
 t0:=Tryz.underlying0
 a0:=Tryz.isAgg0
 z0:=Tryz.sizeOf0
 v0:=Tryz.zeroValue0
 t3:=Tryz.underlying3
 a3:=Tryz.isAgg3
 z3:=Tryz.sizeOf3
 v3:=Tryz.zeroValue3
 t4:=Tryz.underlying4
 a4:=Tryz.isAgg4
 z4:=Tryz.sizeOf4
 v4:=Tryz.zeroValue4
 t5:=Tryz.underlying5
 a5:=Tryz.isAgg5
 z5:=Tryz.sizeOf5
 v5:=Tryz.zeroValue5
 t9:=Tryz.underlying9
 a9:=Tryz.isAgg9
 z9:=Tryz.sizeOf9
 v9:=Tryz.zeroValue9
 t26:=Tryz.underlying43
 a26:=Tryz.isAgg43
 z26:=Tryz.sizeOf43
 v26:=Tryz.zeroValue43
 t27:=Tryz.underlying43
 a27:=Tryz.isAgg43
 z27:=Tryz.sizeOf43
 v27:=Tryz.zeroValue43
 t29:=Tryz.underlying9
 a29:=Tryz.isAgg9
 z29:=Tryz.sizeOf9
 v29:=Tryz.zeroValue9
 t32:=Tryz.underlying174
 a32:=Tryz.isAgg174
 z32:=Tryz.sizeOf174
 v32:=Tryz.zeroValue174
 t35:=Tryz.underlying215
 a35:=Tryz.isAgg215
 z35:=Tryz.sizeOf215
 v35:=Tryz.zeroValue215
 t36:=Tryz.underlying216
 a36:=Tryz.isAgg216
 z36:=Tryz.sizeOf216
 v36:=Tryz.zeroValue216
 t41:=Tryz.underlying221
 a41:=Tryz.isAgg221
 z41:=Tryz.sizeOf221
 v41:=Tryz.zeroValue221
 t44:=Tryz.underlying224
 a44:=Tryz.isAgg224
 z44:=Tryz.sizeOf224
 v44:=Tryz.zeroValue224
 t46:=Tryz.underlying226
 a46:=Tryz.isAgg226
 z46:=Tryz.sizeOf226
 v46:=Tryz.zeroValue226
 t53:=Tryz.underlying240
 a53:=Tryz.isAgg240
 z53:=Tryz.sizeOf240
 v53:=Tryz.zeroValue240
 t57:=Tryz.underlying244
 a57:=Tryz.isAgg244
 z57:=Tryz.sizeOf244
 v57:=Tryz.zeroValue244
 t63:=Tryz.underlying261
 a63:=Tryz.isAgg261
 z63:=Tryz.sizeOf261
 v63:=Tryz.zeroValue261
 t64:=Tryz.underlying262
 a64:=Tryz.isAgg262
 z64:=Tryz.sizeOf262
 v64:=Tryz.zeroValue262}
end Go.Proofs
namespace Go.Proofs.YtlphgijokknjhaaGreat
open Go Go.Proofs.YtlphgijokknjhaaGreat.Ev
open Go Go.Shelf Go.Proofs.YtlphgijokknjhaaGreat.Ev
theorem insert_perm(x:Lit×DataW Nat):∀l,(DataW.insert x l).Perm (x::l)
 |[]=>List.Perm.refl _
 |y::r=>by
  unfold DataW.insert
  split
  ·exact List.Perm.refl _
  ·exact ((insert_perm x r).cons y).trans (List.Perm.swap _ _ _)
theorem sorted_perm:∀l:List (Lit×DataW Nat),(l.foldr DataW.insert []).Perm l
 |[]=>List.Perm.refl _
 |x::r=>(insert_perm x _).trans ((sorted_perm r).cons x)
def yZ:Value→Option (DataW Nat×List MemPlace):=fun _=>some (.nil,[])
theorem OU{w:World}{b:Nat}{us:List (Value×Value)}{k:TypeId}{lits:List Lit}(aE:w.heap[b]? =some (.map (dR us) us.length))(aM:us.length≤maxLen)(jj:(us.map (·.1)).Nodup)
  (aN:∀(i:Nat) (u:Value×Value),us[i]? =some u→∃rU,lits[i]? =some rU∧keyOf Tryz.prog k u.1=some rU)(aq:lits.length=us.length):
  ∃es,w.ownsMap Tryz.prog k yZ b us.length (.map es)∧(es.map (·.1)).Perm lits∧es.length=us.length:=by
 have zg:(dR us).toList=us.zipIdx.map fun p=>fV p.1 p.2:=qU
 have rl:∀x∈(dR us).toList,∃y,Go.WideElems.rd Tryz.prog k yZ x=some y:=fun x hx=>by
  rw[zg]at hx
  obtain⟨⟨u,i⟩,h1,rfl⟩:=List.mem_map.1 hx
  obtain⟨rU,_,h3⟩:=aN i u (List.mem_zipIdx_iff_getElem?.1 h1)
  exact ⟨_,Go.WideElems.rd_mk (yv:=(.nil,[])) h3 rfl⟩
 have a6:Go.MapKept.Stamped (dR us) us.length:=by
  refine⟨fun x hx=>?_, ?_, ?_⟩
  ·rw[zg]at hx
   obtain⟨⟨u,i⟩,h1,rfl⟩:=List.mem_map.1 hx
   exact (List.getElem?_eq_some_iff.1 (List.mem_zipIdx_iff_getElem?.1 h1)).1
  ·rw[zg,List.map_map]
   have:(us.zipIdx.map ((fun x:MapEntry=>x.born)∘fun p=>fV p.1 p.2))=List.range us.length:=by
    show us.zipIdx.map (fun p=>p.2)=_
    rw[show(fun p:(Value×Value)×Nat=>p.2)=Prod.snd from rfl,List.zipIdx_map_snd,List.range_eq_range']
   rw[this]
   exact List.nodup_range
  ·rw[zg,List.map_map]
   have:(us.zipIdx.map ((fun x:MapEntry=>x.key)∘fun p=>fV p.1 p.2))=us.map (·.1):=by
    show us.zipIdx.map (fun p=>p.1.1)=_
    rw[show(fun p:(Value×Value)×Nat=>p.1.1)=(fun u:Value×Value=>u.1)∘Prod.fst from rfl,←List.map_map,List.zipIdx_map_fst]
   rw[this]
   exact jj
 have hI:Go.WideElems.Fit Tryz.prog k yZ (dR us) us.length:=⟨by rw[Be];exact aM,a6,rl⟩
 refine⟨_,⟨dR us,us.length,aE,hI,by rw[Be];exact Nat.le_refl _,rfl⟩, ?_, ?_⟩
 ·refine ((sorted_perm _).map _).trans (List.Perm.of_eq ?_)
  apply List.ext_getElem?
  intro i
  rw[zg,List.map_map,List.map_map,List.getElem?_map,List.getElem?_zipIdx]
  cases hu:us[i]? with
  |none=>simp only[Option.map_none];rw[List.getElem?_eq_none];have:=List.getElem?_eq_none_iff.1 hu;omega
  |some u=>
   obtain⟨rU,h2,h3⟩:=aN i u hu
   simp only[Option.map_some,Function.comp,h2,Nat.zero_add,Option.some.injEq]
   show(Go.WideElems.rg Tryz.prog k yZ ⟨u.1,u.2,i⟩).1=rU
   rw[Go.WideElems.rg_of (Go.WideElems.rd_mk (R:=yZ) (yv:=(.nil,[])) h3 rfl)]
 ·rw[length_sorted,List.length_map,zg,List.length_map,List.length_zipIdx]
theorem Ri{base:Nat}{ρ:Ev.Ren}{h:H}{w ay:World}{ls:List ab}{ys:List (LT ls)}{GO:List Value}{e:TypeId}{v:Value}(af:Rel base ρ h w)(aE:Go.RowKit.Below w.heap.size w ay)(dH:ay.ownsRow w.heap.size e 1 v ys.length GO)
  (f_:∀ρ,bV ρ (ys.flatMap fun x=>LT.lo true ls x) GO):∃a7,ρ.le a7∧Rel base a7 h ay∧Ev.Below base w ay∧R a7 (.slice (ae true ls ys).a (ae true ls ys).len (ae true ls ys).cap (ae true ls ys).tail) v:=by
 have fN:Ev.Below w.heap.size w ay:=⟨aE,Nat.le_refl _⟩
 obtain⟨hlen,dH⟩:=dH
 rcases dH with⟨rfl,aO⟩|⟨g,cap,cur,rfl,aQ,Hm,h1,h2,h3,aI⟩
 ·have:ys=[]:=List.eq_nil_of_length_eq_zero aO
  subst this
  refine⟨ρ,Ev.Ren.le.refl _,af.ext fN,fN.mono af.aE, ?_⟩
  exact ⟨none,0,rfl,Nat.le_refl _,Nat.le_refl _,fun _=>rfl,fun _=>rfl,.inl rfl,fun h=>absurd rfl h,fun _ _ _ h=>by cases h⟩
 ·refine⟨ρ.froze g GO,Ev.Ren.nE,af.found fN aQ Hm (fun j u hu=>?_),fN.mono af.aE, ?_⟩
  ·rw[←aI,List.getElem?_take]at hu
   split at hu
   ·simpa using hu
   ·cases hu
  ·show R _ (.slice (.lp true (ys.flatMap fun x=>LT.lo true ls x) 0) ys.length ys.length true) _
   simp only[R]
   by_cases aO:ys=[]
   ·subst aO
    exact ⟨_,cap,rfl,Nat.le_refl _,Nat.zero_le _,fun hh=>(by cases hh),fun hh=>(by cases hh),.inl rfl,fun hh=>absurd rfl hh,fun _ _ _ hh _=>by cases hh⟩
   ·have aU:(ys.flatMap fun x=>LT.lo true ls x).length=ys.length:=by rw[(f_ ρ).length,hlen,Nat.mul_one]
    refine⟨_,cap,rfl,Nat.le_refl _,h1,fun hh=>(by cases hh),fun hh=>(by cases hh),.inr ?_,fun _=> .inr ⟨g,0,GO,.inr (.inl ⟨rfl,rfl,rfl⟩),f_ _,rfl⟩,fun _ _ _ hh _=>by cases hh⟩
    cases aV:(ys.flatMap fun x=>LT.lo true ls x)with
    |nil=>
     rw[aV]at aU
     exact absurd (List.eq_nil_of_length_eq_zero aU.symm) aO
    |cons _ _=>rfl
theorem Rj{base:Nat}{ρ:Ev.Ren}{h:H}{w:World}{nj id e:Nat}{u:Value}(af:Rel base ρ h w)(hm:h.m nj=.own [.map (some id)] e)(hu:R ρ (.aa nj 1 0) u):
  ∃b mP,u=.pointer (some ⟨b,0,none⟩)∧b<w.heap.size∧w.cell? ⟨b,0,none⟩=some (.map (some mP))∧R ρ (.map (some id)) (.map (some mP)):=by
 obtain⟨b,x,c,t,aw,aH,aW,bq,bU⟩:=af.own nj _ e hm
 simp only[R]at hu
 obtain⟨c6,fm,bu,rfl⟩:=hu
 rw[show(1:Nat)=[V.map (some id)].length from rfl,aw]at bu
 cases bu
 obtain⟨u,hu,_,iX⟩:=bU.at (i:=0) rfl
 rw[List.getElem?_take,if_pos (show 0<[V.map (some id)].length from Nat.zero_lt_succ _)]at hu
 have TR:=iX
 simp only[R]at TR
 rcases TR with⟨h1,_⟩|⟨da,mP,b5,h1,h2,rfl⟩
 ·cases h1
 ·refine⟨b,mP,rfl,(Array.getElem?_eq_some_iff.1 aW).1, ?_,iX⟩
  simp only[World.cell?,aW,Option.isSome_none,Bool.false_eq_true,if_false]
  simpa using hu
abbrev nZ:ai:=.agg [.int .i64,.int .i64,.int .i64,.str,.slice]
abbrev gg:ai:=.leaf (.int .i64)
def pW(l:List Int):List Int:=l.mergeSort leI
noncomputable def oI (a0:V) (h:H):Option (au×H):=
 match a0 with
 |.func 154 [.aa nj 1 0]=>match h.m nj with
  |.own [.map (some id)] _=>(h.cZ id gg nZ).bind fun l=>aJ (l.length≤2^20∧(l.map (·.1)).Nodup∧∀x∈l.map (·.1),(Lit.int .i64 x).wf=true) (some (ae true [.int .i64] (pW (l.map (·.1))),h))
  |_=>none
 |_=>none
theorem Tryz.aaG(m:Nat):AnyZI.SortsIn Tryz.prog Tryz.OS Fence.wide m:=
 ⟨fun M0 off cap lC W NI LM cf=>callsIn_wide.2 (AnyM.slices_Sort_int Tryz.pW M0 off cap lC W NI LM cf),
  fun p cap W=>callsIn_wide.2 (AnyM.slices_Sort_int_none Tryz.pW p cap W)⟩
noncomputable def oI.e:Entry:=e8 [.leaf .dyn] (.one (.leaf .slice)) fun x h=>oI x h
theorem Rk(ρ:Ev.Ren):∀xs:List Int,bV ρ (xs.flatMap fun x=>LT.lo true [.int .i64] x) (xs.map encZ)
 |[]=>vO
 |x::xs=>by
  rw[List.flatMap_cons,List.map_cons]
  exact ⟨_,_,rfl,rfl,rfl,Rk ρ xs⟩
theorem oI.ok:eR Tryz.prog 125 oI.e:=by
 refine yW fun x h r K8 hx base ρ w us fY ga=> .inl ⟨Bj Tryz.func125 rfl (by kernel_rfl) _ _, ?_⟩
 simp only[oI]at hx
 split at hx
 case h_2=>cases hx
 rename_i nj
 split at hx
 case h_2=>cases hx
 rename_i id e hm
 simp only[Option.bind_eq_some_iff]at hx
 obtain⟨l,aQ,hx⟩:=hx
 obtain⟨⟨hlen,jj,Ec⟩,hx⟩:=fe hx
 simp only[Option.some.injEq,Prod.mk.injEq]at hx
 obtain⟨rfl,rfl⟩:=hx
 obtain⟨jx,tk,rfl,w8,sK⟩:=ga
 have Cz:tk=[]:=sK
 subst Cz
 obtain⟨ajv,rfl,hU⟩:=w8
 obtain⟨up,Hn,rfl,Ap,KC⟩:=hU
 have J_:Hn=[]:=KC
 subst J_
 obtain⟨b,mP,rfl,Ed,kx,M1⟩:=Rj fY hm Ap
 obtain⟨ahk,us,u1,hQ,KD,rm,ahl,qo⟩:=ue fY (a:=3) (.int .i64 Tryz.underlying3) aQ M1
 cases u1
 have lj:us.length=l.length:=by simpa using congrArg List.length rm
 obtain⟨es,iI,zh,LN⟩:=OU (k:=3) (lits:=l.map fun p=>Lit.int .i64 p.1) KD (by rw[lj];exact Nat.le_trans hlen (by decide)) (by
   rw[rm]
   rw[show(fun p:Int×nZ.C=>ai.c0 gg p.1)=(fun x:Int=>Value.int .i64 x)∘(fun p=>p.1)from rfl,←List.map_map]
   exact List.pairwise_map.2 (jj.imp fun h e=>h (by cases e;rfl))) (fun i u hu=>by
   have h1:=congrArg (fun z=>z[i]?) rm
   simp only[List.getElem?_map,hu,Option.map_some]at h1
   cases aq:l[i]? with
   |none=>rw[aq]at h1;cases h1
   |some p=>
    rw[aq]at h1
    simp only[Option.map_some,Option.some.injEq]at h1
    refine⟨.int .i64 p.1,by rw[List.getElem?_map,aq];rfl, ?_⟩
    rw[h1]
    exact Go.Maps.keyOf_int_mk Tryz.underlying3 (Ec _ (List.mem_map.2 ⟨p,List.mem_of_getElem? aq,rfl⟩))) (by simp[lj])
 have M3:(intKeys (DataW.map es)).Perm (l.map (·.1)):=by
  have:=List.Perm.map Go.intOf zh
  rw[List.map_map,List.map_map]at this
  exact this
 have cf:Go.Maps.size (DataW.map es)=l.length:=by show es.length=_;rw[LN,lj]
 have LO:SeqGives Fence.wide 2 Tryz.prog 154 #[.pointer (some ⟨b,0,none⟩)] encZ (fun lC=>lC.Perm (intKeys (DataW.map es))) (Go.Maps.size (DataW.map es)) w:=
  AnyZI.keys_gives (ρ:=Tryz.Pk) {Tryz.aaD with} Fence.wide _ trivial rfl (by omega) b mP us.length _ _ Ed kx iI
 have EK:=AnyZI.sorted_in Tryz.Z9 Fence.wide 5 trivial trivial trivial trivial rfl (by omega) (Tryz.aaG _) (enters_of Tryz.func153 (by kernel_rfl) rfl) 154 #[.pointer (some ⟨b,0,none⟩)] trivial (enters_of Tryz.func154 (by kernel_rfl) rfl) _ _ (by rw[cf];exact Nat.le_trans hlen (by decide)) (by rw[cf];omega) _ LO
 change CallsIn _ _ Tryz.prog 125 _ _ _ at EK
 refine Calls.mono (callsIn_wide.1 EK) fun ajw ay he=>?_
 obtain⟨v,lC,rfl,bh,dH,abT,fN⟩:=he
 have nO:lC.mergeSort leI=pW (l.map (·.1)):=mergeSort_of_perm_i (bh.trans M3)
 have gR:lC.length=(pW (l.map (·.1))).length:=by rw[←nO,(List.mergeSort_perm lC leI).length_eq]
 rw[show(lC.mergeSort fun x y=>decide (x≤y))=pW (l.map (·.1))from nO,gR]at dH
 obtain⟨a7,bu,bs,b6,cd⟩:=Ri (ls:=[.int .i64]) (ys:=pW (l.map (·.1))) fY fN dH fun ρ=>Rk ρ _
 exact ⟨a7,v,bu,bs,b6,rfl,cd⟩
noncomputable def zi.e:Entry:=Entry.none
theorem zi.ok:eR Tryz.prog 154 zi.e:=Entry.vH _ _
abbrev iQ:ai:=.leaf .str
abbrev abU:ai:=.leaf .bool
def y0(x:List UInt8):ByteArray:=⟨x.toArray⟩
def bytesOf(s:ByteArray):List UInt8:=s.data.toList
def lQ(l:List ByteArray):List ByteArray:=((l.map bytesOf).mergeSort leB).map y0
noncomputable def yG {β:Type} (l:List (ByteArray×β)) (h:H):Option (au×H):=
 aJ (l.length≤2^20∧(l.map (·.1)).Nodup∧∀x∈l.map (·.1),x.size≤maxLen) (some (ae true [.str] (lQ (l.map (·.1))),h))
noncomputable def nz (a0:V) (h:H):Option (au×H):=
 match a0 with
 |.func 92 [.aa nj 1 0]=>match h.m nj with
  |.own [.map (some id)] _=>(h.cZ id iQ gg).bind fun l=>yG l h
  |_=>none
 |.func 145 [.aa nj 1 0]=>match h.m nj with
  |.own [.map (some id)] _=>(h.cZ id iQ abU).bind fun l=>yG l h
  |_=>none
 |_=>none
theorem Tryz.aaH(m:Nat):AnyZ.SortsIn Tryz.prog Tryz.OT Fence.wide m:=
 ⟨fun M0 off cap lC W NI LM cf=>callsIn_wide.2 (AnyM.slices_Sort_string Tryz.lQ M0 off cap lC W NI LM cf),
  fun p cap W=>callsIn_wide.2 (AnyM.slices_Sort_string_none Tryz.lQ p cap W)⟩
noncomputable def nz.e:Entry:=e8 [.leaf .dyn] (.one (.leaf .slice)) fun x h=>nz x h
theorem QI(ρ:Ev.Ren):∀xs:List (List UInt8),bV ρ ((xs.map y0).flatMap fun x=>LT.lo true [.str] x) (xs.map encStr)
 |[]=>vO
 |x::xs=>by
  rw[List.map_cons,List.flatMap_cons,List.map_cons]
  exact ⟨_,_,rfl,rfl,rfl,QI ρ xs⟩
theorem P5{bM:ai}{base:Nat}{ρ:Ev.Ren}{h:H}{w:World}{nj id e:Nat}{l:List (ByteArray×bM.C)}{r:au×H}{up:Value}{u9:FuncId}(fY:Rel base ρ h w)(hm:h.m nj=.own [.map (some id)] e)(aQ:h.cZ id iQ bM=some l)(hx:yG l h=some r)(Ap:R ρ (.aa nj 1 0) up)
  (ahm:∀args w,(callFunc u9 args).run Tryz.prog w=.ok (.enter u9 args) w)
  (seq:∀(b mP n:Nat) (es:List (Lit×DataW Nat)),b<w.heap.size→w.cell? ⟨b,0,none⟩=some (.map (some mP))→w.ownsMap Tryz.prog 9 yZ mP n (.map es)→
   SeqGives Fence.wide 2 Tryz.prog u9 #[.pointer (some ⟨b,0,none⟩)] encStr (fun lC=>lC.Perm (strKeys (DataW.map es))) (Go.Maps.size (DataW.map es)) w):
  Calls Tryz.prog 39 #[.func (.func u9) #[] #[up]] w (rD base ρ r.2 (.slice r.1.a r.1.len r.1.cap r.1.tail) w):=by
 obtain⟨⟨hlen,jj,Ec⟩,hx⟩:=fe hx
 simp only[Option.some.injEq]at hx
 subst hx
 obtain⟨b,mP,rfl,Ed,kx,M1⟩:=Rj fY hm Ap
 obtain⟨ahk,us,u1,hQ,KD,rm,ahl,qo⟩:=ue fY (a:=9) (.str Tryz.underlying9) aQ M1
 cases u1
 have lj:us.length=l.length:=by simpa using congrArg List.length rm
 obtain⟨es,iI,zh,LN⟩:=OU (k:=9) (lits:=l.map fun p=>Lit.string (bytesOf p.1)) KD (by rw[lj];exact Nat.le_trans hlen (by decide)) (by
   rw[rm]
   rw[show(fun p:ByteArray×bM.C=>ai.c0 iQ p.1)=(fun x:ByteArray=>Value.string x)∘(fun p=>p.1)from rfl,←List.map_map]
   exact List.pairwise_map.2 (jj.imp fun h e=>h (by cases e;rfl))) (fun i u hu=>by
   have h1:=congrArg (fun z=>z[i]?) rm
   simp only[List.getElem?_map,hu,Option.map_some]at h1
   cases aq:l[i]? with
   |none=>rw[aq]at h1;cases h1
   |some p=>
    rw[aq]at h1
    simp only[Option.map_some,Option.some.injEq]at h1
    refine⟨.string (bytesOf p.1),by rw[List.getElem?_map,aq];rfl, ?_⟩
    rw[h1]
    have ad:=Ec _ (List.mem_map.2 ⟨p,List.mem_of_getElem? aq,rfl⟩)
    show keyOf Tryz.prog 9 (.string p.1)=_
    simp only[keyOf,Tryz.underlying9,mapKey]
    rw[if_pos ad]
    rfl) (by simp[lj])
 have M3:(strKeys (DataW.map es)).Perm ((l.map (·.1)).map bytesOf):=by
  have:=List.Perm.map Go.strOf zh
  rw[List.map_map,List.map_map]at this
  rw[List.map_map]
  exact this
 have cf:Go.Maps.size (DataW.map es)=l.length:=by show es.length=_;rw[LN,lj]
 have LO:=seq b mP us.length es Ed kx iI
 have EK:=AnyZ.sorted_in Tryz.yG Fence.wide 5 trivial trivial trivial trivial rfl (by omega) (Tryz.aaH _) (enters_of Tryz.func91 (by kernel_rfl) rfl) u9 #[.pointer (some ⟨b,0,none⟩)] trivial ahm _ _ (by rw[cf];exact Nat.le_trans hlen (by decide)) (by rw[cf];omega) _ LO
 change CallsIn _ _ Tryz.prog 39 _ _ _ at EK
 refine Calls.mono (callsIn_wide.1 EK) fun ajw ay he=>?_
 obtain⟨v,lC,rfl,bh,dH,abT,fN⟩:=he
 have nO:lC.mergeSort leB=((l.map (·.1)).map bytesOf).mergeSort leB:=mergeSort_of_perm (bh.trans M3)
 have gR:lC.length=(lQ (l.map (·.1))).length:=by rw[lQ,←nO,List.length_map,(List.mergeSort_perm lC leB).length_eq]
 rw[show(lC.mergeSort fun x y=>decide (x≤y))=((l.map (·.1)).map bytesOf).mergeSort leB from nO,gR]at dH
 obtain⟨a7,bu,bs,b6,cd⟩:=Ri (ls:=[.str]) (ys:=lQ (l.map (·.1))) fY fN dH fun ρ=>QI ρ _
 exact ⟨a7,v,bu,bs,b6,rfl,cd⟩
theorem nz.ok:eR Tryz.prog 39 nz.e:=by
 refine yW fun x h r K8 hx base ρ w us fY ga=> .inl ⟨Bj Tryz.func39 rfl (by kernel_rfl) _ _, ?_⟩
 simp only[nz]at hx
 split at hx
 case h_3=>cases hx
 all_goals
  rename_i nj
  split at hx
  case h_2=>cases hx
  rename_i id e hm
  simp only[Option.bind_eq_some_iff]at hx
  obtain⟨l,aQ,hx⟩:=hx
  obtain⟨jx,tk,rfl,w8,sK⟩:=ga
  have Cz:tk=[]:=sK
  subst Cz
  obtain⟨ajv,rfl,hU⟩:=w8
  obtain⟨up,Hn,rfl,Ap,KC⟩:=hU
  have J_:Hn=[]:=KC
  subst J_
 ·exact P5 fY hm aQ hx Ap (enters_of Tryz.func92 (by kernel_rfl) rfl) fun b mP n es h1 h2 h3=>AnyZ.keys_gives (ρ:=Tryz.Pl) {Tryz.aaE with} Fence.wide _ trivial rfl (by omega) b mP n _ _ h1 h2 h3
 ·exact P5 fY hm aQ hx Ap (enters_of Tryz.func145 (by kernel_rfl) rfl) fun b mP n es h1 h2 h3=>AnyZ.keys_gives (ρ:=Tryz.Pm) {Tryz.aaF with} Fence.wide _ trivial rfl (by omega) b mP n _ _ h1 h2 h3
noncomputable def zj.e:Entry:=Entry.none
theorem zj.ok:eR Tryz.prog 145 zj.e:=Entry.vH _ _
noncomputable def zk.e:Entry:=Entry.none
theorem zk.ok:eR Tryz.prog 92 zk.e:=Entry.vH _ _
end Go.Proofs.YtlphgijokknjhaaGreat
namespace Go.Proofs.YtlphgijokknjhaaGreat.Ins
open Go Go.RowKit
theorem Ib{P:Program}{w ay:World}{ops:Array Oper}{rest:List Oper}{o:Oper}{a:Act}{Q:Exit→Act→World→Prop}(Ee:o.guard=none)(d s:Operand)(dT sT:TypeId)
  (a8:o.op=.call {callee:=.builtin .append,args:= #[d,s],argTypes:= #[dT,sT]}){dv sv val:Value}(bF:a.eval d=dv)(ad:a.eval s=sv)(cV:(Builtin.append_ #[dT,sT] o.type #[dv,sv]).run P w=.ok val ay)
  (h:wpList P ops Q rest (a.put o.dst val) ay):wpList P ops Q (o::rest) a w:=by
 refine wpList_plain Ee fun K lz=>?_
 unfold Oper.wp
 simp[execOp,a8,resolve,invoke,builtin,bF,ad,cV,Result.andThen]
 exact lz _ _ h
theorem N4{P:Program}{w ay:World}{ops:Array Oper}{rest:List Oper}{o:Oper}{a:Act}{Q:Exit→Act→World→Prop}(Ee:o.guard=none)(d s:Operand)(dT sT:TypeId)
  (a8:o.op=.call {callee:=.builtin .copy,args:= #[d,s],argTypes:= #[dT,sT]}){dv sv val:Value}(bF:a.eval d=dv)(ad:a.eval s=sv)(cV:(Builtin.copy_ #[dT,sT] o.type #[dv,sv]).run P w=.ok val ay)
  (h:wpList P ops Q rest (a.put o.dst val) ay):wpList P ops Q (o::rest) a w:=by
 refine wpList_plain Ee fun K lz=>?_
 unfold Oper.wp
 simp[execOp,a8,resolve,invoke,builtin,bF,ad,cV,Result.andThen]
 exact lz _ _ h
theorem Oh{P:Program}{ops:Array Oper}{o:Oper}{a:Act}{w:World}{K:Act→World→Prop}{Q:Exit→Act→World→Prop}{E:Prop}(Ee:o.guard=none)(d s:Operand)(dT sT:TypeId)
  (a8:o.op=.call {callee:=.builtin .copy,args:= #[d,s],argTypes:= #[dT,sT]}){dv sv val:Value}(bF:a.eval d=dv)(ad:a.eval s=sv)(S:World→World→Prop)(cV:∃ay,(Builtin.copy_ #[dT,sT] o.type #[dv,sv]).run P w=.ok val ay∧S w ay)
  (h:∀ay,S w ay→K (a.put o.dst val) ay):if Region.wanted o (yielded ops a.tmps)=true then Oper.wp P o a w K Q else E:=by
 have hw:Region.wanted o (yielded ops a.tmps)=true:=by simp[Region.wanted,Ee]
 rw[if_pos hw]
 obtain⟨ay,cV,bh⟩:=cV
 unfold Oper.wp
 simp[execOp,a8,resolve,invoke,builtin,bF,ad,cV,Result.andThen]
 exact h ay bh
theorem Xa{w w1 w2:World}{b bv ov n bg i cn:Nat}{v1 v2:Value}(hi:i<n)(ao:bg<n+1)(aM:n≤2^20)(G_:n≤bg)
  (mC:(Builtin.append_ #[26,3] 26 #[.slice (some ⟨b,0,none⟩) i bg,.int .i64 ((n:Int)+1-i)]).run Tryz.prog w=.ok (.slice (some ⟨w.heap.size,0,none⟩) (n+1) cn) w1)
  (w3:n+1≤cn)
  (wJ:(Builtin.copy_ #[26,26] 3 #[.slice (some ⟨w.heap.size,i*4,none⟩) (n+1-i) (cn-i),.slice (some ⟨bv,ov,none⟩) 1 1]).run Tryz.prog w1=.ok v1 w2)
  (S:World→World→Prop)(LP:∀wd,wd.heap=w2.heap→∃ay,(Builtin.copy_ #[26,26] 3 #[.slice (some ⟨w.heap.size,(i+1)*4,none⟩) (n+1-(i+1)) (cn-(i+1)),.slice (some ⟨b,i*4,none⟩) (n-i) (bg-i)]).run Tryz.prog wd=.ok v2 ay∧S wd ay):
  Calls Tryz.prog 175 #[.slice (some ⟨b,0,none⟩) n bg,.int .i64 i,.slice (some ⟨bv,ov,none⟩) 1 1] w fun e ay=>e=.returned (.slice (some ⟨w.heap.size,0,none⟩) (n+1) cn)∧S w2.drew ay:=by
 have mixed:Tryz.prog.follows .mixedOrders=true:=by kernel_rfl
 go_enter Tryz.func175,Tryz.ntmps175
 go_wp2_with (first |(at_builtin;refine Ib rfl _ _ _ _ rfl rfl rfl mC ?_)|(refine N4 rfl _ _ _ _ rfl rfl rfl wJ ?_))
 have Aq:IntKind.i64.wrap ((i:Int)+1)=(i:Int)+1:=by rw[IntKind.wrap_i64];omega
 have wT:(0:Int)≤(i:Int)+1:=by omega
 have z1:(i:Int)+1≤(n:Int)+1:=by omega
 have bS:¬(cn=i+1):=by omega
 have nk:((i:Int)+1).toNat=i+1:=by omega
 have DG:¬(bg=i):=by omega
 have TS:(0:Int)≤(i:Int):=by omega
 have ahn:(i:Int)≤(n:Int):=by omega
 have aho:i≤n:=by omega
 go_region_law (refine Oh rfl (.tmp 50) (.tmp 53) 26 26 rfl (dv:=.slice (some ⟨w.heap.size,(i+1)*4,none⟩) (n+1-(i+1)) (cn-(i+1))) (sv:=.slice (some ⟨b,i*4,none⟩) (n-i) (bg-i)) (by go_simp) (by go_simp) S (LP _ rfl) ?_;intro mQ Ho)
 go_wp2
 go_ret
 exact ⟨rfl,Ho⟩
theorem Wo{w:World}{b bv ov n bg i:Nat}{v1 v2:Value}(hi:i<n)(ao:n+1≤bg)(aM:n≤2^20)(S T:World→World→Prop)
  (aj6:(callFunc 187 #[.slice (some ⟨bv,ov,none⟩) 1 1,.slice (some ⟨b,(i+1)*4,none⟩) (n-i) (bg-(i+1))]).run Tryz.prog w=.ok (.value (.bool false)) w)
  (wJ:∀wd,wd.heap=w.heap→∃ay,(Builtin.copy_ #[26,26] 3 #[.slice (some ⟨b,(i+1)*4,none⟩) (n+1-(i+1)) (bg-(i+1)),.slice (some ⟨b,i*4,none⟩) (n+1-i) (bg-i)]).run Tryz.prog wd=.ok v2 ay∧S wd ay)
  (LP:∀w1,S w.drew w1→∃w2,(Builtin.copy_ #[26,26] 3 #[.slice (some ⟨b,i*4,none⟩) (n+1-i) (bg-i),.slice (some ⟨bv,ov,none⟩) 1 1]).run Tryz.prog w1=.ok v1 w2∧T w1 w2):
  Calls Tryz.prog 175 #[.slice (some ⟨b,0,none⟩) n bg,.int .i64 i,.slice (some ⟨bv,ov,none⟩) 1 1] w fun e ay=>e=.returned (.slice (some ⟨b,0,none⟩) (n+1) bg)∧∃w1,S w.drew w1∧T w1 ay:=by
 have mixed:Tryz.prog.follows .mixedOrders=true:=by kernel_rfl
 have Aq:IntKind.i64.wrap ((i:Int)+1)=(i:Int)+1:=by rw[IntKind.wrap_i64];omega
 have akv:IntKind.i64.wrap ((n:Int)+1)=(n:Int)+1:=by rw[IntKind.wrap_i64];omega
 have wT:(0:Int)≤(i:Int)+1:=by omega
 have z1:(i:Int)+1≤(n:Int)+1:=by omega
 have akw:(0:Int)≤(n:Int)+1:=by omega
 have akx:(n:Int)+1≤(bg:Int):=by omega
 have bS:¬(bg=i+1):=by omega
 have nk:((i:Int)+1).toNat=i+1:=by omega
 have aky:((n:Int)+1).toNat=n+1:=by omega
 have DG:¬(bg=i):=by omega
 have TS:(0:Int)≤(i:Int):=by omega
 have ahn:(i:Int)≤(n:Int):=by omega
 have akz:(i:Int)≤(n:Int)+1:=by omega
 have aho:i≤n:=by omega
 go_enter Tryz.func175,Tryz.ntmps175
 go_wp2
 go_region_law (refine Oh rfl (.tmp 73) (.tmp 76) 26 26 rfl (dv:=.slice (some ⟨b,(i+1)*4,none⟩) (n+1-(i+1)) (bg-(i+1))) (sv:=.slice (some ⟨b,i*4,none⟩) (n+1-i) (bg-i)) (by go_simp) (by go_simp) S (wJ _ rfl) ?_;intro mQ Ho)
 obtain⟨NJ,abV,bt⟩:=LP mQ Ho
 go_wp2_with (refine N4 rfl _ _ _ _ rfl rfl rfl abV ?_)
 go_ret
 exact ⟨rfl,mQ,Ho,bt⟩
theorem Xb{w w1:World}{q:Addr}{bv ov n bg:Nat}{val:Value}(aM:n≤2^20)(G_:n≤bg)
  (mC:(Builtin.append_ #[26,26] 26 #[.slice (some q) n bg,.slice (some ⟨bv,ov,none⟩) 1 1]).run Tryz.prog w=.ok val w1):
  Calls Tryz.prog 175 #[.slice (some q) n bg,.int .i64 n,.slice (some ⟨bv,ov,none⟩) 1 1] w fun e ay=>e=.returned val∧ay=w1:=by
 have mixed:Tryz.prog.follows .mixedOrders=true:=by kernel_rfl
 go_enter Tryz.func175,Tryz.ntmps175
 go_wp2_with (at_builtin;refine Ib rfl _ _ _ _ rfl rfl rfl mC ?_)
 all_goals (go_ret;exact ⟨rfl,rfl⟩)
theorem Wp{w w1:World}{bv ov:Nat}{val:Value}
  (mC:(Builtin.append_ #[26,26] 26 #[.slice none 0 0,.slice (some ⟨bv,ov,none⟩) 1 1]).run Tryz.prog w=.ok val w1):
  Calls Tryz.prog 175 #[.slice none 0 0,.int .i64 0,.slice (some ⟨bv,ov,none⟩) 1 1] w fun e ay=>e=.returned val∧ay=w1:=by
 have mixed:Tryz.prog.follows .mixedOrders=true:=by kernel_rfl
 go_enter Tryz.func175,Tryz.ntmps175
 go_wp2_with (at_builtin;refine Ib rfl _ _ _ _ rfl rfl rfl mC ?_)
 all_goals (go_ret;exact ⟨rfl,rfl⟩)
end Go.Proofs.YtlphgijokknjhaaGreat.Ins
namespace Go.Proofs.YtlphgijokknjhaaGreat.Ins
open Go Go.RowKit Go.Proofs.YtlphgijokknjhaaGreat.Ev
section
variable{P:Program}
theorem Fy{w:World}{dT sT ty elem:TypeId}{g o dLen dCap bo m:Nat}{a:Addr}{sLen sCap:Nat}{cur:Array Value}{t:TypeId}{cs:List Value}
  (hu:P.underlying dT=some (.slice elem))(ad:eL P elem=some bo)(aQ:w.heap[g]? =some (.cells cur t (0,0)))(hm:Nat.min sLen dLen=m)(aM:cs.length=m*bo)
  (zJ:∀j v,cs[j]? =some v→w.cell? (a.add j)=some v)(j0:o+cs.length≤cur.size)(h1:∀v∈cs,v.oneCell'=true):
  (Builtin.copy_ #[dT,sT] ty #[.slice (some ⟨g,o,none⟩) dLen dCap,.slice (some a) sLen sCap]).run P w=.ok (goInt m) (w.setRow g (cur.toList.take o++cs++cur.toList.drop (o+cs.length)).toArray):=by
 have aq:=run_firstCells_some (P:=P) w bo m a sLen sCap cs aM zJ
 have a6:=run_storeCells_at P g o t cs 0 cur w aQ (by simpa using j0) h1
 simp only[Nat.add_zero]at a6
 simp[Builtin.copy_,run_underlying hu,Builtin.lenOf,hM ad,hm,aq,a6]
theorem VW{w:World}{tS tR e:TypeId}(bk:P.underlying tS=some (.slice e)){size:Nat}(bH:∀w,(Go.sizeOf e).run P w=.ok size w)
  {a b:Addr}{AN NK xG NL:Nat}(bS:a.block≠b.block){tA tB:TypeId}{kA kB:Nat}
  (ahp:w.shape? a.block=some (tA,kA))(ahq:w.shape? b.block=some (tB,kB))(ahr:kA≠0)
  (Hp:w.frozen? b=false)(He:w.frozen? {block:=b.block,off:=kB}=false):
  (Extern.SlicesOverlaps.overlaps #[tS,tS] #[tR] #[.slice (some a) AN NK,.slice (some b) xG NL]).run P w=.ok (.bool false) w:=by
 have ahs:(a.block !=b.block)=true:=by simpa using bS
 have aex:(a.block==b.block)=false:=by simpa using bS
 change Sem.run P (α:=Value) (do
  let some t:=(#[tS,tS]:Array TypeId)[0]?|stuck "slices.overlaps: no parameter types"
  let .slice elem←underlying t |stuck "slices.overlaps: slice type expected"
  let size←sizeOf elem
  match(some a:Option Addr),(some b:Option Addr)with
  |some a,some b=>
   if AN=0∨xG=0∨size=0 then pure (Value.bool false)
   else if a.block !=b.block&&(←frozen a)&&(←frozen b)then unsupported .addressObserved
   else do
    if a.block !=b.block then do
     noView a;noView b
     if←mayBeOne a b then return Value.bool ((←choose (.extern "sameAddr.stringBytes" 2))==1)
    pure (Value.bool (a.block==b.block&&a.off<b.off+xG*size&&b.off<a.off+AN*size))
  |_,_=>pure (Value.bool false)) w=_
 by_cases aO:AN=0∨xG=0∨size=0
 ·simp[run_underlying bk,bH,aO]
 ·cases kA with
  |zero=>exact absurd rfl ahr
  |succ kA=>
   cases aht:w.frozen? a<;>cases ahu:w.frozen? {block:=a.block,off:=kA+1}<;>
   simp[run_underlying bk,bH,aO,ahs,aex,frozen,noView,viewAt,mayBeOne,stringish,shape,Sem.run,ahp,ahq,Hp,He,aht,ahu]
end
theorem wa:Tryz.prog.underlying 26=some (.slice 38):=by kernel_rfl
theorem aey:Tryz.prog.underlying 3=some (.int .i64):=by kernel_rfl
theorem vP:eL Tryz.prog 38=some 4:=by kernel_rfl
theorem Rl:pP Tryz.prog 38=some 48:=by kernel_rfl
theorem aaI:zeroOf Tryz.prog 38=some (.agg #[.int .i64 0,.int .i64 0,.int .i64 0,.slice none 0 0]):=by kernel_rfl
theorem abW{w:World}{bv ov b o AN NK xG NL:Nat}{cv cur:Array Value}{tJ t:TypeId}{HR:Nat×Nat}(aU:w.heap[bv]? =some (.cells cv tJ HR))(aE:w.heap[b]? =some (.cells cur t (0,0)))(bS:bv≠b)(M4:cv.size≠0):
  (callFunc 187 #[.slice (some ⟨bv,ov,none⟩) AN NK,.slice (some ⟨b,o,none⟩) xG NL]).run Tryz.prog w=.ok (.value (.bool false)) w:=by
 have he:Extern.find Tryz.f187=some (Extern.SlicesOverlaps.overlaps #[26,26] #[4]):=by kernel_rfl
 rw[run_callFunc_extern Tryz.func187 (by kernel_rfl) (by kernel_rfl) (by kernel_rfl) he]
 rw[VW (tS:=26) (tR:=4) wa (fun w=>hM vP w) (a:=⟨bv,ov,none⟩) (b:=⟨b,o,none⟩) bS (tA:=tJ) (kA:=cv.size) (tB:=t) (kB:=cur.size) (by simp[World.shape?,aU]) (by simp[World.shape?,aE]) M4 (by simp[World.frozen?,aE]) (by simp[World.frozen?,aE])]
 rfl
end Go.Proofs.YtlphgijokknjhaaGreat.Ins
namespace Go.Proofs.YtlphgijokknjhaaGreat.Ins
open Go Go.RowKit Go.Proofs.YtlphgijokknjhaaGreat.Ev
structure Kept (b:Nat)(w ay:World):Prop where
 os:ay.os=w.os
 tape:ay.tape=w.tape
 output:ay.output=w.output
 drawn:w.drawn≤ay.drawn
 size:w.heap.size≤ay.heap.size
 block:∀k,k<w.heap.size→k≠b→ay.heap[k]? =w.heap[k]?
theorem B0{w:World}{b o j:Nat}{cur:Array Value}{t:TypeId}{fr:Nat×Nat}(aE:w.heap[b]? =some (.cells cur t fr)):w.cell? ((⟨b,o,none⟩:Addr).add j)=cur[o+j]?:=by
 rw[Addr.add_lit]
 simp[World.cell?,aE]
theorem P6{cur:Array Value}{n i j:Nat}{v:Value}(h:((cur.toList.take (n*4)).drop (i*4))[j]? =some v):cur[i*4+j]? =some v:=by
 rw[List.getElem?_drop,List.getElem?_take]at h
 split at h
 ·simpa using h
 ·cases h
theorem Xc{w:World}{b bv ov n bg i:Nat}{cur cv:Array Value}{t tJ:TypeId}{HR:Nat×Nat}{us:List Value}(hi:i<n)(G_:n≤bg)(aM:n≤2^20)(aE:w.heap[b]? =some (.cells cur t (0,0)))(cf:cur.size=bg*4)
  (ji:∀v∈cur.toList.take (n*4),v.oneCell'=true)(aU:w.heap[bv]? =some (.cells cv tJ HR))(l1:∀(j:Nat) u,us[j]? =some u→cv[ov+j]? =some u)(lj:us.length=4)(TT:∀v∈us,v.oneCell'=true)(bS:bv≠b):
  Calls Tryz.prog 175 #[.slice (some ⟨b,0,none⟩) n bg,.int .i64 i,.slice (some ⟨bv,ov,none⟩) 1 1] w fun e ay=>
   ∃kQ tK qd ea,e=.returned (.slice (some ⟨kQ,0,none⟩) (n+1) tK)∧n+1≤tK∧(kQ=b∨kQ=w.heap.size)∧ay.heap[kQ]? =some (.cells qd ea (0,0))∧
    qd.toList.take ((n+1)*4)=cur.toList.take (i*4)++us++(cur.toList.take (n*4)).drop (i*4)∧Kept b w ay:=by
 have Ed:b<w.heap.size:=(Array.getElem?_eq_some_iff.1 aE).1
 have hT:bv<w.heap.size:=(Array.getElem?_eq_some_iff.1 aU).1
 obtain⟨iZ,qy⟩:∃iZ,iZ=(cur.toList.take (n*4)).drop (i*4):=⟨_,rfl⟩
 have wK:iZ.length=(n-i)*4:=by rw[qy,List.length_drop,List.length_take,Array.length_toList,cf];omega
 have SQ:∀v∈iZ,v.oneCell'=true:=fun v h=>ji v (by rw[qy]at h;exact List.mem_of_mem_drop h)
 have aez:cv.size≠0:=by
  have aO:us[0]? =some us[0]:=List.getElem?_eq_getElem (by omega)
  have:=(Array.getElem?_eq_some_iff.1 (l1 0 _ aO)).1
  omega
 have u2:(cur.toList.take (i*4)).length=i*4:=by rw[List.length_take,Array.length_toList,cf];omega
 rw[←qy]
 by_cases ao:bg<n+1
 ·
  have em:((n:Int)+1-i).toNat=n+1-i:=by omega
  have es:i+(n+1-i)=n+1:=by omega
  have mC:=N2 (P:=Tryz.prog) (ts:= #[26,3]) (ty:=26) (t:=26) (u:=3) (e:=38) rfl rfl wa aey vP Rl aaI rfl (k:=.i64) (m:=(n:Int)+1-i) (by omega) (by unfold ei;omega) (by decide) (p:=some ⟨b,0,none⟩) (sl:=i) (sc:=bg) (olds:=cur.toList.take (i*4)) (w:=w)
   (fun ay hw=>run_firstCells_some ay 4 i _ i bg _ u2 fun j v h=>by
    rw[B0 (cur:=cur) (t:=t) (fr:=(0,0)) (by rw[hw];exact aE)]
    rw[List.getElem?_take]at h
    split at h
    ·simpa using h
    ·cases h) (by rw[em];omega) (by rw[em];unfold ei;omega)
  rw[em,es]at mC
  have w3:=grownCap_ge w (n+1) bg 38
  generalize grownCap w (n+1) bg 38=cn at mC w3
  obtain⟨qI,M5⟩:∃qI:Array Value,qI=(cur.toList.take (i*4)).toArray++(Builtin.zeroCells (Value.agg #[.int .i64 0,.int .i64 0,.int .i64 0,.slice none 0 0]).cells (n+1-i)).toList.toArray++Builtin.zeroCells (Value.agg #[.int .i64 0,.int .i64 0,.int .i64 0,.slice none 0 0]).cells (cn-(n+1)):=⟨_,rfl⟩
  rw[←M5]at mC
  have aeA:qI.size=cn*4:=by
   rw[M5]
   simp only[Array.size_append,List.size_toArray,u2,Array.length_toList,size_zeroCells]
   have:(Value.agg #[.int .i64 0,.int .i64 0,.int .i64 0,.slice none 0 0]).cells.size=4:=rfl
   rw[this]
   omega
  have aeB:qI.toList.take (i*4)=cur.toList.take (i*4):=by
   rw[M5]
   simp only[Array.toList_append,List.append_assoc]
   rw[List.take_left' u2]
  obtain⟨w1,od⟩:∃w1,w1=w.drew.alloc (.cells qI 38):=⟨_,rfl⟩
  rw[←od]at mC
  have TU:w1.heap[w.heap.size]? =some (.cells qI 38 (0,0)):=by rw[od];exact heap_alloc_new w.drew _
  have TV:∀k,k<w.heap.size→w1.heap[k]? =w.heap[k]?:=fun k aN=>by rw[od];first |exact heap_alloc_old w.drew _ aN|exact heap_alloc_old w.drew _ _ aN
  have wJ:=Fy (P:=Tryz.prog) (w:=w1) (dT:=26) (sT:=26) (ty:=3) wa vP (g:=w.heap.size) (o:=i*4) (dLen:=n+1-i) (dCap:=cn-i) (m:=1) (a:=⟨bv,ov,none⟩) (sLen:=1) (sCap:=1) TU (by show min 1 (n+1-i)=1;omega) (cs:=us) (by omega)
   (fun j v h=>by rw[B0 (by rw[TV bv hT];exact aU)];exact l1 j v h) (by omega) TT
  obtain⟨qJ,M6⟩:∃qJ:Array Value,qJ=(qI.toList.take (i*4)++us++qI.toList.drop (i*4+us.length)).toArray:=⟨_,rfl⟩
  rw[←M6]at wJ
  obtain⟨w2,gF⟩:∃w2,w2=w1.setRow w.heap.size qJ:=⟨_,rfl⟩
  rw[←gF]at wJ
  have TW:w2.heap[w.heap.size]? =some (.cells qJ 38 (0,0)):=by rw[gF];exact setRow_heap w1 _ qI qJ 38 (0,0) TU
  have TX:∀k,k<w.heap.size→w2.heap[k]? =w.heap[k]?:=fun k aN=>by rw[gF,setRow_other w1 _ k qJ (by omega)];exact TV k aN
  have aeC:qJ.size=cn*4:=by
   rw[M6]
   simp only[List.size_toArray,List.length_append,List.length_take,List.length_drop,Array.length_toList,aeA,lj]
   omega
  have aeD:qJ.toList.take ((i+1)*4)=cur.toList.take (i*4)++us:=by
   rw[M6,aeB]
   have hlen:(cur.toList.take (i*4)++us).length=(i+1)*4:=by rw[List.length_append,u2,lj];omega
   show List.take _ (cur.toList.take (i*4)++us++qI.toList.drop (i*4+us.length))=_
   rw[List.take_left' hlen]
  obtain⟨AO,TY⟩:∃AO:Array Value,AO=(qJ.toList.take ((i+1)*4)++iZ++qJ.toList.drop ((i+1)*4+iZ.length)).toArray:=⟨_,rfl⟩
  have W:=Xa (w:=w) (w1:=w1) (w2:=w2) (b:=b) (bv:=bv) (ov:=ov) (cn:=cn) hi ao aM G_ mC w3 wJ (fun wd ay=>ay=wd.setRow w.heap.size AO) (v2:=goInt (n-i:Nat)) (fun wd Ar=>by
   refine⟨_,Fy (P:=Tryz.prog) (w:=wd) (dT:=26) (sT:=26) (ty:=3) wa vP (g:=w.heap.size) (o:=(i+1)*4) (m:=n-i) (by rw[Ar];exact TW) (by show min (n-i) (n+1-(i+1))=n-i;omega) (cs:=iZ) wK
    (fun j v h=>by rw[B0 (by rw[Ar,TX b Ed];exact aE)];rw[qy]at h;exact P6 h) (by rw[wK,aeC];omega) SQ,by rw[TY]⟩)
  refine W.mono ?_
  rintro e ay ⟨rfl,rfl⟩
  refine⟨w.heap.size,cn,AO,38,rfl,w3,.inr rfl,setRow_heap w2.drew _ qJ AO 38 (0,0) TW, ?_,⟨?_, ?_, ?_, ?_, ?_,fun k aN _=>?_⟩⟩
  ·rw[TY,aeD]
   have hlen:(cur.toList.take (i*4)++us++iZ).length=(n+1)*4:=by rw[List.length_append,List.length_append,u2,lj,wK];omega
   show List.take _ (cur.toList.take (i*4)++us++iZ++_)=_
   rw[List.take_left' hlen]
  ·rw[gF,od];rfl
  ·rw[gF,od];rfl
  ·rw[gF,od];rfl
  ·rw[gF,od];show w.drawn≤w.drawn+1+1;omega
  ·rw[gF,od]
   have:w.heap.size≤(w.drew.alloc (.cells qI 38)).heap.size:=by show w.heap.size≤(w.heap.push _).size;simp
   simpa[World.setRow]using this
  ·rw[setRow_other _ _ k AO (by omega)];exact TX k aN
 ·
  have wU:n+1≤bg:=by omega
  obtain⟨kS,Hq⟩:∃kS:Array Value,kS=(cur.toList.take ((i+1)*4)++iZ++cur.toList.drop ((i+1)*4+iZ.length)).toArray:=⟨_,rfl⟩
  have aeE:kS.size=bg*4:=by
   rw[Hq]
   simp only[List.size_toArray,List.length_append,List.length_take,List.length_drop,Array.length_toList,cf,wK]
   omega
  obtain⟨va,TZ⟩:∃va:Array Value,va=(kS.toList.take (i*4)++us++kS.toList.drop (i*4+us.length)).toArray:=⟨_,rfl⟩
  have W:=Wo (w:=w) (b:=b) (bv:=bv) (ov:=ov) (bg:=bg) hi wU aM (fun wd ay=>wd.heap=w.heap∧ay=wd.setRow b kS) (fun w1 w2=>w2=w1.setRow b va) (v2:=goInt (n-i:Nat)) (v1:=goInt 1)
   (abW aU aE bS aez)
   (fun wd Ar=>by
    refine⟨_,Fy (P:=Tryz.prog) (w:=wd) (dT:=26) (sT:=26) (ty:=3) wa vP (g:=b) (o:=(i+1)*4) (m:=n-i) (by rw[Ar];exact aE) (by show min (n+1-i) (n+1-(i+1))=n-i;omega) (cs:=iZ) wK
     (fun j v h=>by rw[B0 (by rw[Ar];exact aE)];rw[qy]at h;exact P6 h) (by rw[wK,cf];omega) SQ,Ar,by rw[Hq]⟩)
   (fun w1 h=>by
    obtain⟨_,rfl⟩:=h
    refine⟨_,Fy (P:=Tryz.prog) (dT:=26) (sT:=26) (ty:=3) wa vP (g:=b) (o:=i*4) (m:=1) (setRow_heap w.drew b cur kS t (0,0) aE) (by show min 1 (n+1-i)=1;omega) (cs:=us) (by omega)
     (fun j v h=>by rw[B0 (by rw[setRow_other w.drew b bv kS bS];exact aU)];exact l1 j v h) (by rw[aeE];omega) TT,by rw[TZ]⟩)
  refine W.mono ?_
  rintro e ay ⟨rfl,w1,⟨_,rfl⟩,rfl⟩
  have h1:(w.drew.setRow b kS).heap[b]? =some (.cells kS t (0,0)):=setRow_heap w.drew b cur kS t (0,0) aE
  refine⟨b,bg,va,t,rfl,wU,.inl rfl,setRow_heap _ b kS va t (0,0) h1, ?_,⟨rfl,rfl,rfl, ?_, ?_,fun k aN As=>?_⟩⟩
  ·have nb:(cur.toList.take ((i+1)*4)).length=(i+1)*4:=by rw[List.length_take,Array.length_toList,cf];omega
   have aeF:kS.toList.take (i*4)=cur.toList.take (i*4):=by
    rw[Hq]
    show List.take _ (cur.toList.take ((i+1)*4)++iZ++_)=_
    rw[List.append_assoc,List.take_append_of_le_length (by rw[nb];omega),List.take_take,Nat.min_eq_left (by omega)]
   have aeG:(kS.toList.drop ((i+1)*4)).take ((n-i)*4)=iZ:=by
    rw[Hq]
    show((cur.toList.take ((i+1)*4)++iZ++_).drop _).take _=_
    rw[List.append_assoc,List.drop_left' nb,List.take_left' wK]
   rw[TZ,aeF,lj]
   have hlen:(cur.toList.take (i*4)++us).length=(i+1)*4:=by rw[List.length_append,u2,lj];omega
   show List.take _ (cur.toList.take (i*4)++us++kS.toList.drop (i*4+4))=_
   rw[show(n+1)*4=(i+1)*4+(n-i)*4 by omega,←hlen,List.take_append,List.take_of_length_le (Nat.le_add_right _ _),Nat.add_sub_cancel_left,show i*4+4=(i+1)*4 by omega,aeG]
  ·show w.drawn≤w.drawn+1;omega
  ·have:w.heap.size≤w.drew.heap.size:=Nat.le_refl _
   simpa[World.setRow]using this
  ·rw[setRow_other _ _ k va As,setRow_other _ _ k kS As];rfl
end Go.Proofs.YtlphgijokknjhaaGreat.Ins
namespace Go.Proofs.YtlphgijokknjhaaGreat.Ins
open Go Go.RowKit Go.Proofs.YtlphgijokknjhaaGreat.Ev
def zl(h:H)(id:Nat):H:={next:=h.next+1,m:=fun i=>bif Nat.beq i id then .dead else bif Nat.beq i h.next then .dead else h.m i}
theorem yC{h:H}{id i:Nat}{s:Slot}(h1:(zl h id).m i=s)(ad:s≠.dead):i≠id∧h.m i=s:=by
 have eV:(bif Nat.beq i id then Slot.dead else bif Nat.beq i h.next then .dead else h.m i)=s:=h1
 by_cases e:i=id
 ·subst e
  simp at eV
  exact absurd eV.symm ad
 ·rw[c8 e,cond_false]at eV
  by_cases e2:i=h.next
  ·subst e2
   simp at eV
   exact absurd eV.symm ad
  ·rw[c8 e2,cond_false]at eV
   exact ⟨e,eV⟩
theorem aaJ{base:Nat}{ρ:Ren}{h:H}{w ay:World}(af:Rel base ρ h w){id:Nat}{cs:List V}{e b x:Nat}(hm:h.m id=.own cs e)(aE:ρ.map id cs.length=some (b,x))(aN:Kept b w ay){kQ:Nat}(lh:kQ=b∨kQ=w.heap.size)
  {qd:Array Value}{ea:TypeId}(ao:ay.heap[kQ]? =some (.cells qd ea (0,0))){cw:List Value}(l1:∀(j:Nat) u,cw[j]? =some u→qd[j]? =some u):Rel base (ρ.froze kQ cw) (zl h id) ay∧Ev.Below base w ay:=by
 obtain⟨EC,x0,iO,t0,aw,aH,aW,bq,bU⟩:=af.own id cs e hm
 rw[aE]at aw;cases aw
 have fN:Ev.Below base w ay:=⟨⟨aN.os,aN.tape,aN.output,aN.size,fun k As=>aN.block k (by have:=af.aE;omega) (by omega)⟩,Nat.le_refl _⟩
 have iI:∀i gE aG,h.m i=.own gE aG→i≠id→∃b8 y bL t1,ρ.map i gE.length=some (b8,y)∧base≤b8∧b8<w.heap.size∧b8≠b∧ay.heap[b8]? =some (.cells bL t1 (0,0))∧bL.size=gE.length+y*aG∧bV ρ gE (bL.toList.take gE.length):=fun i gE aG hi cg=>by
  obtain⟨b8,y,bL,t1,h1,h2,h3,aI,ba⟩:=af.own i gE aG hi
  have bn:=(Array.getElem?_eq_some_iff.1 h3).1
  have bS:=af.sep i id gE cs aG e b8 y b x cg hi hm h1 aE
  exact ⟨b8,y,bL,t1,h1,h2,bn,bS,by rw[aN.block b8 bn bS];exact h3,aI,ba⟩
 refine⟨⟨af.ma.below fN,Nat.le_trans af.aE aN.size,fun i g y aK=>?_,fun i gE aG hi=>?_,fun i g y gE aG aK hi=>?_,fun i hi=>?_,fun i c3 bL a_ aG e2 b8 y c6 gK bS h1 h2=>?_,fun f b8 i us ak=>?_,fun b8 i us ak=>?_,fun f b8 i us da gE aG y ak hi=>?_,
  af.eF.jZ Ren.nE (fun i s hi ad=>(yC hi (fun e=>by subst e;cases ad)).2) (fun _ h=>h) (fun _ _ h=>h) (fun k o a8 aM=>by
   by_cases As:k=b
   ·subst As;rw[aW]at a8;cases a8;exact absurd rfl (aM _ _ _)
   ·rw[aN.block k (Array.getElem?_eq_some_iff.1 a8).1 As];exact a8) aN.size⟩,fN⟩
 ·intro eg
  have Dj:(bif Nat.beq i id then Slot.dead else bif Nat.beq i h.next then .dead else h.m i)=.fresh:=eg
  by_cases e:i=id
  ·subst e;simp at Dj
  ·rw[c8 e,cond_false]at Dj
   by_cases e2:i=h.next
   ·subst e2;simp at Dj
   ·rw[c8 e2,cond_false]at Dj
    exact af.used i g y aK Dj
 ·obtain⟨cg,ej⟩:=yC hi (by simp)
  obtain⟨b8,y,bL,t1,h1,h2,_,_,h3,aI,ba⟩:=iI i gE aG ej cg
  exact ⟨b8,y,bL,t1,h1,h2,h3,aI,nH Ren.nE _ _ ba⟩
 ·exact af.kz i g y gE aG aK (yC hi (by simp)).2
 ·have ej:h.next+1≤i:=hi
  show(bif Nat.beq i id then Slot.dead else bif Nat.beq i h.next then .dead else h.m i)=.fresh
  have aT:id<h.next:=by
   rcases Nat.lt_or_ge id h.next with bn |hy
   ·exact bn
   ·rw[af.top id hy]at hm;cases hm
  rw[c8 (by omega),c8 (by omega),cond_false,cond_false]
  exact af.top i (by omega)
 ·exact af.sep i c3 bL a_ aG e2 b8 y c6 gK bS (yC h1 (by simp)).2 (yC h2 (by simp)).2
 ·rcases ak with⟨rfl,rfl,rfl⟩|ak
  ·exact ⟨qd,ea,(0,0),ao,fun j u hu=>by simpa using l1 j u hu⟩
  ·obtain⟨bL,t1,fr,h1,h2⟩:=af.jg f b8 i us ak
   refine⟨bL,t1,fr, ?_,h2⟩
   rw[aN.block b8 (Array.getElem?_eq_some_iff.1 h1).1 (fun e=>by subst e;exact af.je f b8 i us id cs _ x ak hm aE)]
   exact h1
 ·rcases ak with⟨rfl,rfl,rfl⟩|ak
  ·rcases lh with rfl |rfl
   ·exact aH
   ·exact af.aE
  ·exact af.k7 b8 i us ak
 ·obtain⟨cg,ej⟩:=yC hi (by simp)
  rcases ak with⟨rfl,rfl,rfl⟩|ak
  ·intro he
   have fP:ρ.map da gE.length=some (b8,y):=he
   obtain⟨b2,cc,a_,t2,ep,_,aD,gd,_⟩:=iI da gE aG ej cg
   rw[fP]at ep;cases ep
   rcases lh with e |e
   ·exact gd e
   ·omega
  ·exact af.je f b8 i us da gE aG y ak ej
noncomputable def jc (a0:au) (a1:Int) (a2:au) (h:H):Option (au×H):=
 match a2.a with
 |.lp _ vs mc=>aJ (mc=0∧a2.len=1∧a2.cap=1∧a2.tail=false∧vs.length=4∧a0.len≤2^20)
  (if a1=a0.len then c7 h none 4 48 a0 vs 1
   else match a0.a with
   |.aa id g off=>match h.m id with
    |.own cs e=>aJ (e=4∧off=0∧g=cs.length∧cs.length=a0.cap*4∧a0.tail=true∧0≤a1∧a1<a0.len∧a0.len≤a0.cap)
      (some (⟨.lp true (cs.take (a1.toNat*4)++vs++(cs.take (a0.len*4)).drop (a1.toNat*4)) 0,a0.len+1,a0.len+1,true⟩,zl h id))
    |_=>none
   |_=>none)
 |_=>none
noncomputable def jc.e:Entry:=e8 [.leaf .slice,.leaf (.int .i64),.leaf .slice] (.one (.leaf .slice)) fun x h=>jc x.1 x.2.1 x.2.2 h
theorem Z_{ρ:Ren}{vs:List V}{us:List Value}(h:bV ρ vs us)(k:Nat):bV ρ (vs.drop k) (us.drop k):=by
 rw[jT]at h⊢
 refine⟨by rw[List.length_drop,List.length_drop,h.1],fun i v u aU hu=>?_⟩
 rw[List.getElem?_drop]at aU hu
 exact h.2 _ v u aU hu
theorem jc.ok:eR Tryz.prog 175 jc.e:=by
 refine yW fun x h r ar hx base ρ w us af aq=> .inl ⟨Bj Tryz.func175 rfl (by kernel_rfl) _ w, ?_⟩
 obtain⟨a0,a1,a2⟩:=x
 simp only[jc]at hx
 split at hx
 case h_2=>cases hx
 rename_i fl vs mc Mi
 obtain⟨⟨rfl,bu,bs,b6,cd,cp⟩,kH⟩:=fe hx
 clear hx
 have hx:=kH
 clear kH
 obtain⟨jx,tk,rfl,w8,gi,Hn,rfl,ahv,u7,ahw,rfl,uT,sK⟩:=aq
 have Cz:ahw=[]:=sK
 subst Cz
 have aeH:gi=.int .i64 a1:=dA.1 ahv
 subst aeH
 have SR:R ρ (.slice a0.a a0.len a0.cap a0.tail) jx:=w8
 have LQ:R ρ (.slice a2.a a2.len a2.cap a2.tail) u7:=uT
 rw[Mi,bu,bs,b6]at LQ
 obtain⟨cH,a_,rfl,cy,dd,dF,gy,ki,jM,pq⟩:=mv LQ
 have Hr:=dF rfl
 subst Hr
 have xi:=jM (by decide)
 simp only[R]at xi
 have SS:vs≠[]:=fun e=>by rw[e]at cd;simp at cd
 rcases xi with⟨e,_⟩|⟨bv,HS,M7,j6,f_,T0⟩
 ·exact absurd e SS
 simp only[Value.pointer.injEq]at T0
 subst T0
 have j6:=j6.resolve_left SS
 obtain⟨cv,tJ,HR,aU,M4⟩:=af.jg _ _ _ _ j6
 have aeI:M7.length=4:=by rw[←f_.length,cd]
 obtain⟨UW,iO,rfl,bw,bJ,ch,bQ,di,b4,fp⟩:=mv SR
 by_cases cI:a1=a0.len
 ·rw[if_pos cI]at hx
  subst cI
  have hU:se Tryz.prog 26 [.int .i64 0,.int .i64 0,.int .i64 0,.slice .nil 0 0 false] 48 h (.slice (.lp fl vs 0) 1 1 false) 4=some (1,vs):=by
   have gR:isSlice Tryz.prog 26=some 38:=by kernel_rfl
   unfold se
   rw[gR]
   simp only[cellsOf,H.fv,H.from,List.drop_zero,Option.bind_some]
   rw[if_neg (by decide),if_pos ⟨by rw[cd];decide,by decide⟩,List.take_of_length_le (by rw[cd];decide)]
   rfl
  have bH:zeroCells Tryz.prog 38=some [.int .i64 0,.int .i64 0,.int .i64 0,.slice .nil 0 0 false]:=by kernel_rfl
  obtain⟨a7,v,ak,val,ay,aw,aH,aW,bq,bU,ek⟩:=PS (P:=Tryz.prog) (ts:= #[26,26]) (ty:=26) (t:=26) (u:=26) (e:=38) rfl rfl wa vP Rl bH rfl af (at_:=none) (fun i e=>by cases e) SR (x:=.slice (.lp fl vs 0) 1 1 false) (ux:=.slice (some ⟨bv,HS+0,none⟩) 1 1) LQ hU hx
  have js:v=.slice r.a r.len r.cap r.tail∧ak=ar:=by
   split at ek
   ·simp only[Option.some.injEq,Prod.mk.injEq]at ek
    obtain⟨rfl,rfl⟩:=ek
    exact ⟨rfl,rfl⟩
   ·cases ek
  obtain⟨rfl,rfl⟩:=js
  have fin:Calls Tryz.prog 175 #[.slice UW a0.len iO,.int .i64 a0.len,.slice (some ⟨bv,HS+0,none⟩) 1 1] w fun e Hc=>e=.returned val∧Hc=ay:=by
   cases UW with
   |none=>
    have jl:=bQ rfl
    have ahx:a0.len=0:=by omega
    rw[jl,ahx]at aw⊢
    exact Wp aw
   |some q=>
    exact Xb (by omega) (by omega) aw
  exact fin.mono fun e Hc ⟨h1,h2⟩=>⟨a7,val,aH,by rw[h2];exact aW,by rw[h2];exact bq,h1,bU⟩
 ·rw[if_neg cI]at hx
  cases bD:a0.a<;>rw[bD]at hx<;>simp only[reduceCtorEq]at hx
  rename_i id g off
  cases hm:h.m id<;>rw[hm]at hx<;>simp only[reduceCtorEq]at hx
  rename_i cs e
  obtain⟨aQ,T1⟩:=fe hx
  clear hx
  simp only[Option.some.injEq,Prod.mk.injEq]at T1
  obtain⟨ahy,ahz⟩:=T1
  subst ahy ahz
  obtain⟨ep,aD,gd,kh,xx,ajx,ale,alf⟩:=aQ
  subst ep aD
  obtain⟨i,rfl⟩:=Int.eq_ofNat_of_zero_le ajx
  have hi:i<a0.len:=by omega
  obtain⟨b,x,hQ,jl⟩:=fp id g 0 bD xx
  have wV:=b4 (by omega)
  rw[bD]at wV
  simp only[R]at wV
  obtain⟨c6,fm,Sp,w4⟩:=wV
  rw[hQ]at Sp
  cases Sp
  simp only[Value.pointer.injEq]at w4
  subst w4
  obtain⟨b2,b5,cur,t,s1,s2,cU,eD,ee⟩:=af.own id cs 4 hm
  rw[←gd,hQ]at s1
  cases s1
  have cf:cur.size=iO*4:=by rw[eD,kh,jl];omega
  have hlen:a0.len*4≤cs.length:=by omega
  have T2:bV ρ (cs.take (a0.len*4)) (cur.toList.take (a0.len*4)):=by
   have:=ee.take (a0.len*4)
   rw[List.take_take,Nat.min_eq_left hlen]at this
   exact this
  have bS:bv≠b:=fun e=>af.je fl bv HS M7 id cs 4 x j6 hm (by rw[←gd,e];exact hQ)
  have W:=Xc (w:=w) (b:=b) (bv:=bv) (ov:=HS+0) (n:=a0.len) (bg:=iO) (i:=i) (cur:=cur) (cv:=cv) (us:=M7) hi (by omega) cp cU cf T2.GD aU (fun j u h=>by rw[Nat.add_zero];exact M4 j u h) aeI f_.GD bS
  refine W.mono ?_
  rintro e ay ⟨kQ,tK,qd,ea,rfl,wU,lh,aeJ,abX,abY⟩
  obtain⟨kS,va⟩:=aaJ af (id:=id) (cs:=cs) (e:=4) (b:=b) (x:=x) hm (by rw[←gd];exact hQ) abY lh aeJ (cw:=qd.toList.take ((a0.len+1)*4)) (fun j u h=>by
   rw[List.getElem?_take]at h
   split at h
   ·simpa using h
   ·cases h)
  refine⟨ρ.froze kQ (qd.toList.take ((a0.len+1)*4)),_,Ren.nE,kS,va,rfl, ?_⟩
  have dH:bV (ρ.froze kQ (qd.toList.take ((a0.len+1)*4))) (cs.take (i*4)++vs++(cs.take (a0.len*4)).drop (i*4)) (qd.toList.take ((a0.len+1)*4)):=by
   refine nH Ren.nE _ _ ?_
   rw[abX]
   have h1:bV ρ (cs.take (i*4)) (cur.toList.take (i*4)):=by
    have:=ee.take (i*4)
    rw[List.take_take,Nat.min_eq_left (by omega)]at this
    exact this
   exact (h1.append f_).append (Z_ T2 _)
  show R _ (.slice (.lp true (cs.take (i*4)++vs++(cs.take (a0.len*4)).drop (i*4)) 0) (a0.len+1) (a0.len+1) true) (.slice (some ⟨kQ,0,none⟩) (a0.len+1) tK)
  simp only[R]
  refine⟨some ⟨kQ,0,none⟩,tK,rfl,Nat.le_refl _,wU,fun hh=>(by cases hh),fun hh=>(by cases hh),.inr ?_,fun _=> .inr ⟨kQ,0,_,.inr (.inl ⟨rfl,rfl,rfl⟩),dH,rfl⟩,fun _ _ _ hh _=>by cases hh⟩
  have:(cs.take (i*4)++vs++(cs.take (a0.len*4)).drop (i*4))≠[]:=fun e=>by
   have:=congrArg List.length e
   rw[List.length_append,List.length_append,cd]at this
   simp at this
  cases aV:(cs.take (i*4)++vs++(cs.take (a0.len*4)).drop (i*4))with
  |nil=>exact absurd aV this
  |cons _ _=>rfl
end Go.Proofs.YtlphgijokknjhaaGreat.Ins
namespace Go.Proofs.YtlphgijokknjhaaGreat
open Go Go.Proofs.YtlphgijokknjhaaGreat.Ev
noncomputable def Bb (a0:(Int×Int×Int×ByteArray×au)) (a1:(Int×Int×Int×ByteArray×au)) (h:H):Option ((Int)×H):=
(match a0 with
|(cz,cA,cT,dZ,gp)=>
(match a1 with
|(j2,j3,n3,lU,m9)=>
(let h1:H:=H.new h [.int .i64 cz,.int .i64 cA,.int .i64 cT,.str dZ,.slice gp.a gp.len gp.cap gp.tail] 5
(let h2:H:=H.new h1 [.int .i64 j2,.int .i64 j3,.int .i64 n3,.str lU,.slice m9.a m9.len m9.cap m9.tail] 5
((ah (.leaf (.int .i64)) h2 (.aa h.next 5 2)).bind fun cx=>
((ah (.leaf (.int .i64)) h2 (.aa h1.next 5 2)).bind fun eB=>
(bif (!(decide (cx=eB)))then((ah (.leaf (.int .i64)) h2 (.aa h.next 5 2)).bind fun fb=>
((ah (.leaf (.int .i64)) h2 (.aa h1.next 5 2)).bind fun hc=>
(some ((IntKind.wrap .i64 (fb-hc)),h2))))else ((ah (.leaf (.int .i64)) h2 (.aa h1.next 5 0)).bind fun fK=>
((ah (.leaf (.int .i64)) h2 (.aa h.next 5 0)).bind fun gM=>
(some ((IntKind.wrap .i64 (fK-gM)),h2)))))))))))
noncomputable def Bb.x:=cQ (bf [] [] bC) (br [] []) Tryz.func137 [.agg [.int .i64,.int .i64,.int .i64,.str,.slice],.agg [.int .i64,.int .i64,.int .i64,.str,.slice]] (.one (.leaf (.int .i64))) (fun x h=>Bb x.1 x.2 h) fun _ _=>by kernel_rfl
noncomputable def tT (a0:(Int×Int×Int×ByteArray×(List (ByteArray)))) (a1:(Int×Int×Int×ByteArray×(List (ByteArray)))):Option (Int):=(Bb (a0.1,a0.2.1,a0.2.2.1,a0.2.2.2.1,ae false [.str] a0.2.2.2.2) (a1.1,a1.2.1,a1.2.2.1,a1.2.2.2.1,ae false [.str] a1.2.2.2.2) H.empty).bind fun p=>av false p.2 (.one (.leaf (.int .i64))) (an.un (.one (.leaf (.int .i64))) p.1)
noncomputable def tT.p:bj:=cF.low [.agg [.int .i64,.int .i64,.int .i64,.str,.row [.str]],.agg [.int .i64,.int .i64,.int .i64,.str,.row [.str]]] Bb.x (.one (.leaf (.int .i64))) (fun x=>tT x.1 x.2) fun _=>by kernel_rfl
noncomputable def ny.tb:cq:=bf [] [tT.p] bC
noncomputable def ny.fc:cq:=bf [oC.p ny.tb] [] ny.tb
noncomputable def ny (a0:au) (h:H):Option (((Int×Int×Int×ByteArray×au))×H):=
(let h1:H:=H.new h [.int .i64 0,.int .i64 0,.int .i64 0,.str (⟨#[]⟩:ByteArray),.slice .nil 0 0 false] 5
((oC ny.tb.t a0 (.func 137 []:V) h1).bind fun((aeK,aeL,aeM,aeN,GP),h3)=>
((H.aY h3 (.aa h.next 5 0) [.int .i64 aeK,.int .i64 aeL,.int .i64 aeM,.str aeN,.slice GP.a GP.len GP.cap GP.tail]).bind fun aI=>
((ah (.agg [.int .i64,.int .i64,.int .i64,.str,.slice]) aI (.aa h.next 5 0:V)).bind fun(p9,p_,aeO,aeP,aeQ)=>
(some ((p9,p_,aeO,aeP,aeQ),aI))))))
noncomputable def ny.p:bj:=eu ny.fc (br [] []) Tryz.func94 [.leaf .slice] (.one (.agg [.int .i64,.int .i64,.int .i64,.str,.slice])) (fun x h=>ny x h) fun _ _=>by kernel_rfl
noncomputable def B7 (a0:(Int×Int×Int×ByteArray×au)) (a1:Int) (h:H):Option ((Int)×H):=
(match a0 with
|(cz,cA,cT,dZ,gp)=>
(let h1:H:=H.new h [.int .i64 cz,.int .i64 cA,.int .i64 cT,.str dZ,.slice gp.a gp.len gp.cap gp.tail] 5
(((bif !(decide (a1<0))then(some ((decide ((100000:Int)<a1)),h1))else (some (true,h1)))).bind fun(cc,h3)=>
(bif cc then(some (2,h3))else ((ah (.leaf (.int .i64)) h3 (.aa h.next 5 2)).bind fun eB=>
(bif (decide (a1<eB))then(some (5,h3))else (some (0,h3))))))))
noncomputable def B7.x:=cQ (bf [] [] bC) {br [] []with dB:=[(1,[5],[.leaf .bool])]} Tryz.func42 [.agg [.int .i64,.int .i64,.int .i64,.str,.slice],.leaf (.int .i64)] (.one (.leaf (.int .i64))) (fun x h=>B7 x.1 x.2 h) fun _ _=>by kernel_rfl
noncomputable def um (a0:(Int×Int×Int×ByteArray×(List (ByteArray)))) (a1:Int):Option (Int):=(B7 (a0.1,a0.2.1,a0.2.2.1,a0.2.2.2.1,ae false [.str] a0.2.2.2.2) a1 H.empty).bind fun p=>av false p.2 (.one (.leaf (.int .i64))) (an.un (.one (.leaf (.int .i64))) p.1)
noncomputable def um.p:bj:=cF.low [.agg [.int .i64,.int .i64,.int .i64,.str,.row [.str]],.leaf (.int .i64)] B7.x (.one (.leaf (.int .i64))) (fun x=>um x.1 x.2) fun _=>by kernel_rfl
noncomputable def Bm (a0:Int) (h:H):Option ((Bool)×H):=
(((bif (decide ((0:Int)≤a0))then(some ((decide (a0≤100000)),h))else (some (false,h)))).bind fun(bb,h2)=>
(some (bb,h2)))
noncomputable def Bm.x:=cQ (bf [] [] bC) {br [] []with dB:=[(1,[2],[.leaf .bool])]} Tryz.func96 [.leaf (.int .i64)] (.one (.leaf .bool)) (fun x h=>Bm x h) fun _ _=>by kernel_rfl
noncomputable def vt (a0:Int):Option (Bool):=(Bm a0 H.empty).bind fun p=>av false p.2 (.one (.leaf .bool)) (an.un (.one (.leaf .bool)) p.1)
noncomputable def vt.p:bj:=cF.low [.leaf (.int .i64)] Bm.x (.one (.leaf .bool)) (fun x=>vt x) fun _=>by kernel_rfl
noncomputable def A3 (a0:Int) (h:H):Option ((Int)×H):=
(some ((IntKind.wrap .i64 ((IntKind.wrap .i64 ((IntKind.wrap .i64 (Int.tdiv a0 4))-(IntKind.wrap .i64 (Int.tdiv a0 100))))+(IntKind.wrap .i64 (Int.tdiv a0 400)))),h))
noncomputable def A3.x:=cQ (bf [] [] bC) (br [] []) Tryz.func167 [.leaf (.int .i64)] (.one (.leaf (.int .i64))) (fun x h=>A3 x h) fun _ _=>by kernel_rfl
noncomputable def vl (a0:Int):Option (Int):=(A3 a0 H.empty).bind fun p=>av false p.2 (.one (.leaf (.int .i64))) (an.un (.one (.leaf (.int .i64))) p.1)
noncomputable def vl.p:bj:=cF.low [.leaf (.int .i64)] A3.x (.one (.leaf (.int .i64))) (fun x=>vl x) fun _=>by kernel_rfl
noncomputable def A9 (a0:Int) (h:H):Option ((Int)×H):=
((vl (IntKind.wrap .i64 (a0-1))).bind fun bw=>
((vl 1899).bind fun bJ=>
(some ((IntKind.wrap .i64 ((IntKind.wrap .i64 ((IntKind.wrap .i64 (365*(IntKind.wrap .i64 (a0-1900))))+bw))-bJ)),h))))
noncomputable def A9.x:=cQ (bf [] [vl.p] bC) (br [] []) Tryz.func138 [.leaf (.int .i64)] (.one (.leaf (.int .i64))) (fun x h=>A9 x h) fun _ _=>by kernel_rfl
noncomputable def r4 (a0:Int):Option (Int):=(A9 a0 H.empty).bind fun p=>av false p.2 (.one (.leaf (.int .i64))) (an.un (.one (.leaf (.int .i64))) p.1)
noncomputable def r4.p:bj:=cF.low [.leaf (.int .i64)] A9.x (.one (.leaf (.int .i64))) (fun x=>r4 x) fun _=>by kernel_rfl
noncomputable def Bh (a0:Int) (h:H):Option ((Bool)×H):=
(((bif (decide ((Int.tmod a0 4)=0))then(bif !(!(decide ((Int.tmod a0 100)=0)))then(some ((decide ((Int.tmod a0 400)=0)),h))else (some (true,h)))else (some (false,h)))).bind fun(bb,h2)=>
(some (bb,h2)))
noncomputable def Bh.x:=cQ (bf [] [] bC) {br [] []with dB:=[(1,[2],[.leaf .bool])]} Tryz.func168 [.leaf (.int .i64)] (.one (.leaf .bool)) (fun x h=>Bh x h) fun _ _=>by kernel_rfl
noncomputable def x3 (a0:Int):Option (Bool):=(Bh a0 H.empty).bind fun p=>av false p.2 (.one (.leaf .bool)) (an.un (.one (.leaf .bool)) p.1)
noncomputable def x3.p:bj:=cF.low [.leaf (.int .i64)] Bh.x (.one (.leaf .bool)) (fun x=>x3 x) fun _=>by kernel_rfl
noncomputable def A_ (a0:Int) (a1:Int) (h:H):Option ((Int)×H):=
(let h1:H:=H.new h [.int .i64 0,.int .i64 0,.int .i64 0,.int .i64 0,.int .i64 0,.int .i64 0,.int .i64 0,.int .i64 0,.int .i64 0,.int .i64 0,.int .i64 0,.int .i64 0,.int .i64 0] 13
((H.aY h1 (.aa h.next 13 0) [.int .i64 0,.int .i64 31,.int .i64 28,.int .i64 31,.int .i64 30,.int .i64 31,.int .i64 30,.int .i64 31,.int .i64 31,.int .i64 30,.int .i64 31,.int .i64 30,.int .i64 31]).bind fun h2=>
(((bif (decide (a1=2))then((x3 a0).bind fun ch=>
(some (ch,h2)))else (some (false,h2)))).bind fun(iY,ba)=>
(bif iY then(some (29,ba))else (aJ (V.bm (.aa h.next 13 0:V)=true∧0≤a1∧a1<((13:Nat):Int)) ((ah (.leaf (.int .i64)) ba (.aa h.next 13 (0+(Int.toNat a1*1)))).bind fun hc=>
(some (hc,ba))))))))
noncomputable def A_.x:=cQ (bf [x3.p] [] bC) {br [] []with dB:=[(2,[12],[.leaf .bool])]} Tryz.func139 [.leaf (.int .i64),.leaf (.int .i64)] (.one (.leaf (.int .i64))) (fun x h=>A_ x.1 x.2 h) fun _ _=>by kernel_rfl
noncomputable def pw (a0:Int) (a1:Int):Option (Int):=(A_ a0 a1 H.empty).bind fun p=>av false p.2 (.one (.leaf (.int .i64))) (an.un (.one (.leaf (.int .i64))) p.1)
noncomputable def pw.p:bj:=cF.low [.leaf (.int .i64),.leaf (.int .i64)] A_.x (.one (.leaf (.int .i64))) (fun x=>pw x.1 x.2) fun _=>by kernel_rfl
noncomputable def kV.aZ (a0:Int) (h1:H):(Unit)×H→Option (ca ((Unit)×H) (bG (Unit) ((Int×Int×Int))×H)):=fun(_,aI)=>
((ah (.leaf (.int .i64)) aI (.aa h1.next 3 0)).bind fun fb=>
((r4 (IntKind.wrap .i64 (fb+1))).bind fun b4=>
(bif (decide (b4≤a0))then((ah (.leaf (.int .i64)) aI (.aa h1.next 3 0)).bind fun fK=>
((H.aY aI (.aa h1.next 3 0) [.int .i64 (IntKind.wrap .i64 (fK+1))]).bind fun h8=>
(some (.more ((),h8)))))else (some (.done (.aP (),aI))))))
noncomputable def kV.cl (h1:H):(Int)×H→Option (ca ((Int)×H) (bG (Int) ((Int×Int×Int))×H)):=fun(kJ,cD)=>
((ah (.leaf (.int .i64)) cD (.aa h1.next 3 0)).bind fun hp=>
((ah (.leaf (.int .i64)) cD (.aa h1.next 3 1)).bind fun gH=>
((pw hp gH).bind fun rM=>
(bif (decide (rM≤kJ))then((ah (.leaf (.int .i64)) cD (.aa h1.next 3 0)).bind fun gu=>
((ah (.leaf (.int .i64)) cD (.aa h1.next 3 1)).bind fun iM=>
((pw gu iM).bind fun w9=>
((ah (.leaf (.int .i64)) cD (.aa h1.next 3 1)).bind fun mG=>
((H.aY cD (.aa h1.next 3 1) [.int .i64 (IntKind.wrap .i64 (mG+1))]).bind fun eP=>
(some (.more ((IntKind.wrap .i64 (kJ-w9)),eP))))))))else (some (.done (.aP kJ,cD)))))))
noncomputable def kV (a0:Int) (h:H):Option (((Int×Int×Int))×H):=
(let h1:H:=H.new h [.int .i64 0,.int .i64 0,.int .i64 0] 3
(let h2:H:=H.new h1 [.int .i64 0,.int .i64 0,.int .i64 0] 3
((H.aY h2 (.aa h1.next 3 0) [.int .i64 (IntKind.wrap .i64 (1900+(IntKind.wrap .i64 (Int.tdiv a0 366)))),.int .i64 1,.int .i64 1]).bind fun h3=>
((iter bd (kV.aZ a0 h1) ((),h3)).bind fun(Dd,h9)=>match Dd with
|.next _=>none
|.ret qa=>(some (qa,h9))
|.aP _=>
((ah (.leaf (.int .i64)) h9 (.aa h1.next 3 0)).bind fun jn=>
((r4 jn).bind fun xc=>
((iter bd (kV.cl h1) ((IntKind.wrap .i64 (a0-xc)),h9)).bind fun(LH,hZ)=>match LH with
|.next _=>none
|.ret s3=>(some (s3,hZ))
|.aP ahA=>
((ah (.leaf (.int .i64)) hZ (.aa h1.next 3 2)).bind fun qt=>
((H.aY hZ (.aa h1.next 3 2) [.int .i64 (IntKind.wrap .i64 (qt+ahA))]).bind fun h0=>
((ah (.agg [.int .i64,.int .i64,.int .i64]) h0 (.aa h1.next 3 0)).bind fun(KE,KF,KG)=>
((H.aY h0 (.aa h.next 3 0) [.int .i64 KE,.int .i64 KF,.int .i64 KG]).bind fun kc=>
((ah (.agg [.int .i64,.int .i64,.int .i64]) kc (.aa h.next 3 0:V)).bind fun(abZ,ab0,ab1)=>
(some ((abZ,ab0,ab1),kc)))))))
|.bW _=>none)))
|.bW _=>none))))
noncomputable def kV.x:=cQ (bf [r4.p,pw.p] [] bC) (br [] [(2,[],[],[],[],some 0,none),(5,[0],[.leaf (.int .i64)],[0],[.leaf (.int .i64)],some 2,none)]) Tryz.func97 [.leaf (.int .i64)] (.one (.agg [.int .i64,.int .i64,.int .i64])) (fun x h=>kV x h) fun _ _=>by kernel_rfl
noncomputable def qW (a0:Int):Option ((Int×Int×Int)):=(kV a0 H.empty).bind fun p=>av false p.2 (.one (.agg [.int .i64,.int .i64,.int .i64])) (an.un (.one (.agg [.int .i64,.int .i64,.int .i64])) p.1)
noncomputable def qW.p:bj:=cF.low [.leaf (.int .i64)] kV.x (.one (.agg [.int .i64,.int .i64,.int .i64])) (fun x=>qW x) fun _=>by kernel_rfl
noncomputable def qV.aZ (h:H):(Int×Int)×H→Option (ca ((Int×Int)×H) (bG (Int) (Int)×H)):=fun((mN,eX),h8)=>
((ah (.leaf (.int .i64)) h8 (.aa h.next 3 1)).bind fun fT=>
(bif (decide (eX<fT))then((ah (.leaf (.int .i64)) h8 (.aa h.next 3 0)).bind fun e9=>
((pw e9 eX).bind fun og=>
(some (.more (((IntKind.wrap .i64 (mN+og)),(IntKind.wrap .i64 (eX+1))),h8)))))else (some (.done (.aP mN,h8)))))
noncomputable def qV (a0:(Int×Int×Int)) (h:H):Option ((Int)×H):=
(match a0 with
|(cz,cA,cT)=>
(let h1:H:=H.new h [.int .i64 cz,.int .i64 cA,.int .i64 cT] 3
(let h2:H:=H.de h1 0
((ah (.leaf (.int .i64)) h2 (.aa h.next 3 0)).bind fun cx=>
((r4 cx).bind fun bQ=>
((ah (.leaf (.int .i64)) h2 (.aa h.next 3 2)).bind fun fb=>
((iter bd (qV.aZ h) (((IntKind.wrap .i64 ((IntKind.wrap .i64 (bQ+fb))-1)),1),h2)).bind fun(wF,cX)=>match wF with
|.next _=>none
|.ret qc=>(some (qc,cX))
|.aP jq=>
(some (jq,cX))
|.bW _=>none)))))))
noncomputable def qV.x:=cQ (bf [r4.p,pw.p] [] bC) (br [] [(3,[3,4],[.leaf (.int .i64),.leaf (.int .i64)],[3],[.leaf (.int .i64)],some 0,none)]) Tryz.func140 [.agg [.int .i64,.int .i64,.int .i64]] (.one (.leaf (.int .i64))) (fun x h=>qV x h) fun _ _=>by kernel_rfl
noncomputable def xX (a0:(Int×Int×Int)):Option (Int):=(qV a0 H.empty).bind fun p=>av false p.2 (.one (.leaf (.int .i64))) (an.un (.one (.leaf (.int .i64))) p.1)
noncomputable def xX.p:bj:=cF.low [.agg [.int .i64,.int .i64,.int .i64]] qV.x (.one (.leaf (.int .i64))) (fun x=>xX x) fun _=>by kernel_rfl
noncomputable def Bc (a0:Int) (a1:Int) (h:H):Option ((Int)×H):=
((qW a0).bind fun(wG,wH,Dk)=>
(let h2:H:=H.new h [.int .i64 0,.int .i64 0,.int .i64 0] 3
((H.aY h2 (.aa h.next 3 0) [.int .i64 wG,.int .i64 wH,.int .i64 Dk]).bind fun h3=>
((ah (.leaf (.int .i64)) h3 (.aa h.next 3 0)).bind fun eB=>
((ah (.leaf (.int .i64)) h3 (.aa h.next 3 1)).bind fun fb=>
((H.aY h3 (.aa h.next 3 0) [.int .i64 (IntKind.wrap .i64 (Int.tdiv (IntKind.wrap .i64 ((IntKind.wrap .i64 ((IntKind.wrap .i64 ((IntKind.wrap .i64 (12*eB))+fb))-1))+a1)) 12))]).bind fun bp=>
((H.aY bp (.aa h.next 3 1) [.int .i64 (IntKind.wrap .i64 ((Int.tmod (IntKind.wrap .i64 ((IntKind.wrap .i64 ((IntKind.wrap .i64 ((IntKind.wrap .i64 (12*eB))+fb))-1))+a1)) 12)+1))]).bind fun bE=>
(let h8:H:=H.de bE 0
((ah (.leaf (.int .i64)) h8 (.aa h.next 3 2)).bind fun fT=>
((ah (.leaf (.int .i64)) h8 (.aa h.next 3 0)).bind fun e9=>
((ah (.leaf (.int .i64)) h8 (.aa h.next 3 1)).bind fun iv=>
((pw e9 iv).bind fun ni=>
((H.aY h8 (.aa h.next 3 2) [.int .i64 (sI ni fT)]).bind fun cM=>
((ah (.agg [.int .i64,.int .i64,.int .i64]) cM (.aa h.next 3 0)).bind fun(sr,ss,Ck)=>
((xX (sr,ss,Ck)).bind fun tr=>
(some (tr,cM)))))))))))))))))
noncomputable def Bc.x:=cQ (bf [qW.p,pw.p,xX.p] [] bC) (br [] []) Tryz.func98 [.leaf (.int .i64),.leaf (.int .i64)] (.one (.leaf (.int .i64))) (fun x h=>Bc x.1 x.2 h) fun _ _=>by kernel_rfl
noncomputable def x1 (a0:Int) (a1:Int):Option (Int):=(Bc a0 a1 H.empty).bind fun p=>av false p.2 (.one (.leaf (.int .i64))) (an.un (.one (.leaf (.int .i64))) p.1)
noncomputable def x1.p:bj:=cF.low [.leaf (.int .i64),.leaf (.int .i64)] Bc.x (.one (.leaf (.int .i64))) (fun x=>x1 x.1 x.2) fun _=>by kernel_rfl
noncomputable def Bd (a0:Int) (a1:Int) (h:H):Option ((Int×Int)×H):=
((((vt a0).bind fun bw=>
(bif !(!bw)then((vt a1).bind fun bJ=>
(some ((!bJ),h)))else (some (true,h))))).bind fun(cj,aI)=>
(bif cj then(some ((0,2),aI))else (bif (decide (a1<a0))then(some ((0,5),aI))else ((qW a1).bind fun(wL,GQ,GR)=>
((qW a0).bind fun(LR,aj7,aj8)=>
((x1 a0 (IntKind.wrap .i64 (12*(IntKind.wrap .i64 (wL-LR))))).bind fun fp=>
((bif (decide (a1<fp))then(some (.next (IntKind.wrap .i64 ((IntKind.wrap .i64 (wL-LR))-1)),aI))else (some (.next (IntKind.wrap .i64 (wL-LR)),aI)):Option (bG (Int) (Int×Int)×H)).bind fun(mJ,h8)=>match mJ with
|.next fj=>
(some ((fj,0),h8))
|.ret qa=>(some (qa,h8))
|.aP _=>none
|.bW _=>none)))))))
noncomputable def Bd.x:=cQ (bf [vt.p,qW.p,x1.p] [] bC) {br [(30,[6],[.leaf (.int .i64)],none,none)] []with dB:=[(1,[14],[.leaf .bool])]} Tryz.func43 [.leaf (.int .i64),.leaf (.int .i64)] (.many [.leaf (.int .i64),.leaf (.int .i64)]) (fun x h=>Bd x.1 x.2 h) fun _ _=>by kernel_rfl
noncomputable def vp (a0:Int) (a1:Int):Option (Int×Int):=(Bd a0 a1 H.empty).bind fun p=>av false p.2 (.many [.leaf (.int .i64),.leaf (.int .i64)]) (an.un (.many [.leaf (.int .i64),.leaf (.int .i64)]) p.1)
noncomputable def vp.p:bj:=cF.low [.leaf (.int .i64),.leaf (.int .i64)] Bd.x (.many [.leaf (.int .i64),.leaf (.int .i64)]) (fun x=>vp x.1 x.2) fun _=>by kernel_rfl
noncomputable def Vs.p:bj:=fB (bf [] [] bC) {br [] []with dB:=[(2,[10],[.leaf .bool]),(4,[29],[.leaf .bool]),(6,[43],[.leaf .bool])]} Tryz.func76 (.one (.leaf (.int .i64))) [.leaf (.row [.int .i64,.int .i64]),.leaf (.int .i64)] (.one (.leaf (.int .i64)))
noncomputable def r5.p:bj:=fB (bf [Vs.p] [] bC) (br [] [(6,[17],[.leaf (.int .i64)],[],[],some 1,none)]) Tryz.func30 (.many [.leaf (.int .i64),.leaf (.int .i64)]) [.leaf (.row [.int .i64,.int .i64])] (.many [.leaf (.int .i64),.leaf (.int .i64)])
noncomputable def N5.p:bj:=wx (bf [] [] bC) {br [] []with dB:=[(1,[3],[.leaf .bool])]} Tryz.func109 [.leaf (.int .i64),.leaf .ptr] (.one (.leaf .bool))
noncomputable def Bi (a0:Int) (h:H):Option ((V)×H):=
(some ((.func 109 [.lp true ([.int .i64 a0]) 0]:V),h))
noncomputable def Bi.q (a0:Int):Option (V):=(Bi a0 H.empty).bind fun p=>some p.1
noncomputable def Bi.p:bj:=ajp (bf [] [N5.p] bC) {br [] []with wR:=[1]} Tryz.func57 [.leaf (.int .i64)] (.one (.leaf .dyn)) (fun x=>Bi.q x) fun _ _=>by kernel_rfl
noncomputable def NY.p:bj:=fB (bf [r5.p] [] bC) (br [] []) Tryz.func77 (.one (.leaf .bool)) [.leaf (.row [.int .i64,.int .i64])] (.one (.leaf .bool))
noncomputable def q2.aZ (T:Table) (a1:V):(Int×Int)×H→Option (ca ((Int×Int)×H) (bG (Int) (Int)×H)):=fun((bb,cc),h3)=>
(bif (decide (bb<cc))then(eE T.dg a1 [.int .i64 (IntKind.wrap .i64 ((Int.fdiv (IntKind.wrap .u64 ((IntKind.wrap .i64 (bb+cc)))) (2^(min (Int.toNat 1) (IntKind.bits .u64))))))] h3 fun v4 ba=>
(an.pack (.one (.leaf .bool)) v4).bind fun b4=>
((bif (!b4)then(some (.next ((IntKind.wrap .i64 ((IntKind.wrap .i64 ((Int.fdiv (IntKind.wrap .u64 ((IntKind.wrap .i64 (bb+cc)))) (2^(min (Int.toNat 1) (IntKind.bits .u64))))))+1)),cc),ba))else (some (.next (bb,(IntKind.wrap .i64 ((Int.fdiv (IntKind.wrap .u64 ((IntKind.wrap .i64 (bb+cc)))) (2^(min (Int.toNat 1) (IntKind.bits .u64))))))),ba)):Option (bG (Int×Int) (Int)×H)).bind fun(xb,bE)=>match xb with
|.next (g1,fj)=>
(some (.more ((g1,fj),bE)))
|.ret qa=>(some (.done (.ret qa,bE)))
|.aP _=>none
|.bW _=>none))else (some (.done (.aP bb,h3))))
noncomputable def q2 (T:Table) (a0:Int) (a1:V) (h:H):Option ((Int)×H):=
((iter bd (q2.aZ T a1) ((0,a0),h)).bind fun(wF,cX)=>match wF with
|.next _=>none
|.ret qc=>(some (qc,cX))
|.aP jq=>
(some (jq,cX))
|.bW _=>none)
noncomputable def q2.p (T:cq):bj:=eu (bf [] [] T) (br [(21,[5,6],[.leaf (.int .i64),.leaf (.int .i64)],none,none)] [(2,[5,6],[.leaf (.int .i64),.leaf (.int .i64)],[5],[.leaf (.int .i64)],some 0,none)]) Tryz.func62 [.leaf (.int .i64),.leaf .dyn] (.one (.leaf (.int .i64))) (fun x h=>q2 T.t x.1 x.2 h) fun _ _=>by kernel_rfl
noncomputable def Ic (a0:Int) (a1:V) (a2:V) (h:H):Option ((Bool)×H):=
(let h1:H:=H.de h 0
((ah (.leaf .slice) h1 a1).bind fun b5=>
(aJ (0≤a0∧a0<((b5.len:Nat):Int)) (aJ (V.bm ((V.add b5.a (Int.toNat a0*2)):V)=true) ((ah (.leaf (.int .i64)) h1 (V.add (V.add b5.a (Int.toNat a0*2)) 0)).bind fun cx=>
((ah (.leaf (.int .i64)) h1 a2).bind fun eB=>
(some ((decide (eB≤cx)),h1))))))))
noncomputable def Ic.p:bj:=eu (bf [] [] bC) (br [] []) Tryz.func118 [.leaf (.int .i64),.leaf .ptr,.leaf .ptr] (.one (.leaf .bool)) (fun x h=>Ic x.1 x.2.1 x.2.2 h) fun _ _=>by kernel_rfl
noncomputable def EV (a0:(Int×Int)) (a1:(Int×Int)) (a2:Int) (h:H):Option ((Int)×H):=
(match a0 with
|(cz,cA)=>
(match a1 with
|(j2,j3)=>
(let h1:H:=H.new h [.int .i64 cz,.int .i64 cA] 2
(let h2:H:=H.new h1 [.int .i64 j2,.int .i64 j3] 2
((ah (.leaf (.int .i64)) h2 (.aa h1.next 2 0)).bind fun cx=>
((ah (.leaf (.int .i64)) h2 (.aa h.next 2 0)).bind fun eB=>
((ah (.leaf (.int .i64)) h2 (.aa h.next 2 1)).bind fun fb=>
((ah (.leaf (.int .i64)) h2 (.aa h1.next 2 0)).bind fun hc=>
((ah (.leaf (.int .i64)) h2 (.aa h1.next 2 1)).bind fun fK=>
((ah (.leaf (.int .i64)) h2 (.aa h.next 2 0)).bind fun gM=>
(aJ ((IntKind.wrap .i64 (2*(IntKind.wrap .i64 (cx-eB))))≠0) (some ((IntKind.wrap .i64 (Int.tdiv (IntKind.wrap .i64 ((IntKind.wrap .i64 (2*(IntKind.wrap .i64 ((IntKind.wrap .i64 (fb*(IntKind.wrap .i64 (hc-a2))))+(IntKind.wrap .i64 (fK*(IntKind.wrap .i64 (a2-gM))))))))+(IntKind.wrap .i64 (cx-eB)))) (IntKind.wrap .i64 (2*(IntKind.wrap .i64 (cx-eB)))))),h2)))))))))))))
noncomputable def EV.x:=cQ (bf [] [] bC) (br [] []) Tryz.func119 [.agg [.int .i64,.int .i64],.agg [.int .i64,.int .i64],.leaf (.int .i64)] (.one (.leaf (.int .i64))) (fun x h=>EV x.1 x.2.1 x.2.2 h) fun _ _=>by kernel_rfl
noncomputable def EU (a0:(Int×Int)) (a1:(Int×Int)) (a2:Int):Option (Int):=(EV a0 a1 a2 H.empty).bind fun p=>av false p.2 (.one (.leaf (.int .i64))) (an.un (.one (.leaf (.int .i64))) p.1)
noncomputable def EU.p:bj:=cF.low [.agg [.int .i64,.int .i64],.agg [.int .i64,.int .i64],.leaf (.int .i64)] EV.x (.one (.leaf (.int .i64))) (fun x=>EU x.1 x.2.1 x.2.2) fun _=>by kernel_rfl
noncomputable def qX.tb:cq:=bf [EU.p] [Ic.p] bC
noncomputable def qX.fc:cq:=bf [q2.p qX.tb] [] qX.tb
noncomputable def qX (a0:au) (a1:Int) (h:H):Option ((Int)×H):=
(let h1:H:=H.new h [.slice a0.a a0.len a0.cap a0.tail] 1
(let h2:H:=H.new h1 [.int .i64 a1] 1
((ah (.leaf .slice) h2 (.aa h.next 1 0)).bind fun cx=>
((q2 qX.tb.t ((cx.len:Nat):Int) (.func 118 [.aa h.next 1 0,.aa h1.next 1 0]:V) h2).bind fun(bQ,ba)=>
(let bp:H:=H.de ba 0
((ah (.leaf .slice) bp (.aa h.next 1 0)).bind fun fK=>
(aJ (0≤bQ∧bQ<((fK.len:Nat):Int)) (aJ (V.bm ((V.add fK.a (Int.toNat bQ*2)):V)=true) ((ah (.leaf (.int .i64)) bp (V.add (V.add fK.a (Int.toNat bQ*2)) 0)).bind fun gM=>
((ah (.leaf (.int .i64)) bp (.aa h1.next 1 0)).bind fun fT=>
(bif (decide (gM=fT))then((ah (.leaf .slice) bp (.aa h.next 1 0)).bind fun e9=>
(aJ (0≤bQ∧bQ<((e9.len:Nat):Int)) (aJ (V.bm ((V.add e9.a (Int.toNat bQ*2)):V)=true) ((ah (.leaf (.int .i64)) bp (V.add (V.add e9.a (Int.toNat bQ*2)) 1)).bind fun iv=>
(some (iv,bp))))))else (let cX:H:=H.de bp 0
((ah (.leaf .slice) cX (.aa h.next 1 0)).bind fun jo=>
(aJ (0≤(IntKind.wrap .i64 (bQ-1))∧(IntKind.wrap .i64 (bQ-1))<((jo.len:Nat):Int)) ((ah (.agg [.int .i64,.int .i64]) cX (V.add jo.a (Int.toNat (IntKind.wrap .i64 (bQ-1))*2))).bind fun(sr,ss)=>
((ah (.leaf .slice) cX (.aa h.next 1 0)).bind fun hb=>
(aJ (0≤bQ∧bQ<((hb.len:Nat):Int)) ((ah (.agg [.int .i64,.int .i64]) cX (V.add hb.a (Int.toNat bQ*2))).bind fun(sx,sy)=>
((ah (.leaf (.int .i64)) cX (.aa h1.next 1 0)).bind fun gH=>
((EU (sr,ss) (sx,sy) gH).bind fun rM=>
(some (rM,cX))))))))))))))))))))))
noncomputable def qX.x:=cQ qX.fc (br [] []) Tryz.func78 [.leaf .slice,.leaf (.int .i64)] (.one (.leaf (.int .i64))) (fun x h=>qX x.1 x.2 h) fun _ _=>by kernel_rfl
noncomputable def EY (a0:(List (Int×Int))) (a1:Int):Option (Int):=(qX (ae false [.int .i64,.int .i64] a0) a1 H.empty).bind fun p=>av false p.2 (.one (.leaf (.int .i64))) (an.un (.one (.leaf (.int .i64))) p.1)
noncomputable def EY.p:bj:=cF.low [.leaf (.row [.int .i64,.int .i64]),.leaf (.int .i64)] qX.x (.one (.leaf (.int .i64))) (fun x=>EY x.1 x.2) fun _=>by kernel_rfl
noncomputable def vf.p:bj:=fB (bf [NY.p,EY.p] [] bC) {br [] []with dB:=[(3,[10],[.leaf .bool])]} Tryz.func31 (.many [.leaf (.int .i64),.leaf (.int .i64)]) [.leaf (.row [.int .i64,.int .i64]),.leaf (.int .i64)] (.many [.leaf (.int .i64),.leaf (.int .i64)])
noncomputable def vf (a0:(List (Int×Int))) (a1:Int):Option (Int×Int):=sN (bf [NY.p,EY.p] [] bC).t {br [] []with dB:=[(3,[10],[.leaf .bool])]} Tryz.f31 (.many [.leaf (.int .i64),.leaf (.int .i64)]) [.leaf (.row [.int .i64,.int .i64]),.leaf (.int .i64)] (.many [.leaf (.int .i64),.leaf (.int .i64)]) (a0,a1)
noncomputable def Fg (a0:au) (a1:Int) (h:H):Option ((Int)×H):=
((bB true h [.int .i64,.int .i64] a0).bind fun cU=>
((vf cU a1).bind fun(bw,bJ)=>
(some (bw,h))))
noncomputable def Fg.x:=cQ (bf [vf.p] [] bC) (br [] []) Tryz.func61 [.leaf .slice,.leaf (.int .i64)] (.one (.leaf (.int .i64))) (fun x h=>Fg x.1 x.2 h) fun _ _=>by kernel_rfl
noncomputable def yb (a0:(List (Int×Int))) (a1:Int):Option (Int):=(Fg (ae false [.int .i64,.int .i64] a0) a1 H.empty).bind fun p=>av false p.2 (.one (.leaf (.int .i64))) (an.un (.one (.leaf (.int .i64))) p.1)
noncomputable def yb.p:bj:=cF.low [.leaf (.row [.int .i64,.int .i64]),.leaf (.int .i64)] Fg.x (.one (.leaf (.int .i64))) (fun x=>yb x.1 x.2) fun _=>by kernel_rfl
noncomputable def x4.p:bj:=fB (bf [r5.p,yb.p] [] bC) {br [] []with dB:=[(4,[15],[.leaf .bool])]} Tryz.func59 (.one (.leaf (.int .i64))) [.leaf (.row [.int .i64,.int .i64]),.agg [.int .i64,.int .i64]] (.one (.leaf (.int .i64)))
noncomputable def x4 (a0:(List (Int×Int))) (a1:(Int×Int)):Option (Int):=sN (bf [r5.p,yb.p] [] bC).t {br [] []with dB:=[(4,[15],[.leaf .bool])]} Tryz.f59 (.one (.leaf (.int .i64))) [.leaf (.row [.int .i64,.int .i64]),.agg [.int .i64,.int .i64]] (.one (.leaf (.int .i64))) (a0,a1)
noncomputable def VB.p:bj:=wx (bf [x4.p] [] bC) {br [] []with dB:=[(1,[3],[.leaf .bool])]} Tryz.func99 [.agg [.int .i64,.int .i64],.leaf .ptr] (.one (.leaf .bool))
noncomputable def Bn.tb:cq:=bf [Bi.p] [VB.p,N5.p] bC
noncomputable def Bn.fc:cq:=bf [nv.p Bn.tb,ml.p Bn.tb] [] Bn.tb
noncomputable def Oz.p:bj:=fB Bn.fc {br [] [(16,[6,81],[.leaf (.int .i64),.leaf (.int .i64)],[6],[.leaf (.int .i64)],some 1,none)]with dB:=[(6,[20],[.leaf .bool]),(10,[42],[.leaf .bool]),(12,[53],[.leaf .bool])]} Tryz.func44 (.one (.leaf (.int .i64))) [.leaf (.row [.int .i64,.int .i64]),.agg [.row [.int .i64,.int .i64],.row [.int .i64],.row [.int .i64],.int .i64,.int .i64,.int .i64]] (.one (.leaf (.int .i64)))
noncomputable def It.p:bj:=fB (bf [r5.p,Oz.p] [] bC) (br [] []) Tryz.func18 (.one (.leaf (.int .i64))) [.leaf (.row [.int .i64,.int .i64]),.agg [.row [.int .i64,.int .i64],.row [.int .i64],.row [.int .i64],.int .i64,.int .i64,.int .i64]] (.one (.leaf (.int .i64)))
noncomputable def It (a0:(List (Int×Int))) (a1:((List (Int×Int))×(List (Int))×(List (Int))×Int×Int×Int)):Option (Int):=sN (bf [r5.p,Oz.p] [] bC).t (br [] []) Tryz.f18 (.one (.leaf (.int .i64))) [.leaf (.row [.int .i64,.int .i64]),.agg [.row [.int .i64,.int .i64],.row [.int .i64],.row [.int .i64],.int .i64,.int .i64,.int .i64]] (.one (.leaf (.int .i64))) (a0,a1)
noncomputable def VC.p:bj:=fB (bf [vf.p] [] bC) (br [] [(4,[9,21],[.leaf .slice,.leaf (.int .i64)],[9],[.leaf .slice],some 0,none)]) Tryz.func141 (.one (.leaf .slice)) [.leaf (.row [.int .i64,.int .i64]),.agg [.row [.int .i64,.int .i64],.row [.int .i64],.row [.int .i64],.int .i64,.int .i64,.int .i64],.leaf (.int .i64)] (.one (.leaf (.row [.int .i64])))
noncomputable def Vh.p:bj:=fB (bf [VC.p] [] bC) (br [] []) Tryz.func101 (.many [.leaf .slice,.leaf .slice]) [.leaf (.row [.int .i64,.int .i64]),.agg [.row [.int .i64,.int .i64],.row [.int .i64],.row [.int .i64],.int .i64,.int .i64,.int .i64]] (.many [.leaf (.row [.int .i64]),.leaf (.row [.int .i64])])
noncomputable def Vi.p:bj:=fB (bf [It.p,Vh.p] [] bC) (br [] []) Tryz.func48 (.many [.leaf .slice,.leaf .slice,.leaf (.int .i64)]) [.leaf (.row [.int .i64,.int .i64]),.agg [.row [.int .i64,.int .i64],.row [.int .i64],.row [.int .i64],.int .i64,.int .i64,.int .i64]] (.many [.leaf (.row [.int .i64]),.leaf (.row [.int .i64]),.leaf (.int .i64)])
noncomputable def Ba.p:bj:=fB (bf [] [] bC) (br [(27,[9],[.leaf (.int .i64)],none,none)] [(3,[7,12],[.leaf .slice,.leaf (.int .i64)],[7],[.leaf .slice],some 0,none)]) Tryz.func103 (.one (.leaf .slice)) [.leaf (.row [.int .i64]),.leaf (.row [.int .i64]),.agg [.row [.int .i64],.int .i64,.int .i64,.int .i64]] (.one (.leaf (.row [.int .i64])))
noncomputable def Ba (a0:(List (Int))) (a1:(List (Int))) (a2:((List (Int))×Int×Int×Int)):Option ((List (Int))):=sN (bf [] [] bC).t (br [(27,[9],[.leaf (.int .i64)],none,none)] [(3,[7,12],[.leaf .slice,.leaf (.int .i64)],[7],[.leaf .slice],some 0,none)]) Tryz.f103 (.one (.leaf .slice)) [.leaf (.row [.int .i64]),.leaf (.row [.int .i64]),.agg [.row [.int .i64],.int .i64,.int .i64,.int .i64]] (.one (.leaf (.row [.int .i64]))) (a0,a1,a2)
noncomputable def qQ.aZ (T:Table) (h3:H) (pd:List (Int)):(Int)×H→Option (ca ((Int)×H) (bG (Unit) (Unit)×H)):=fun(kJ,cD)=>
(bif (decide (kJ<((pd.length:Nat):Int)))then(aJ (0≤kJ∧kJ<((pd.length:Nat):Int)) ((ah (.leaf (.int .i64)) cD (V.add ((ae true [.int .i64] pd).a) (Int.toNat kJ*1))).bind fun hp=>
((ah (.leaf .slice) cD (.aa h3.next 4 0)).bind fun gH=>
((c7 cD none 1 8 gH [.int .i64 (wm 0 hp)] 1).bind fun(l4,eO)=>
((H.aY eO (.aa h3.next 4 0) [.slice l4.a l4.len l4.cap l4.tail]).bind fun gV=>
(some (.more ((IntKind.wrap .i64 (kJ+1)),gV))))))))else (some (.done (.aP (),cD))))
noncomputable def qQ.cl (T:Table) (a0:V) (a2:V) (a3:V) (bY:au):(Int)×H→Option (ca ((Int)×H) (bG (Unit) (Unit)×H)):=fun(cc,h3)=>
(bif (decide (cc<((bY.len:Nat):Int)))then(aJ (0≤cc∧cc<((bY.len:Nat):Int)) ((ah (.agg [.slice,.int .i64,.int .i64,.int .i64]) h3 (V.add bY.a (Int.toNat cc*4))).bind fun(ij,jh,p8,jF)=>
(let ba:H:=H.new h3 [.slice .nil 0 0 false,.int .i64 0,.int .i64 0,.int .i64 0] 4
((H.aY ba (.aa h3.next 4 0) [.slice ij.a ij.len ij.cap ij.tail,.int .i64 jh,.int .i64 p8,.int .i64 jF]).bind fun bp=>
((ah (.leaf .slice) bp a2).bind fun fK=>
((ah (.leaf .slice) bp a3).bind fun gM=>
((ah (.agg [.slice,.int .i64,.int .i64,.int .i64]) bp (.aa h3.next 4 0)).bind fun(sO,sP,C6,C7)=>
((bB true bp [.int .i64] fK).bind fun Am=>
((bB true bp [.int .i64] gM).bind fun tw=>
((bB true bp [.int .i64] sO).bind fun Eb=>
((Ba Am tw (Eb,sP,C6,C7)).bind fun pd=>
((iter bd (qQ.aZ T h3 pd) (0,bp)).bind fun(sZ,eP)=>match sZ with
|.next _=>none
|.ret qb=>(some (.done (.ret qb,eP)))
|.aP _=>
((ah (.agg [.slice,.int .i64,.int .i64,.int .i64]) eP (.aa h3.next 4 0)).bind fun(zm,KH,ab2,ab3)=>
(eE T.dg a0 [.agg [.slice zm.a zm.len zm.cap zm.tail,.int .i64 KH,.int .i64 ab2,.int .i64 ab3]] eP fun v27 gU=>
(an.pack (.one (.leaf .bool)) v27).bind fun MH=>
(bif (!MH)then(some (.done (.ret (),gU)))else (some (.more ((IntKind.wrap .i64 (cc+1)),gU))))))
|.bW _=>none))))))))))))else (some (.done (.aP (),h3))))
noncomputable def qQ (T:Table) (a0:V) (a1:V) (a2:V) (a3:V) (h:H):Option ((Unit)×H):=
((ah (.leaf .slice) h a1).bind fun bY=>
((iter bd (qQ.cl T a0 a2 a3 bY) (0,h)).bind fun(Ly,hB)=>match Ly with
|.next _=>none
|.ret Dc=>(some (Dc,hB))
|.aP _=>
(some ((),hB))
|.bW _=>none))
noncomputable def qQ.i:xE:=Hj [Ba.p] [] (br [] [(4,[20],[.leaf (.int .i64)],[],[],some 2,none),(1,[11],[.leaf (.int .i64)],[],[],some 0,none)]) Tryz.func102 [.leaf .dyn,.leaf .ptr,.leaf .ptr,.leaf .ptr] (.many []) (fun Y x h=>qQ (m2 Table.nil Y) x.1 x.2.1 x.2.2.1 x.2.2.2 h) fun _ _ _=>by kernel_rfl
noncomputable def qQ.p (T:cq):bj:=eu (bf [Ba.p] [] T) (br [] [(4,[20],[.leaf (.int .i64)],[],[],some 2,none),(1,[11],[.leaf (.int .i64)],[],[],some 0,none)]) Tryz.func102 [.leaf .dyn,.leaf .ptr,.leaf .ptr,.leaf .ptr] (.many []) (fun x h=>qQ T.t x.1 x.2.1 x.2.2.1 x.2.2.2 h) fun _ _=>by kernel_rfl
noncomputable def xT.tb:cq:=bf [] [] bC
noncomputable def xT.fc:cq:=bf [] [qQ.p xT.tb] xT.tb
noncomputable def xT.p:bj:=wx xT.fc (br [(19,[],[],none,none),(28,[],[],none,none),(40,[],[],none,none)] [(3,[14],[.leaf (.int .i64)],[],[],some 0,none),(11,[35],[.leaf (.int .i64)],[],[],some 2,none)]) Tryz.func49 [.leaf .slice,.leaf .slice] (.one (.leaf .dyn))
noncomputable def N0.p:bj:=fB (bf [] [] bC) {br [] []with dB:=[(1,[2],[.leaf .bool])]} Tryz.func104 (.one (.leaf .bool)) [.leaf (.int .i64)] (.one (.leaf .bool))
noncomputable def E0.tb:cq:=bf [N0.p] [N0.p] bC
noncomputable def E0.fc:cq:=bf [ml.p E0.tb] [] E0.tb
noncomputable def Vj.p:bj:=fB E0.fc {br [] []with dB:=[(1,[3],[.leaf .bool]),(3,[12],[.leaf .bool])]} Tryz.func50 (.one (.leaf .bool)) [.agg [.row [.int .i64],.int .i64,.int .i64,.int .i64]] (.one (.leaf .bool))
noncomputable def Vt.p:bj:=fB (bf [Ba.p] [] bC) {br [] [(5,[9,25],[.leaf (.int .i64),.leaf (.int .i64)],[9],[.leaf (.int .i64)],some 0,none)]with dB:=[(1,[19],[.leaf .bool])]} Tryz.func51 (.one (.leaf .bool)) [.agg [.row [.int .i64,.int .i64],.row [.int .i64],.row [.int .i64],.int .i64,.int .i64,.int .i64],.leaf (.row [.int .i64]),.leaf (.row [.int .i64]),.agg [.row [.int .i64],.int .i64,.int .i64,.int .i64]] (.one (.leaf .bool))
noncomputable def N_.tb:cq:=MF [qQ.i] (bf [Vi.p,xT.p,Vj.p,Vt.p] [] bC)
noncomputable def Ig.p:bj:=fB N_.tb {br [] []with dB:=[(6,[33],[.leaf .bool])],CT:=[(24,[.agg [.slice,.int .i64,.int .i64,.int .i64]])]} Tryz.func20 (.many [.agg [.slice,.int .i64,.int .i64,.int .i64],.leaf (.int .i64)]) [.leaf (.row [.int .i64,.int .i64]),.agg [.row [.int .i64,.int .i64],.row [.int .i64],.row [.int .i64],.int .i64,.int .i64,.int .i64]] (.many [.agg [.row [.int .i64],.int .i64,.int .i64,.int .i64],.leaf (.int .i64)])
noncomputable def Ig (a0:(List (Int×Int))) (a1:((List (Int×Int))×(List (Int))×(List (Int))×Int×Int×Int)):Option (((List (Int))×Int×Int×Int)×Int):=sN N_.tb.t {br [] []with dB:=[(6,[33],[.leaf .bool])],CT:=[(24,[.agg [.slice,.int .i64,.int .i64,.int .i64]])]} Tryz.f20 (.many [.agg [.slice,.int .i64,.int .i64,.int .i64],.leaf (.int .i64)]) [.leaf (.row [.int .i64,.int .i64]),.agg [.row [.int .i64,.int .i64],.row [.int .i64],.row [.int .i64],.int .i64,.int .i64,.int .i64]] (.many [.agg [.row [.int .i64],.int .i64,.int .i64,.int .i64],.leaf (.int .i64)]) (a0,a1)
noncomputable def Vk.p:bj:=fB (bf [] [] bC) {br [] []with dB:=[(1,[2],[.leaf .bool])]} Tryz.func110 (.one (.leaf .bool)) [.leaf (.int .i64)] (.one (.leaf .bool))
noncomputable def E5.tb:cq:=bf [x4.p] [Vk.p] bC
noncomputable def E5.fc:cq:=bf [ml.p E5.tb] [] E5.tb
noncomputable def VD.p:bj:=fB E5.fc (br [] []) Tryz.func63 (.one (.leaf (.int .i64))) [.leaf (.row [.int .i64,.int .i64]),.agg [.int .i64,.int .i64],.leaf (.row [.int .i64])] (.one (.leaf (.int .i64)))
noncomputable def Ia (a0:Int) (a1:V) (a2:V) (h:H):Option ((Bool)×H):=
(let h1:H:=H.de h 0
(aJ (V.bm (a1:V)=true) ((ah (.leaf (.int .i64)) h1 (V.add a1 0)).bind fun b5=>
((ah (.leaf .slice) h1 a2).bind fun cx=>
((bB true h1 [.int .i64,.int .i64] cx).bind fun ee=>
((yb ee a0).bind fun bQ=>
(aJ (V.bm (a1:V)=true) ((ah (.leaf (.int .i64)) h1 (V.add a1 1)).bind fun hc=>
(some ((decide ((IntKind.wrap .i64 (b5*bQ))<(IntKind.wrap .i64 (hc*a0)))),h1))))))))))
noncomputable def Ia.p:bj:=eu (bf [yb.p] [] bC) (br [] []) Tryz.func60 [.leaf (.int .i64),.leaf .ptr,.leaf .ptr] (.one (.leaf .bool)) (fun x h=>Ia x.1 x.2.1 x.2.2 h) fun _ _=>by kernel_rfl
noncomputable def qT.tb:cq:=bf [x4.p] [Ia.p] bC
noncomputable def qT.fc:cq:=bf [q2.p qT.tb] [] qT.tb
noncomputable def qT (a0:au) (a1:(Int×Int)) (h:H):Option ((Int×Int)×H):=
(match a1 with
|(j2,j3)=>
(let h1:H:=H.new h [.slice a0.a a0.len a0.cap a0.tail] 1
(let h2:H:=H.new h1 [.int .i64 j2,.int .i64 j3] 2
((ah (.leaf .slice) h2 (.aa h.next 1 0)).bind fun cx=>
((ah (.agg [.int .i64,.int .i64]) h2 (.aa h1.next 2 0)).bind fun(ij,jh)=>
((bB true h2 [.int .i64,.int .i64] cx).bind fun mO=>
((x4 mO (ij,jh)).bind fun di=>
(bif (!(decide (di=0)))then(some ((0,1),h2))else ((ah (.agg [.int .i64,.int .i64]) h2 (.aa h1.next 2 0)).bind fun(wy,wz)=>
(bif (decide (wy=0)&&(decide (wz=0)))then(some ((0,0),h2))else ((q2 qT.tb.t 10001 (.func 60 [.aa h1.next 2 0,.aa h.next 1 0]:V) h2).bind fun(oz,h9)=>
(some (((IntKind.wrap .i64 (oz-1)),0),h9)))))))))))))
noncomputable def qT.x:=cQ qT.fc (br [] []) Tryz.func24 [.leaf .slice,.agg [.int .i64,.int .i64]] (.many [.leaf (.int .i64),.leaf (.int .i64)]) (fun x h=>qT x.1 x.2 h) fun _ _=>by kernel_rfl
noncomputable def A4 (a0:(List (Int×Int))) (a1:(Int×Int)):Option (Int×Int):=(qT (ae false [.int .i64,.int .i64] a0) a1 H.empty).bind fun p=>av false p.2 (.many [.leaf (.int .i64),.leaf (.int .i64)]) (an.un (.many [.leaf (.int .i64),.leaf (.int .i64)]) p.1)
noncomputable def A4.p:bj:=cF.low [.leaf (.row [.int .i64,.int .i64]),.agg [.int .i64,.int .i64]] qT.x (.many [.leaf (.int .i64),.leaf (.int .i64)]) (fun x=>A4 x.1 x.2) fun _=>by kernel_rfl
noncomputable def E1 (a0:(Int×Int)) (a1:Int) (h:H):Option (((Int×Int))×H):=
(match a0 with
|(cz,cA)=>
(let h1:H:=H.new h [.int .i64 cz,.int .i64 cA] 2
(let h2:H:=H.new h1 [.int .i64 0,.int .i64 0] 2
((ah (.agg [.int .i64,.int .i64]) h2 (.aa h.next 2 0)).bind fun(lf,lg)=>
((bB true h2 [.int .i64,.int .i64] ⟨.lp true ([.int .i64 lf,.int .i64 lg,.int .i64 0,.int .i64 a1]) 0,2,2,false⟩).bind fun mO=>
((q9 mO).bind fun((s4,s5),di)=>
(let bE:H:=H.new h2 [.int .i64 0,.int .i64 0] 2
((H.aY bE (.aa h2.next 2 0) [.int .i64 s4,.int .i64 s5]).bind fun h8=>
((ah (.agg [.int .i64,.int .i64]) h8 (.aa h2.next 2 0)).bind fun(sO,sP)=>
((H.aY h8 (.aa h1.next 2 0) [.int .i64 sO,.int .i64 sP]).bind fun c5=>
((ah (.agg [.int .i64,.int .i64]) c5 (.aa h1.next 2 0:V)).bind fun(mz,mA)=>
(some ((mz,mA),c5)))))))))))))
noncomputable def E1.x:=cQ (bf [q9.p] [] bC) (br [] []) Tryz.func112 [.agg [.int .i64,.int .i64],.leaf (.int .i64)] (.one (.agg [.int .i64,.int .i64])) (fun x h=>E1 x.1 x.2 h) fun _ _=>by kernel_rfl
noncomputable def EZ (a0:(Int×Int)) (a1:Int):Option ((Int×Int)):=(E1 a0 a1 H.empty).bind fun p=>av false p.2 (.one (.agg [.int .i64,.int .i64])) (an.un (.one (.agg [.int .i64,.int .i64])) p.1)
noncomputable def EZ.p:bj:=cF.low [.agg [.int .i64,.int .i64],.leaf (.int .i64)] E1.x (.one (.agg [.int .i64,.int .i64])) (fun x=>EZ x.1 x.2) fun _=>by kernel_rfl
noncomputable def Ij (a0:Int) (a1:V) (a2:V) (a3:V) (h:H):Option ((Bool)×H):=
(let h1:H:=H.de h 0
((ah (.leaf .slice) h1 a1).bind fun b5=>
((ah (.agg [.int .i64,.int .i64]) h1 a2).bind fun(lf,lg)=>
((EZ (lf,lg) a0).bind fun(s4,s5)=>
((bB true h1 [.int .i64,.int .i64] b5).bind fun qH=>
((A4 qH (s4,s5)).bind fun(di,b4)=>
((ah (.leaf (.int .i64)) h1 a3).bind fun gM=>
(some ((decide (di≤gM)),h1)))))))))
noncomputable def Ij.p:bj:=eu (bf [A4.p,EZ.p] [] bC) (br [] []) Tryz.func111 [.leaf (.int .i64),.leaf .ptr,.leaf .ptr,.leaf .ptr] (.one (.leaf .bool)) (fun x h=>Ij x.1 x.2.1 x.2.2.1 x.2.2.2 h) fun _ _=>by kernel_rfl
noncomputable def q0.tb:cq:=bf [] [Ij.p] bC
noncomputable def q0.fc:cq:=bf [q2.p q0.tb] [] q0.tb
noncomputable def q0 (a0:au) (a1:(Int×Int)) (a2:Int) (h:H):Option ((Int)×H):=
(match a1 with
|(j2,j3)=>
(let h1:H:=H.new h [.slice a0.a a0.len a0.cap a0.tail] 1
(let h2:H:=H.new h1 [.int .i64 j2,.int .i64 j3] 2
(let h3:H:=H.new h2 [.int .i64 a2] 1
((ah (.leaf (.int .i64)) h3 (.aa h1.next 2 1)).bind fun eB=>
((q2 q0.tb.t (IntKind.wrap .i64 ((IntKind.wrap .i64 (128849018880000-eB))+1)) (.func 111 [.aa h.next 1 0,.aa h1.next 2 0,.aa h2.next 1 0]:V) h3).bind fun(di,bp)=>
(some (di,bp))))))))
noncomputable def q0.x:=cQ q0.fc (br [] []) Tryz.func64 [.leaf .slice,.agg [.int .i64,.int .i64],.leaf (.int .i64)] (.one (.leaf (.int .i64))) (fun x h=>q0 x.1 x.2.1 x.2.2 h) fun _ _=>by kernel_rfl
noncomputable def Im (a0:(List (Int×Int))) (a1:(Int×Int)) (a2:Int):Option (Int):=(q0 (ae false [.int .i64,.int .i64] a0) a1 a2 H.empty).bind fun p=>av false p.2 (.one (.leaf (.int .i64))) (an.un (.one (.leaf (.int .i64))) p.1)
noncomputable def Im.p:bj:=cF.low [.leaf (.row [.int .i64,.int .i64]),.agg [.int .i64,.int .i64],.leaf (.int .i64)] q0.x (.one (.leaf (.int .i64))) (fun x=>Im x.1 x.2.1 x.2.2) fun _=>by kernel_rfl
noncomputable def VX.p:bj:=fB (bf [] [] bC) (br [] []) Tryz.func65 (.one (.leaf (.int .i64))) [.agg [.int .i64,.int .i64]] (.one (.leaf (.int .i64)))
noncomputable def Oi.p:bj:=fB (bf [VD.p,Im.p,VX.p] [] bC) (br [] []) Tryz.func25 (.many [.leaf (.int .i64),.leaf (.int .i64)]) [.leaf (.row [.int .i64,.int .i64]),.agg [.int .i64,.int .i64],.leaf (.int .i64)] (.many [.leaf (.int .i64),.leaf (.int .i64)])
noncomputable def NX.p:bj:=fB (bf [] [] bC) {br [] []with lits:=[3]} Tryz.func26 (.one (.leaf .slice)) [] (.one (.leaf (.row [.int .i64,.int .i64])))
noncomputable def nw.aZ (T:Table) (a0:au) (a1:V):(Int)×H→Option (ca ((Int)×H) (bG (Unit) (Int)×H)):=fun(bb,h2)=>
(bif (decide (bb<((a0.len:Nat):Int)))then(aJ (0≤bb∧bb<((a0.len:Nat):Int)) ((ah (.agg [.int .i64,.int .i64,.int .i64,.str,.slice]) h2 (V.add a0.a (Int.toNat bb*5))).bind fun(lf,lg,s6,s7,GS)=>
(eE T.dg a1 [.agg [.int .i64 lf,.int .i64 lg,.int .i64 s6,.str s7,.slice GS.a GS.len GS.cap GS.tail]] h2 fun v4 ba=>
(an.pack (.one (.leaf .bool)) v4).bind fun b4=>
(bif b4 then(some (.done (.ret bb,ba)))else (some (.more ((IntKind.wrap .i64 (bb+1)),ba)))))))else (some (.done (.aP (),h2))))
noncomputable def nw (T:Table) (a0:au) (a1:V) (h:H):Option ((Int)×H):=
((iter bd (nw.aZ T a0 a1) (0,h)).bind fun(xb,bE)=>match xb with
|.next _=>none
|.ret D6=>(some (D6,bE))
|.aP _=>
(some ((-1),bE))
|.bW _=>none)
noncomputable def nw.p (T:cq):bj:=eu (bf [] [] T) (br [] [(2,[8],[.leaf (.int .i64)],[],[],some 0,none)]) Tryz.func14 [.leaf .slice,.leaf .dyn] (.one (.leaf (.int .i64))) (fun x h=>nw T.t x.1 x.2 h) fun _ _=>by kernel_rfl
noncomputable def vu (a0:(Int×Int×Int×ByteArray×au)) (a1:V) (h:H):Option ((Bool)×H):=
(match a0 with
|(cz,cA,cT,dZ,gp)=>
(let h1:H:=H.new h [.int .i64 cz,.int .i64 cA,.int .i64 cT,.str dZ,.slice gp.a gp.len gp.cap gp.tail] 5
((ah (.leaf (.int .i64)) h1 (.aa h.next 5 0)).bind fun b5=>
(aJ (V.bm (a1:V)=true) ((ah (.leaf (.int .i64)) h1 (V.add a1 0)).bind fun cx=>
(some ((decide (b5=cx)),h1)))))))
noncomputable def vu.p:bj:=eu (bf [] [] bC) (br [] []) Tryz.func89 [.agg [.int .i64,.int .i64,.int .i64,.str,.slice],.leaf .ptr] (.one (.leaf .bool)) (fun x h=>vu x.1 x.2 h) fun _ _=>by kernel_rfl
noncomputable def Wq.p:bj:=fB (bf [vf.p] [] bC) (br [] []) Tryz.func46 (.one (.agg [.int .i64,.int .i64])) [.leaf (.row [.int .i64,.int .i64]),.agg [.row [.int .i64,.int .i64],.row [.int .i64],.row [.int .i64],.int .i64,.int .i64,.int .i64]] (.one (.agg [.int .i64,.int .i64]))
noncomputable def VY.p:bj:=fB (bf [] [] bC) (br [] [(3,[12],[.leaf (.int .i64)],[],[],some 0,none)]) Tryz.func58 (.one (.agg [.int .i64,.int .i64])) [.agg [.row [.int .i64,.int .i64],.row [.int .i64],.row [.int .i64],.int .i64,.int .i64,.int .i64],.leaf (.row [.int .i64])] (.one (.agg [.int .i64,.int .i64]))
noncomputable def Xd.p:bj:=fB (bf [] [] bC) (br [] [(3,[3,8],[.leaf (.int .i64),.leaf (.int .i64)],[3],[.leaf (.int .i64)],some 0,none)]) Tryz.func100 (.one (.leaf (.int .i64))) [.leaf (.row [.int .i64])] (.one (.leaf (.int .i64)))
noncomputable def U9.p:bj:=fB (bf [VY.p,Xd.p] [] bC) {br [] []with dB:=[(2,[6],[.leaf .bool])]} Tryz.func47 (.one (.leaf .bool)) [.agg [.int .i64,.int .i64],.agg [.row [.int .i64,.int .i64],.row [.int .i64],.row [.int .i64],.int .i64,.int .i64,.int .i64],.leaf (.row [.int .i64])] (.one (.leaf .bool))
noncomputable def qZ.aZ (T:Table) (h:H) (a1:V) (bY:au):(Int)×H→Option (ca ((Int)×H) (bG (Int) (Unit)×H)):=fun(eX,h8)=>
(((let h9:H:=H.de h8 0
(bif (decide ((0:Int)≤eX))then(aJ (0≤eX∧eX<(((Int.toNat ((bY.len:Nat):Int)):Nat):Int)) ((ah (.leaf (.int .i64)) h9 (.aa h.next (Int.toNat ((bY.len:Nat):Int)*1) (0+(Int.toNat eX*1)))).bind fun e9=>
(aJ (V.bm (a1:V)=true) ((ah (.leaf .slice) h9 (V.add a1 1)).bind fun iv=>
(aJ (0≤eX∧eX<((iv.len:Nat):Int)) ((ah (.leaf (.int .i64)) h9 (V.add iv.a (Int.toNat eX*1))).bind fun jn=>
(some ((decide (e9=jn)),h9))))))))else (some (false,h9))))).bind fun(pa,cO)=>
(bif pa then(aJ (0≤eX∧eX<(((Int.toNat ((bY.len:Nat):Int)):Nat):Int)) ((H.aY cO (.aa h.next (Int.toNat ((bY.len:Nat):Int)*1) (0+(Int.toNat eX*1))) [.int .i64 0]).bind fun cD=>
(some (.more ((IntKind.wrap .i64 (eX-1)),cD)))))else (some (.done (.aP eX,cO)))))
noncomputable def qZ.cl (T:Table) (h:H) (a0:V) (a1:V) (bY:au):(Unit)×H→Option (ca ((Unit)×H) (bG (Unit) (Unit)×H)):=fun(_,h3)=>
(eE T.dg a0 [.slice (.aa h.next (Int.toNat ((bY.len:Nat):Int)*1) 0) (Int.toNat ((bY.len:Nat):Int)) (Int.toNat ((bY.len:Nat):Int)) true] h3 fun v4 ba=>
(an.pack (.one (.leaf .bool)) v4).bind fun b4=>
(bif (!b4)then(some (.done (.ret (),ba)))else ((iter bd (qZ.aZ T h a1 bY) ((IntKind.wrap .i64 ((((Int.toNat ((bY.len:Nat):Int)):Nat):Int)-1)),ba)).bind fun(LG,dU)=>match LG with
|.next _=>none
|.ret De=>(some (.done (.ret De,dU)))
|.aP gI=>
(bif (decide (gI<0))then(some (.done (.ret (),dU)))else (aJ (0≤gI∧gI<(((Int.toNat ((bY.len:Nat):Int)):Nat):Int)) ((ah (.leaf (.int .i64)) dU (.aa h.next (Int.toNat ((bY.len:Nat):Int)*1) (0+(Int.toNat gI*1)))).bind fun iM=>
(aJ (0≤gI∧gI<(((Int.toNat ((bY.len:Nat):Int)):Nat):Int)) ((H.aY dU (.aa h.next (Int.toNat ((bY.len:Nat):Int)*1) (0+(Int.toNat gI*1))) [.int .i64 (IntKind.wrap .i64 (iM+1))]).bind fun et=>
(some (.more ((),et))))))))
|.bW _=>none)))
noncomputable def qZ (T:Table) (a0:V) (a1:V) (h:H):Option ((Unit)×H):=
(aJ (V.bm (a1:V)=true) ((ah (.leaf .slice) h (V.add a1 1)).bind fun bY=>
(aJ (0≤((bY.len:Nat):Int)∧((bY.len:Nat):Int)≤((bY.len:Nat):Int)∧((bY.len:Nat):Int)≤ei∧8≤2^11∧1=1) (let h2:H:=H.new h (eI [.int .i64 0] (Int.toNat ((bY.len:Nat):Int))) 1
((iter bd (qZ.cl T h a0 a1 bY) ((),h2)).bind fun(Dl,gV)=>match Dl with
|.next _=>none
|.ret Dm=>(some (Dm,gV))
|.aP _=>none
|.bW _=>none)))))
noncomputable def qZ.i:xE:=Hj [] [] {br [] [(3,[4],[.leaf (.int .i64)],[4],[.leaf (.int .i64)],some 2,none),(1,[],[],[],[],none,none)]with dB:=[(3,[29],[.leaf .bool])]} Tryz.func146 [.leaf .dyn,.leaf .ptr] (.many []) (fun Y x h=>qZ (m2 Table.nil Y) x.1 x.2 h) fun _ _ _=>by kernel_rfl
noncomputable def qZ.p (T:cq):bj:=eu (bf [] [] T) {br [] [(3,[4],[.leaf (.int .i64)],[4],[.leaf (.int .i64)],some 2,none),(1,[],[],[],[],none,none)]with dB:=[(3,[29],[.leaf .bool])]} Tryz.func146 [.leaf .dyn,.leaf .ptr] (.many []) (fun x h=>qZ T.t x.1 x.2 h) fun _ _=>by kernel_rfl
noncomputable def yc.tb:cq:=bf [] [] bC
noncomputable def yc.fc:cq:=bf [] [qZ.p yc.tb] yc.tb
noncomputable def yc.p:bj:=wx yc.fc (br [] []) Tryz.func114 [.agg [.slice,.slice,.slice,.int .i64,.int .i64,.int .i64]] (.one (.leaf .dyn))
noncomputable def IC.b (T:cq):cq:=MF [qZ.i] (bf [It.p,Wq.p,U9.p,yc.p,U8.p] [] T)
noncomputable def IC.p (T:cq):bj:=wx (IC.b T) {br [(38,[],[],none,none)] []with dB:=[(7,[38],[.leaf .bool])],CT:=[(21,[.leaf .slice])],ix:=[32,35,46]} Tryz.func69 [.leaf .slice,.agg [.slice,.slice,.slice,.int .i64,.int .i64,.int .i64],.leaf .dyn] (.many [.leaf .slice,.leaf (.int .i64),.leaf (.int .i64)])
noncomputable def ID.p:bj:=fB (bf [] [] bC) (br [] [(3,[5,10],[.leaf (.int .i64),.leaf (.int .i64)],[5],[.leaf (.int .i64)],some 0,none)]) Tryz.func71 (.one (.leaf (.int .i64))) [.agg [.row [.int .i64,.int .i64],.row [.int .i64],.row [.int .i64],.int .i64,.int .i64,.int .i64],.leaf (.row [.int .i64])] (.one (.leaf (.int .i64)))
noncomputable def ID (a0:((List (Int×Int))×(List (Int))×(List (Int))×Int×Int×Int)) (a1:(List (Int))):Option (Int):=sN (bf [] [] bC).t (br [] [(3,[5,10],[.leaf (.int .i64),.leaf (.int .i64)],[5],[.leaf (.int .i64)],some 0,none)]) Tryz.f71 (.one (.leaf (.int .i64))) [.agg [.row [.int .i64,.int .i64],.row [.int .i64],.row [.int .i64],.int .i64,.int .i64,.int .i64],.leaf (.row [.int .i64])] (.one (.leaf (.int .i64))) (a0,a1)
noncomputable def tZ (a0:au) (a1:V) (h:H):Option ((Int)×H):=
((ah (.agg [.slice,.slice,.slice,.int .i64,.int .i64,.int .i64]) h a1).bind fun(Lo,Lp,Lq,zM,aeR,aeS)=>
((bB true h [.int .i64,.int .i64] Lo).bind fun cU=>
((bB true h [.int .i64] Lp).bind fun eD=>
((bB true h [.int .i64] Lq).bind fun ee=>
((bB true h [.int .i64] a0).bind fun mO=>
((ID (cU,eD,ee,zM,aeR,aeS) mO).bind fun bJ=>
(some (bJ,h))))))))
noncomputable def tZ.r (a0:au) (a1:V) (h:H):Option (Int):=(tZ a0 a1 h).bind fun p=>some p.1
noncomputable def tZ.p:bj:=ajq (bf [ID.p] [] bC) (br [] []) Tryz.func70 [.leaf .slice,.leaf .ptr] (.one (.leaf (.int .i64))) (fun x h=>tZ x.1 x.2 h) (fun x h=>tZ.r x.1 x.2 h) (fun x h=>by simp only[tZ,tZ.r,Option.bind_assoc,Option.bind_some,kY]) fun _ _=>by kernel_rfl
noncomputable def Fh.tb:cq:=bf [] [tZ.p] bC
noncomputable def Fh.fc:cq:=bf [IC.p Fh.tb] [] Fh.tb
noncomputable def OV.p:bj:=fB Fh.fc (br [] []) Tryz.func28 (.many [.leaf .slice,.leaf (.int .i64),.leaf (.int .i64)]) [.leaf (.row [.int .i64,.int .i64]),.agg [.row [.int .i64,.int .i64],.row [.int .i64],.row [.int .i64],.int .i64,.int .i64,.int .i64]] (.many [.leaf (.row [.int .i64]),.leaf (.int .i64),.leaf (.int .i64)])
noncomputable def VZ.p:bj:=fB (bf [] [] bC) {br [] [(6,[16],[.leaf (.int .i64)],[],[],some 1,none)]with dB:=[(8,[21],[.leaf .bool]),(10,[41],[.leaf .bool])]} Tryz.func147 (.many [.leaf (.int .i64),.leaf (.int .i64)]) [.leaf (.row [.int .i64,.int .i64])] (.many [.leaf (.int .i64),.leaf (.int .i64)])
noncomputable def V0.p:bj:=fB (bf [VZ.p] [] bC) (br [] []) Tryz.func116 (.one (.leaf .bool)) [.leaf (.row [.int .i64,.int .i64])] (.one (.leaf .bool))
noncomputable def VE.p:bj:=fB (bf [] [] bC) (br [] []) Tryz.func117 (.one (.leaf (.int .i64))) [.agg [.int .i64,.int .i64],.agg [.int .i64,.int .i64]] (.one (.leaf (.int .i64)))
noncomputable def V1.p:bj:=fB (bf [V0.p,VE.p] [] bC) (br [] [(8,[4,21],[.leaf (.int .i64),.leaf (.int .i64)],[4],[.leaf (.int .i64)],some 2,none),(5,[4,13],[.leaf (.int .i64),.leaf (.int .i64)],[4],[.leaf (.int .i64)],some 0,none)]) Tryz.func72 (.many [.leaf (.int .i64),.leaf (.int .i64)]) [.leaf (.row [.int .i64,.int .i64])] (.many [.leaf (.int .i64),.leaf (.int .i64)])
noncomputable def U5.p (T:cq):bj:=wx (bf [] [] T) (br [(49,[5],[.leaf (.int .i64)],none,none)] [(9,[5,7],[.leaf (.int .i64),.leaf (.int .i64)],[5],[.leaf (.int .i64)],some 2,none),(4,[5],[.leaf (.int .i64)],[],[],some 0,none)]) Tryz.func73 [.leaf .slice,.leaf .dyn] (.one (.leaf .slice))
noncomputable def H6 (a0:au) (h:H):Option ((au)×H):=
(bif !(V.h_ (a0.a:V))then(bif (!(V.bm (a0.a:V)))then(some (⟨.nil,0,0,false⟩,h))else ((cellsOf h (.slice a0.a a0.len a0.cap a0.tail:V) 2).bind fun(oy,oh)=>
((c7 h none 2 16 (⟨.lp true ([]) 0,0,0,false⟩) oh oy).bind fun(cU,h2)=>
(some (cU,h2)))))else none)
noncomputable def H6.p:bj:=AL (bf [] [] bC) (br [] []) Tryz.func74 2 16 H6 (fun _ _=>by kernel_rfl) fun _ _=>by kernel_rfl
noncomputable def Vu.p:bj:=fB (bf [] [] bC) (br [] []) Tryz.func75 (.one (.leaf .bool)) [.agg [.int .i64,.int .i64],.agg [.int .i64,.int .i64]] (.one (.leaf .bool))
noncomputable def E6.tb:cq:=bf [r5.p,V1.p,H6.p] [Vu.p] bC
noncomputable def E6.fc:cq:=bf [U5.p E6.tb] [] E6.tb
noncomputable def OA.p:bj:=fB E6.fc (br [] []) Tryz.func29 (.many [.leaf .slice,.leaf (.int .i64)]) [.leaf (.row [.int .i64,.int .i64])] (.many [.leaf (.row [.int .i64,.int .i64]),.leaf (.int .i64)])
noncomputable def Fz (a0:au) (h:H):Option ((Bool)×H):=
((bB true h [.int .i64,.int .i64,.int .i64,.row [.int .i64,.int .i64]] a0).bind fun cU=>
((oH cU).bind fun(bw,bJ)=>
(some ((decide (bJ=0)),h))))
noncomputable def Fz.x:=cQ (bf [oH.p] [] bC) (br [] []) Tryz.func79 [.leaf .slice] (.one (.leaf .bool)) (fun x h=>Fz x h) fun _ _=>by kernel_rfl
noncomputable def Fi (a0:(List (Int×Int×Int×(List (Int×Int))))):Option (Bool):=(Fz (ae false [.int .i64,.int .i64,.int .i64,.row [.int .i64,.int .i64]] a0) H.empty).bind fun p=>av false p.2 (.one (.leaf .bool)) (an.un (.one (.leaf .bool)) p.1)
noncomputable def Fi.p:bj:=cF.low [.leaf (.row [.int .i64,.int .i64,.int .i64,.row [.int .i64,.int .i64]])] Fz.x (.one (.leaf .bool)) (fun x=>Fi x) fun _=>by kernel_rfl
noncomputable def yp.aZ (a0:au) (h1:H):(Int)×H→Option (ca ((Int)×H) (bG (Unit) ((Int×Int)×Int)×H)):=fun(jN,h9)=>
(bif (decide (jN<((a0.len:Nat):Int)))then(aJ (0≤jN∧jN<((a0.len:Nat):Int)) ((ah (.agg [.int .i64,.int .i64,.int .i64,.slice]) h9 (V.add a0.a (Int.toNat jN*4))).bind fun(nV,nW,nX,jW)=>
(let cJ:H:=H.new h9 [.int .i64 0,.int .i64 0,.int .i64 0,.slice .nil 0 0 false] 4
((H.aY cJ (.aa h9.next 4 0) [.int .i64 nV,.int .i64 nW,.int .i64 nX,.slice jW.a jW.len jW.cap jW.tail]).bind fun cX=>
(let cM:H:=H.de cX 0
((ah (.leaf (.int .i64)) cM (.aa h1.next 2 0)).bind fun oe=>
((ah (.leaf (.int .i64)) cM (.aa h9.next 4 1)).bind fun hb=>
((ah (.leaf (.int .i64)) cM (.aa h1.next 2 1)).bind fun hp=>
((ah (.leaf (.int .i64)) cM (.aa h9.next 4 2)).bind fun gH=>
((H.aY cM (.aa h1.next 2 0) [.int .i64 (IntKind.wrap .i64 (oe+hb))]).bind fun eN=>
((H.aY eN (.aa h1.next 2 1) [.int .i64 (IntKind.wrap .i64 (hp+gH))]).bind fun eO=>
(aJ (fg (.aa h9.next 4 2:V) (.aa h1.next 2 0:V)=true) (some (.more ((IntKind.wrap .i64 (jN+1)),eO)))))))))))))))else (some (.done (.aP (),h9))))
noncomputable def yp (a0:au) (h:H):Option (((Int×Int)×Int)×H):=
(let h1:H:=H.new h [.int .i64 0,.int .i64 0] 2
((bB true h1 [.int .i64,.int .i64,.int .i64,.row [.int .i64,.int .i64]] a0).bind fun cU=>
((Fi cU).bind fun bJ=>
(bif (!bJ)then((H.aY h1 (.aa h.next 2 0) [.int .i64 0,.int .i64 0]).bind fun aI=>
((ah (.agg [.int .i64,.int .i64]) aI (.aa h.next 2 0:V)).bind fun(p9,p_)=>
(some (((p9,p_),1),aI))))else (let bp:H:=H.new h1 [.int .i64 0,.int .i64 0] 2
((H.aY bp (.aa h1.next 2 0) [.int .i64 0,.int .i64 0]).bind fun bE=>
((iter bd (yp.aZ a0 h1) (0,bE)).bind fun(LK,dy)=>match LK with
|.next _=>none
|.ret LL=>(some (LL,dy))
|.aP _=>
((ah (.agg [.int .i64,.int .i64]) dy (.aa h1.next 2 0)).bind fun(nP,nQ)=>
((r_ (nP,nQ)).bind fun MG=>
(bif (!MG)then((H.aY dy (.aa h.next 2 0) [.int .i64 0,.int .i64 0]).bind fun gW=>
((ah (.agg [.int .i64,.int .i64]) gW (.aa h.next 2 0:V)).bind fun(zm,KH)=>
(some (((zm,KH),15),gW))))else ((ah (.agg [.int .i64,.int .i64]) dy (.aa h1.next 2 0)).bind fun(CA,CB)=>
((H.aY dy (.aa h.next 2 0) [.int .i64 CA,.int .i64 CB]).bind fun gU=>
((ah (.agg [.int .i64,.int .i64]) gU (.aa h.next 2 0:V)).bind fun(wb,wc)=>
(some (((wb,wc),0),gU))))))))
|.bW _=>none)))))))
noncomputable def yp.x:=cQ (bf [Fi.p,r_.p] [] bC) (br [] [(5,[14],[.leaf (.int .i64)],[],[],some 0,none)]) Tryz.func32 [.leaf .slice] (.many [.agg [.int .i64,.int .i64],.leaf (.int .i64)]) (fun x h=>yp x h) fun _ _=>by kernel_rfl
noncomputable def Fj (a0:(List (Int×Int×Int×(List (Int×Int))))):Option ((Int×Int)×Int):=(yp (ae false [.int .i64,.int .i64,.int .i64,.row [.int .i64,.int .i64]] a0) H.empty).bind fun p=>av false p.2 (.many [.agg [.int .i64,.int .i64],.leaf (.int .i64)]) (an.un (.many [.agg [.int .i64,.int .i64],.leaf (.int .i64)]) p.1)
noncomputable def Fj.p:bj:=cF.low [.leaf (.row [.int .i64,.int .i64,.int .i64,.row [.int .i64,.int .i64]])] yp.x (.many [.agg [.int .i64,.int .i64],.leaf (.int .i64)]) (fun x=>Fj x) fun _=>by kernel_rfl
noncomputable def xP.aZ (a0:au) (a1:au):(Int)×H→Option (ca ((Int)×H) (bG (Unit) (Bool)×H)):=fun(bb,h2)=>
(bif (decide (bb<((a0.len:Nat):Int)))then(let h3:H:=H.de h2 0
(aJ (0≤bb∧bb<((a0.len:Nat):Int)) ((ah (.leaf (.int .i64)) h3 (V.add a0.a (Int.toNat bb*1))).bind fun eB=>
(aJ (0≤bb∧bb<((a1.len:Nat):Int)) ((ah (.leaf (.int .i64)) h3 (V.add a1.a (Int.toNat bb*1))).bind fun fb=>
(bif (!(decide (eB=fb)))then(some (.done (.ret false,h3)))else (some (.more ((IntKind.wrap .i64 (bb+1)),h3)))))))))else (some (.done (.aP (),h2))))
noncomputable def xP (a0:au) (a1:au) (h:H):Option ((Bool)×H):=
(bif (!(decide (((a0.len:Nat):Int)=((a1.len:Nat):Int))))then(some (false,h))else ((iter bd (xP.aZ a0 a1) (0,h)).bind fun(D9,bp)=>match D9 with
|.next _=>none
|.ret M8=>(some (M8,bp))
|.aP _=>
(some (true,bp))
|.bW _=>none))
noncomputable def xP.x:=cQ (bf [] [] bC) (br [] [(4,[13],[.leaf (.int .i64)],[],[],some 0,none)]) Tryz.func33 [.leaf .slice,.leaf .slice] (.one (.leaf .bool)) (fun x h=>xP x.1 x.2 h) fun _ _=>by kernel_rfl
noncomputable def ES (a0:(List (Int))) (a1:(List (Int))):Option (Bool):=(xP (ae false [.int .i64] a0) (ae false [.int .i64] a1) H.empty).bind fun p=>av false p.2 (.one (.leaf .bool)) (an.un (.one (.leaf .bool)) p.1)
noncomputable def ES.p:bj:=cF.low [.leaf (.row [.int .i64]),.leaf (.row [.int .i64])] xP.x (.one (.leaf .bool)) (fun x=>ES x.1 x.2) fun _=>by kernel_rfl
noncomputable def i_.aZ (a0:au) (cj:Int):(Int)×H→Option (ca ((Int)×H) (bG (Unit) (Bool)×H)):=fun(g1,c5)=>
(aJ (0≤cj∧cj<((a0.len:Nat):Int)) (aJ (V.bm ((V.add a0.a (Int.toNat cj*11)):V)=true) (aJ (V.bm ((V.add (V.add a0.a (Int.toNat cj*11)) 6):V)=true) ((ah (.leaf .slice) c5 (V.add (V.add (V.add a0.a (Int.toNat cj*11)) 6) 4)).bind fun iv=>
(bif (decide (g1<((iv.len:Nat):Int)))then(aJ (0≤cj∧cj<((a0.len:Nat):Int)) (aJ (V.bm ((V.add a0.a (Int.toNat cj*11)):V)=true) (aJ (V.bm ((V.add (V.add a0.a (Int.toNat cj*11)) 6):V)=true) ((ah (.leaf .slice) c5 (V.add (V.add (V.add a0.a (Int.toNat cj*11)) 6) 4)).bind fun jn=>
(aJ (0≤g1∧g1<((jn.len:Nat):Int)) ((ah (.leaf .str) c5 (V.add jn.a (Int.toNat g1*1))).bind fun jo=>
(bif (decide ((100:Int)<((ByteArray.size jo:Nat):Int)))then(some (.done (.ret false,c5)))else (some (.more ((IntKind.wrap .i64 (g1+1)),c5))))))))))else (some (.done (.aP (),c5))))))))
noncomputable def i_.cl (a0:au):(Int)×H→Option (ca ((Int)×H) (bG (Unit) (Bool)×H)):=fun(cj,aI)=>
(bif (decide (cj<((a0.len:Nat):Int)))then(((aJ (0≤cj∧cj<((a0.len:Nat):Int)) (aJ (V.bm ((V.add a0.a (Int.toNat cj*11)):V)=true) (aJ (V.bm ((V.add (V.add a0.a (Int.toNat cj*11)) 6):V)=true) ((ah (.leaf .str) aI (V.add (V.add (V.add a0.a (Int.toNat cj*11)) 6) 3)).bind fun fb=>
(bif !(decide ((100:Int)<((ByteArray.size fb:Nat):Int)))then(aJ (0≤cj∧cj<((a0.len:Nat):Int)) (aJ (V.bm ((V.add a0.a (Int.toNat cj*11)):V)=true) (aJ (V.bm ((V.add (V.add a0.a (Int.toNat cj*11)) 6):V)=true) ((ah (.leaf .slice) aI (V.add (V.add (V.add a0.a (Int.toNat cj*11)) 6) 4)).bind fun hc=>
(some ((decide ((20:Int)<((hc.len:Nat):Int))),aI))))))else (some (true,aI)))))))).bind fun(eX,h8)=>
(bif eX then(some (.done (.ret false,h8)))else ((iter bd (i_.aZ a0 cj) (0,h8)).bind fun(Df,cO)=>match Df with
|.next _=>none
|.ret Dg=>(some (.done (.ret Dg,cO)))
|.aP _=>
(some (.more ((IntKind.wrap .i64 (cj+1)),cO)))
|.bW _=>none)))else (some (.done (.aP (),aI))))
noncomputable def i_ (a0:au) (h:H):Option ((Bool)×H):=
(((bif (decide ((20:Int)<((a0.len:Nat):Int)))then(bif !(decide (((a0.len:Nat):Int)≤64))then(some ((decide ((69:Int)<((a0.len:Nat):Int))),h))else (some (true,h)))else (some ((decide ((69:Int)<((a0.len:Nat):Int))),h)))).bind fun(bb,h2)=>
(bif bb then(some (false,h2))else ((iter bd (i_.cl a0) (0,h2)).bind fun(Dh,d_)=>match Dh with
|.next _=>none
|.ret Di=>(some (Di,d_))
|.aP _=>
(some (true,d_))
|.bW _=>none)))
noncomputable def i_.x:=cQ (bf [] [] bC) {br [] [(9,[4],[.leaf (.int .i64)],[],[],some 2,none),(4,[3],[.leaf (.int .i64)],[],[],some 0,none)]with dB:=[(1,[17],[.leaf .bool]),(6,[41],[.leaf .bool])]} Tryz.func6 [.leaf .slice] (.one (.leaf .bool)) (fun x h=>i_ x h) fun _ _=>by kernel_rfl
noncomputable def tU (a0:(List (Int×Int×Int×Int×Int×Int×Int×Int×Int×ByteArray×(List (ByteArray))))):Option (Bool):=(i_ (ae false [.int .i64,.int .i64,.int .i64,.int .i64,.int .i64,.int .i64,.int .i64,.int .i64,.int .i64,.str,.row [.str]] a0) H.empty).bind fun p=>av false p.2 (.one (.leaf .bool)) (an.un (.one (.leaf .bool)) p.1)
noncomputable def tU.p:bj:=cF.low [.leaf (.row [.int .i64,.int .i64,.int .i64,.int .i64,.int .i64,.int .i64,.int .i64,.int .i64,.int .i64,.str,.row [.str]])] i_.x (.one (.leaf .bool)) (fun x=>tU x) fun _=>by kernel_rfl
noncomputable def xM (a0:au) (a1:Int) (h:H):Option ((au)×H):=
((bif (decide (a1<0))then none else (some (.next (),h)):Option (bG (Unit) (au)×H)).bind fun(xf,h1)=>match xf with
|.next _=>
(bif !a0.tail then((bif (decide ((0:Int)<(IntKind.wrap .i64 (a1-(IntKind.wrap .i64 (((a0.cap:Nat):Int)-((a0.len:Nat):Int)))))))then(bif !a0.tail then(aJ ((0:Int)≤0∧(0:Int)≤((a0.cap:Nat):Int)∧((a0.cap:Nat):Int)≤((a0.cap:Nat):Int)) ((aJ (0≤(IntKind.wrap .i64 (a1-(IntKind.wrap .i64 (((a0.cap:Nat):Int)-((a0.len:Nat):Int)))))∧(IntKind.wrap .i64 (a1-(IntKind.wrap .i64 (((a0.cap:Nat):Int)-((a0.len:Nat):Int)))))≤ei∧48≤2^11) (some (Int.toNat (IntKind.wrap .i64 (a1-(IntKind.wrap .i64 (((a0.cap:Nat):Int)-((a0.len:Nat):Int))))),eI [.int .i64 0,.int .i64 0,.int .i64 0,.slice .nil 0 0 false] (Int.toNat (IntKind.wrap .i64 (a1-(IntKind.wrap .i64 (((a0.cap:Nat):Int)-((a0.len:Nat):Int))))))))).bind fun(n5,MJ)=>
((c7 h1 none 4 48 (⟨(V.add a0.a 0),((Int.toNat ((a0.cap:Nat):Int))-Int.toNat 0),(a0.cap-Int.toNat 0),a0.tail⟩) MJ n5).bind fun(ee,aI)=>
(aJ ((0:Int)≤0∧(0:Int)≤((a0.len:Nat):Int)∧((a0.len:Nat):Int)≤((ee.cap:Nat):Int)) (some (.next ⟨(V.add ee.a 0),((Int.toNat ((a0.len:Nat):Int))-Int.toNat 0),(ee.cap-Int.toNat 0),ee.tail⟩,aI))))))else none)else (some (.next a0,h1)):Option (bG (au) (au)×H)).bind fun(mJ,h8)=>match mJ with
|.next fj=>
(some (fj,h8))
|.ret qa=>(some (qa,h8))
|.aP _=>none
|.bW _=>none)else none)
|.ret C_=>(some (C_,h1))
|.aP _=>none
|.bW _=>none)
noncomputable def xM.p:bj:=eu (bf [] [] bC) (br [(6,[],[],none,none),(16,[0],[.leaf .slice],none,none)] []) Tryz.func35 [.leaf .slice,.leaf (.int .i64)] (.one (.leaf .slice)) (fun x h=>xM x.1 x.2 h) fun _ _=>by kernel_rfl
noncomputable def kn.aZ (a0:au):(Int×Int)×H→Option (ca ((Int×Int)×H) (bG (Int) (au)×H)):=fun((bb,cc),h3)=>
(bif (decide (cc<((a0.len:Nat):Int)))then(aJ (0≤cc∧cc<((a0.len:Nat):Int)) ((ah (.leaf .slice) h3 (V.add a0.a (Int.toNat cc*1))).bind fun eB=>
((bif (decide ((IntKind.wrap .i64 (bb+((eB.len:Nat):Int)))<0))then none else (some (.next (),h3)):Option (bG (Unit) (au)×H)).bind fun(qq,ba)=>match qq with
|.next _=>
(some (.more (((IntKind.wrap .i64 (bb+((eB.len:Nat):Int))),(IntKind.wrap .i64 (cc+1))),ba)))
|.ret tq=>(some (.done (.ret tq,ba)))
|.aP _=>none
|.bW _=>none)))else (some (.done (.aP bb,h3))))
noncomputable def kn.cl (a0:au):(au×Int)×H→Option (ca ((au×Int)×H) (bG (au) (au)×H)):=fun((kJ,jq),dU)=>
(bif (decide (jq<((a0.len:Nat):Int)))then(aJ (0≤jq∧jq<((a0.len:Nat):Int)) ((ah (.leaf .slice) dU (V.add a0.a (Int.toNat jq*1))).bind fun gH=>
((cellsOf dU (.slice gH.a gH.len gH.cap gH.tail:V) 4).bind fun(n20,Lr)=>
((c7 dU none 4 48 kJ Lr n20).bind fun(l4,eO)=>
(some (.more ((l4,(IntKind.wrap .i64 (jq+1))),eO)))))))else (some (.done (.aP kJ,dU))))
noncomputable def kn (a0:au) (h:H):Option ((au)×H):=
((iter bd (kn.aZ a0) ((0,0),h)).bind fun(mJ,h8)=>match mJ with
|.next _=>none
|.ret sY=>(some (sY,h8))
|.aP df=>
((xM ⟨.nil,0,0,false⟩ df h8).bind fun(ni,cM)=>
((iter bd (kn.cl a0) ((ni,0),cM)).bind fun(sZ,eP)=>match sZ with
|.next _=>none
|.ret qb=>(some (qb,eP))
|.aP mH=>
(some (mH,eP))
|.bW _=>none))
|.bW _=>none)
noncomputable def kn.p:bj:=eu (bf [xM.p] [] bC) (br [(20,[],[],none,none)] [(3,[3,11],[.leaf (.int .i64),.leaf (.int .i64)],[3],[.leaf (.int .i64)],some 0,none),(11,[6,27],[.leaf .slice,.leaf (.int .i64)],[6],[.leaf .slice],some 2,none)]) Tryz.func8 [.leaf .slice] (.one (.leaf .slice)) (fun x h=>kn x h) fun _ _=>by kernel_rfl
noncomputable def r0.aZ (a0:au) (a1:au):(Int)×H→Option (ca ((Int)×H) (bG (Unit) (Bool)×H)):=fun(bb,h2)=>
(bif (decide (bb<((a0.len:Nat):Int)))then(let h3:H:=H.de h2 0
(aJ (0≤bb∧bb<((a0.len:Nat):Int)) ((ah (.agg [.int .i64,.int .i64]) h3 (V.add a0.a (Int.toNat bb*2))).bind fun(ij,jh)=>
(aJ (0≤bb∧bb<((a1.len:Nat):Int)) ((ah (.agg [.int .i64,.int .i64]) h3 (V.add a1.a (Int.toNat bb*2))).bind fun(p9,p_)=>
(bif (!(decide (ij=p9)&&(decide (jh=p_))))then(some (.done (.ret false,h3)))else (some (.more ((IntKind.wrap .i64 (bb+1)),h3)))))))))else (some (.done (.aP (),h2))))
noncomputable def r0 (a0:au) (a1:au) (h:H):Option ((Bool)×H):=
(bif (!(decide (((a0.len:Nat):Int)=((a1.len:Nat):Int))))then(some (false,h))else ((iter bd (r0.aZ a0 a1) (0,h)).bind fun(D9,bp)=>match D9 with
|.next _=>none
|.ret M8=>(some (M8,bp))
|.aP _=>
(some (true,bp))
|.bW _=>none))
noncomputable def r0.x:=cQ (bf [] [] bC) (br [] [(4,[5],[.leaf (.int .i64)],[],[],some 0,none)]) Tryz.func12 [.leaf .slice,.leaf .slice] (.one (.leaf .bool)) (fun x h=>r0 x.1 x.2 h) fun _ _=>by kernel_rfl
noncomputable def ve (a0:(List (Int×Int))) (a1:(List (Int×Int))):Option (Bool):=(r0 (ae false [.int .i64,.int .i64] a0) (ae false [.int .i64,.int .i64] a1) H.empty).bind fun p=>av false p.2 (.one (.leaf .bool)) (an.un (.one (.leaf .bool)) p.1)
noncomputable def ve.p:bj:=cF.low [.leaf (.row [.int .i64,.int .i64]),.leaf (.row [.int .i64,.int .i64])] r0.x (.one (.leaf .bool)) (fun x=>ve x.1 x.2) fun _=>by kernel_rfl
noncomputable def vg (a0:(Int×Int×Int×ByteArray×au)) (a1:V) (h:H):Option ((Bool)×H):=
(match a0 with
|(cz,cA,cT,dZ,gp)=>
(let h1:H:=H.new h [.int .i64 cz,.int .i64 cA,.int .i64 cT,.str dZ,.slice gp.a gp.len gp.cap gp.tail] 5
((ah (.leaf (.int .i64)) h1 (.aa h.next 5 0)).bind fun b5=>
(aJ (V.bm (a1:V)=true) ((ah (.leaf (.int .i64)) h1 (V.add a1 0)).bind fun cx=>
(some ((decide (b5=cx)),h1)))))))
noncomputable def vg.p:bj:=eu (bf [] [] bC) (br [] []) Tryz.func15 [.agg [.int .i64,.int .i64,.int .i64,.str,.slice],.leaf .ptr] (.one (.leaf .bool)) (fun x h=>vg x.1 x.2 h) fun _ _=>by kernel_rfl

noncomputable abbrev jc:=Ins.jc
noncomputable abbrev jc.e:Entry:=Ins.jc.e
theorem jc.ok:eR Tryz.prog 175 jc.e:=Ins.jc.ok
noncomputable def jc.p:bj:=⟨175,jc.e,jc.ok⟩
noncomputable def oI.p:bj:=⟨125,oI.e,oI.ok⟩
noncomputable def zi.p:bj:=⟨154,zi.e,zi.ok⟩
noncomputable def nz.p:bj:=⟨39,nz.e,nz.ok⟩
noncomputable def zj.p:bj:=⟨145,zj.e,zj.ok⟩
noncomputable def zk.p:bj:=⟨92,zk.e,zk.ok⟩
noncomputable def mn.tb:cq:=bf [xL.p,jc.p] [tN.p] bC
noncomputable def mn.fc:cq:=bf [oB.p mn.tb] [] mn.tb
noncomputable def mn (a0:V) (a1:(Int×Int×Int×au)) (h:H):Option ((Unit)×H):=
(match a1 with
|(j2,j3,n3,lU)=>
(let h1:H:=H.new h [.int .i64 j2,.int .i64 j3,.int .i64 n3,.slice lU.a lU.len lU.cap lU.tail] 4
(let h2:H:=H.de h1 0
(aJ (V.cS (a0:V)=true) (aJ (V.bm (a0:V)=true) (aJ (V.bm ((V.add a0 0):V)=true) ((ah (.leaf .slice) h2 (V.add (V.add a0 0) 1)).bind fun cx=>
((ah (.leaf (.int .i64)) h2 (.aa h.next 4 0)).bind fun eB=>
((oB mn.tb.t cx eB (.func 173 []:V) h2).bind fun((di,b4),bE)=>
((((ah (.leaf (.int .i64)) bE (.aa h.next 4 2)).bind fun gM=>
(bif (decide (gM=0))then(some (b4,bE))else (some (false,bE))))).bind fun(g1,c5)=>
((bif g1 then(aJ (V.cS (a0:V)=true) (aJ (V.bm (a0:V)=true) (aJ (V.bm ((V.add a0 0):V)=true) ((ah (.leaf .slice) c5 (V.add (V.add a0 0) 1)).bind fun iv=>
((xL iv di (IntKind.wrap .i64 (di+1)) c5).bind fun(ni,cM)=>
(aJ (V.cS (a0:V)=true) (aJ (V.bm (a0:V)=true) (aJ (V.bm ((V.add a0 0):V)=true) ((H.aY cM (V.add (V.add a0 0) 1) [.slice ni.a ni.len ni.cap ni.tail]).bind fun cO=>
(some (.next (),cO)))))))))))else ((bif b4 then(let cD:H:=H.de c5 0
(aJ (V.cS (a0:V)=true) (aJ (V.bm (a0:V)=true) (aJ (V.bm ((V.add a0 0):V)=true) ((ah (.leaf .slice) cD (V.add (V.add a0 0) 1)).bind fun hp=>
((ah (.agg [.int .i64,.int .i64,.int .i64,.slice]) cD (.aa h.next 4 0)).bind fun(su,sw,vY,nR)=>
(aJ (0≤di∧di<((hp.len:Nat):Int)) ((H.aY cD (V.add hp.a (Int.toNat di*4)) [.int .i64 su,.int .i64 sw,.int .i64 vY,.slice nR.a nR.len nR.cap nR.tail]).bind fun eN=>
(some (.next (),eN))))))))))else ((ah (.leaf (.int .i64)) c5 (.aa h.next 4 2)).bind fun gu=>
((bif (decide ((0:Int)<gu))then(let dy:H:=H.de c5 0
(aJ (V.cS (a0:V)=true) (aJ (V.bm (a0:V)=true) (aJ (V.bm ((V.add a0 0):V)=true) ((ah (.leaf .slice) dy (V.add (V.add a0 0) 1)).bind fun xg=>
((ah (.agg [.int .i64,.int .i64,.int .i64,.slice]) dy (.aa h.next 4 0)).bind fun(v8,v_,Cq,uD)=>
((jc xg di ⟨.lp true ([.int .i64 v8,.int .i64 v_,.int .i64 Cq,.slice uD.a uD.len uD.cap uD.tail]) 0,1,1,false⟩ dy).bind fun(Au,hZ)=>
(aJ (V.cS (a0:V)=true) (aJ (V.bm (a0:V)=true) (aJ (V.bm ((V.add a0 0):V)=true) ((H.aY hZ (V.add (V.add a0 0) 1) [.slice Au.a Au.len Au.cap Au.tail]).bind fun gW=>
(some (.next (),gW)))))))))))))else (some (.next (),c5)):Option (bG (Unit) (Unit)×H)).bind fun(LD,jK)=>match LD with
|.next _=>
(some (.next (),jK))
|.ret LF=>(some (.ret LF,jK))
|.aP _=>none
|.bW _=>none)):Option (bG (Unit) (Unit)×H)).bind fun(LS,h0)=>match LS with
|.next _=>
(some (.next (),h0))
|.ret aeT=>(some (.ret aeT,h0))
|.aP _=>none
|.bW _=>none):Option (bG (Unit) (Unit)×H)).bind fun(aeU,c2)=>match aeU with
|.next _=>
(some ((),c2))
|.ret aeV=>(some (aeV,c2))
|.aP _=>none
|.bW _=>none)))))))))))
noncomputable def mn.p:bj:=eu mn.fc {br [(17,[],[],none,none),(38,[],[],none,none),(48,[],[],none,none)] []with dB:=[(2,[17],[.leaf .bool])]} Tryz.func151 [.leaf .ptr,.agg [.int .i64,.int .i64,.int .i64,.slice]] (.many []) (fun x h=>mn x.1 x.2 h) fun _ _=>by kernel_rfl
noncomputable def qR (a0:V) (a1:Int) (a2:(Int×Int×Int×au)) (h:H):Option ((Unit)×H):=
(match a2 with
|(aeW,aeX,aeY,GU)=>
(let h1:H:=H.new h [.int .i64 aeW,.int .i64 aeX,.int .i64 aeY,.slice GU.a GU.len GU.cap GU.tail] 4
(aJ (V.cS (a0:V)=true) (aJ (V.bm (a0:V)=true) (aJ (V.bm ((V.add a0 0):V)=true) ((ah (.leaf .slice) h1 (V.add (V.add a0 0) 1)).bind fun b5=>
((bB true h1 [.int .i64,.int .i64,.int .i64,.row [.int .i64,.int .i64]] b5).bind fun ee=>
((lH ee a1).bind fun((sV,sW,wM,m_),bQ)=>
(let bp:H:=H.new h1 [.int .i64 0,.int .i64 0,.int .i64 0,.slice .nil 0 0 false] 4
((H.aY bp (.aa h1.next 4 0) [.int .i64 sV,.int .i64 sW,.int .i64 wM,.slice ((ae true [.int .i64,.int .i64] m_).a) m_.length m_.length true]).bind fun bE=>
((bif bQ then((H.aY bE (.aa h.next 4 0) [.int .i64 1]).bind fun h8=>
((H.aY h8 (.aa h1.next 4 0) [.int .i64 2]).bind fun h9=>
((ah (.agg [.int .i64,.int .i64,.int .i64,.slice]) h9 (.aa h.next 4 0)).bind fun(nV,nW,nX,jW)=>
((ah (.agg [.int .i64,.int .i64,.int .i64,.slice]) h9 (.aa h1.next 4 0)).bind fun(mz,mA,nY,lP)=>
((bB true h9 [.int .i64,.int .i64,.int .i64,.row [.int .i64,.int .i64]] ⟨.lp true ([.int .i64 nV,.int .i64 nW,.int .i64 nX,.slice jW.a jW.len jW.cap jW.tail,.int .i64 mz,.int .i64 mA,.int .i64 nY,.slice lP.a lP.len lP.cap lP.tail]) 0,2,2,false⟩).bind fun M9=>
((yj M9 a1).bind fun((CC,CD,CE,sC),xc)=>
(let cD:H:=H.new h9 [.int .i64 0,.int .i64 0,.int .i64 0,.slice .nil 0 0 false] 4
((H.aY cD (.aa h9.next 4 0) [.int .i64 CC,.int .i64 CD,.int .i64 CE,.slice ((ae true [.int .i64,.int .i64] sC).a) sC.length sC.length true]).bind fun dU=>
((mm a0 xc dU).bind fun(tz,eN)=>
(bif tz then(some (.ret (),eN))else ((ah (.agg [.int .i64,.int .i64,.int .i64,.slice]) eN (.aa h9.next 4 0)).bind fun(CF,CG,CH,uF)=>
((H.aY eN (.aa h.next 4 0) [.int .i64 CF,.int .i64 CG,.int .i64 CH,.slice uF.a uF.len uF.cap uF.tail]).bind fun dy=>
(some (.next (),dy))))))))))))))else (some (.next (),bE)):Option (bG (Unit) (Unit)×H)).bind fun(sX,et)=>match sX with
|.next _=>
((H.aY et (.aa h.next 4 0) [.int .i64 a1]).bind fun eP=>
((ah (.agg [.int .i64,.int .i64,.int .i64,.slice]) eP (.aa h.next 4 0)).bind fun(Cr,Cs,ab4,ab5)=>
((mn a0 (Cr,Cs,ab4,ab5) eP).bind fun(_,gW)=>
(some ((),gW)))))
|.ret s3=>(some (s3,et))
|.aP _=>none
|.bW _=>none)))))))))))
noncomputable def qR.p:bj:=eu (bf [lH.p,mm.p,yj.p,mn.p] [] bC) (br [(20,[],[],none,none)] []) Tryz.func124 [.leaf .ptr,.leaf (.int .i64),.agg [.int .i64,.int .i64,.int .i64,.slice]] (.many []) (fun x h=>qR x.1 x.2.1 x.2.2 h) fun _ _=>by kernel_rfl
noncomputable def AU (a0:Option Nat) (h:H):Option ((V)×H):=
(let h1:H:=H.new h [.map a0] 1
(some ((.func 154 [.aa h.next 1 0]:V),h1)))
noncomputable def AU.p:bj:=eu (bf [] [zi.p] bC) (br [] []) Tryz.func126 [.leaf .map] (.one (.leaf .dyn)) (fun x h=>AU x h) fun _ _=>by kernel_rfl
noncomputable def jP.aZ (h1:H) (cx:au):(Int)×H→Option (ca ((Int)×H) (bG (Unit) (Unit)×H)):=fun(iY,ba)=>
(bif (decide (iY<((cx.len:Nat):Int)))then(aJ (0≤iY∧iY<((cx.len:Nat):Int)) ((ah (.agg [.int .i64,.int .i64,.int .i64,.str,.slice]) ba (V.add cx.a (Int.toNat iY*5))).bind fun(Lu,Lv,Lw,Lx,GV)=>
(let bE:H:=H.new ba [.int .i64 0,.int .i64 0,.int .i64 0,.str (⟨#[]⟩:ByteArray),.slice .nil 0 0 false] 5
((H.aY bE (.aa ba.next 5 0) [.int .i64 Lu,.int .i64 Lv,.int .i64 Lw,.str Lx,.slice GV.a GV.len GV.cap GV.tail]).bind fun h8=>
((ah (.leaf (.int .i64)) h8 (.aa ba.next 5 0)).bind fun fT=>
((ah (.agg [.int .i64,.int .i64,.int .i64,.str,.slice]) h8 (.aa ba.next 5 0)).bind fun(nV,nW,nX,jW,uE)=>
((p3 h8 h1.next (.leaf (.int .i64)) (.agg [.int .i64,.int .i64,.int .i64,.str,.slice]) fT (nV,nW,nX,jW,uE)).bind fun cJ=>
(some (.more ((IntKind.wrap .i64 (iY+1)),cJ))))))))))else (some (.done (.aP (),ba))))
noncomputable def jP.cl (a0:V) (h1:H) (Ef:au):(Int)×H→Option (ca ((Int)×H) (bG (Unit) (Unit)×H)):=fun(Eg,l6)=>
(bif (decide (Eg<((Ef.len:Nat):Int)))then(aJ (0≤Eg∧Eg<((Ef.len:Nat):Int)) ((ah (.leaf (.int .i64)) l6 (V.add Ef.a (Int.toNat Eg*1))).bind fun D_=>
(let pb:H:=H.de l6 0
(aJ (V.cS (a0:V)=true) (aJ (V.bm (a0:V)=true) (aJ (V.bm ((V.add a0 0):V)=true) ((ah (.leaf .slice) pb (V.add (V.add a0 0) 0)).bind fun ahB=>
((my pb h1.next (.leaf (.int .i64)) (.agg [.int .i64,.int .i64,.int .i64,.str,.slice]) (0,0,0,(⟨#[]⟩:ByteArray),⟨.nil,0,0,false⟩) D_).bind fun((ab6,ab7,ab8,ab9,Gi),akA)=>
((c7 pb none 5 64 ahB [.int .i64 ab6,.int .i64 ab7,.int .i64 ab8,.str ab9,.slice Gi.a Gi.len Gi.cap Gi.tail] 1).bind fun(Hs,Eh)=>
(aJ (V.cS (a0:V)=true) (aJ (V.bm (a0:V)=true) (aJ (V.bm ((V.add a0 0):V)=true) ((H.aY Eh (V.add (V.add a0 0) 0) [.slice Hs.a Hs.len Hs.cap Hs.tail]).bind fun ahC=>
(some (.more ((IntKind.wrap .i64 (Eg+1)),ahC))))))))))))))))else (some (.done (.aP (),l6))))
noncomputable def jP (a0:V) (a1:(Int×Int×Int×Int×Int×Int×Int×Int×Int×ByteArray×au)) (h:H):Option ((Unit)×H):=
(match a1 with
|(j2,j3,n3,lU,m9,s8,s9,s_,ta,td,ia)=>
(let h1:H:=H.new h [.int .i64 j2,.int .i64 j3,.int .i64 n3,.int .i64 lU,.int .i64 m9,.int .i64 s8,.int .i64 s9,.int .i64 s_,.int .i64 ta,.str td,.slice ia.a ia.len ia.cap ia.tail] 11
(let h2:H:=H.hP h1 (.cZ [])
(aJ (V.cS (a0:V)=true) (aJ (V.bm (a0:V)=true) (aJ (V.bm ((V.add a0 0):V)=true) ((ah (.leaf .slice) h2 (V.add (V.add a0 0) 0)).bind fun cx=>
((iter bd (jP.aZ h1 cx) (0,h2)).bind fun(wF,cX)=>match wF with
|.next _=>none
|.ret qc=>(some (qc,cX))
|.aP _=>
((ah (.leaf (.int .i64)) cX (.aa h.next 11 6)).bind fun hb=>
((my cX h1.next (.leaf (.int .i64)) (.agg [.int .i64,.int .i64,.int .i64,.str,.slice]) (0,0,0,(⟨#[]⟩:ByteArray),⟨.nil,0,0,false⟩) hb).bind fun((sx,sy,CI,CJ,zn),ahD)=>
(let eN:H:=H.new cX [.int .i64 0,.int .i64 0,.int .i64 0,.str (⟨#[]⟩:ByteArray),.slice .nil 0 0 false] 5
((H.aY eN (.aa cX.next 5 0) [.int .i64 sx,.int .i64 sy,.int .i64 CI,.str CJ,.slice zn.a zn.len zn.cap zn.tail]).bind fun eO=>
(bif ahD then((mm a0 6 eO).bind fun(TF,et)=>
(some ((),et)))else ((ah (.leaf (.int .i64)) eO (.aa h.next 11 3)).bind fun mG=>
((ah (.leaf (.int .i64)) eO (.aa h.next 11 4)).bind fun oi=>
((ah (.leaf (.int .i64)) eO (.aa h.next 11 5)).bind fun lq=>
((ah (.leaf (.int .i64)) eO (.aa h.next 11 6)).bind fun mI=>
((ah (.leaf (.int .i64)) eO (.aa h.next 11 4)).bind fun D7=>
((qR a0 mG (0,oi,lq,⟨.lp true ([.int .i64 mI,.int .i64 D7]) 0,1,1,false⟩) eO).bind fun(_,gT)=>
((ah (.agg [.int .i64,.int .i64,.int .i64,.str,.slice]) gT (.aa h.next 11 6)).bind fun(zo,zp,zq,KI,Gj)=>
(let h0:H:=H.new gT [.int .i64 0,.int .i64 0,.int .i64 0,.str (⟨#[]⟩:ByteArray),.slice .nil 0 0 false] 5
((H.aY h0 (.aa gT.next 5 0) [.int .i64 zo,.int .i64 zp,.int .i64 zq,.str KI,.slice Gj.a Gj.len Gj.cap Gj.tail]).bind fun hB=>
((ah (.leaf .slice) hB (.aa gT.next 5 4)).bind fun lr=>
((bB true hB [.str] lr).bind fun Ei=>
((k4 16 Ei).bind fun M_=>
((H.aY hB (.aa gT.next 5 4) [.slice ((ae true [.str] M_).a) M_.length M_.length true]).bind fun Na=>
((ah (.leaf (.int .i64)) Na (.aa gT.next 5 0)).bind fun MK=>
((ah (.agg [.int .i64,.int .i64,.int .i64,.str,.slice]) Na (.aa gT.next 5 0)).bind fun(zr,zs,zt,KJ,aca)=>
((p3 Na h1.next (.leaf (.int .i64)) (.agg [.int .i64,.int .i64,.int .i64,.str,.slice]) MK (zr,zs,zt,KJ,aca)).bind fun qu=>
((((H.cZ qu h1.next (.leaf (.int .i64)) (.agg [.int .i64,.int .i64,.int .i64,.str,.slice])).bind fun aeZ=>
(bif (decide ((64:Int)<((List.length aeZ:Nat):Int)))then((mm a0 8 qu).bind fun(ahE,kK)=>
(some (ahE,kK)))else (some (false,qu))))).bind fun(tx,l5)=>
(bif tx then(some ((),l5))else (aJ (V.cS (a0:V)=true) (aJ (V.bm (a0:V)=true) (aJ (V.bm ((V.add a0 0):V)=true) ((H.aY l5 (V.add (V.add a0 0) 0) [.slice .nil 0 0 false]).bind fun uZ=>
((AU (some h1.next) uZ).bind fun(ahF,tv)=>
((oI ahF tv).bind fun(Ef,ahG)=>
((iter bd (jP.cl a0 h1 Ef) (0,ahG)).bind fun(ae0,T3)=>match ae0 with
|.next _=>none
|.ret ae1=>(some (ae1,T3))
|.aP _=>
(some ((),T3))
|.bW _=>none))))))))))))))))))))))))))))))
|.bW _=>none))))))))
noncomputable def jP.p:bj:=eu (bf [mm.p,H9.p,qR.p,oI.p,AU.p] [] bC) {br [] [(3,[19],[.leaf (.int .i64)],[],[],some 0,none),(17,[81],[.leaf (.int .i64)],[],[],some 2,none)]with dB:=[(14,[72],[.leaf .bool])],wS:=[67]} Tryz.func82 [.leaf .ptr,.agg [.int .i64,.int .i64,.int .i64,.int .i64,.int .i64,.int .i64,.int .i64,.int .i64,.int .i64,.str,.slice]] (.many []) (fun x h=>jP x.1 x.2 h) fun _ _=>by kernel_rfl
noncomputable def vm (a0:V) (a1:(Int×Int×Int×Int×Int×Int×Int×Int×Int×ByteArray×au)) (h:H):Option ((Unit)×H):=
(match a1 with
|(j2,j3,n3,lU,m9,s8,s9,s_,ta,td,ia)=>
(let h1:H:=H.new h [.int .i64 j2,.int .i64 j3,.int .i64 n3,.int .i64 lU,.int .i64 m9,.int .i64 s8,.int .i64 s9,.int .i64 s_,.int .i64 ta,.str td,.slice ia.a ia.len ia.cap ia.tail] 11
((ah (.leaf (.int .i64)) h1 (.aa h.next 11 3)).bind fun b5=>
((ah (.leaf (.int .i64)) h1 (.aa h.next 11 5)).bind fun cx=>
((qR a0 b5 (0,0,cx,⟨.nil,0,0,false⟩) h1).bind fun(_,aI)=>
(some ((),aI)))))))
noncomputable def vm.p:bj:=eu (bf [qR.p] [] bC) (br [] []) Tryz.func83 [.leaf .ptr,.agg [.int .i64,.int .i64,.int .i64,.int .i64,.int .i64,.int .i64,.int .i64,.int .i64,.int .i64,.str,.slice]] (.many []) (fun x h=>vm x.1 x.2 h) fun _ _=>by kernel_rfl
noncomputable def tQ (a0:V) (a1:Int) (a2:Int) (a3:Int) (h:H):Option (((Int×Int×Int×au))×H):=
(let h1:H:=H.new h [.int .i64 0,.int .i64 0,.int .i64 0,.slice .nil 0 0 false] 4
(aJ (V.cS (a0:V)=true) (aJ (V.bm (a0:V)=true) (aJ (V.bm ((V.add a0 0):V)=true) ((ah (.leaf .slice) h1 (V.add (V.add a0 0) 1)).bind fun b5=>
((bB true h1 [.int .i64,.int .i64,.int .i64,.row [.int .i64,.int .i64]] b5).bind fun ee=>
((lH ee a1).bind fun((sV,sW,wM,m_),bQ)=>
(let bp:H:=H.new h1 [.int .i64 0,.int .i64 0,.int .i64 0,.slice .nil 0 0 false] 4
((H.aY bp (.aa h1.next 4 0) [.int .i64 sV,.int .i64 sW,.int .i64 wM,.slice ((ae true [.int .i64,.int .i64] m_).a) m_.length m_.length true]).bind fun bE=>
(bif (!bQ)then((mm a0 7 bE).bind fun(oz,h9)=>
((H.aY h9 (.aa h.next 4 0) [.int .i64 0,.int .i64 0,.int .i64 0,.slice .nil 0 0 false]).bind fun c5=>
((ah (.agg [.int .i64,.int .i64,.int .i64,.slice]) c5 (.aa h.next 4 0:V)).bind fun(mz,mA,nY,lP)=>
(some ((mz,mA,nY,lP),c5)))))else ((ah (.agg [.int .i64,.int .i64,.int .i64,.slice]) bE (.aa h1.next 4 0)).bind fun(k9,k_,pU,la)=>
((bB true bE [.int .i64,.int .i64] la).bind fun D2=>
((ya (k9,k_,pU,D2) a2 a3).bind fun((zu,zv,zw,CK),(acb,acd,ace,KK),tr)=>
(let d_:H:=H.new bE [.int .i64 0,.int .i64 0,.int .i64 0,.slice .nil 0 0 false] 4
(let eN:H:=H.new d_ [.int .i64 0,.int .i64 0,.int .i64 0,.slice .nil 0 0 false] 4
((H.aY eN (.aa bE.next 4 0) [.int .i64 zu,.int .i64 zv,.int .i64 zw,.slice ((ae true [.int .i64,.int .i64] CK).a) CK.length CK.length true]).bind fun eO=>
((H.aY eO (.aa d_.next 4 0) [.int .i64 acb,.int .i64 acd,.int .i64 ace,.slice ((ae true [.int .i64,.int .i64] KK).a) KK.length KK.length true]).bind fun dy=>
((mm a0 tr dy).bind fun(w9,gV)=>
((bif (!w9)then((ah (.agg [.int .i64,.int .i64,.int .i64,.slice]) gV (.aa d_.next 4 0)).bind fun(nP,nQ,vW,vX)=>
((mn a0 (nP,nQ,vW,vX) gV).bind fun(_,hZ)=>
(some (.next (),hZ))))else (some (.next (),gV)):Option (bG (Unit) ((Int×Int×Int×au))×H)).bind fun(LU,gW)=>match LU with
|.next _=>
((ah (.agg [.int .i64,.int .i64,.int .i64,.slice]) gW (.aa bE.next 4 0)).bind fun(CA,CB,KL,zx)=>
((H.aY gW (.aa h.next 4 0) [.int .i64 CA,.int .i64 CB,.int .i64 KL,.slice zx.a zx.len zx.cap zx.tail]).bind fun gU=>
((ah (.agg [.int .i64,.int .i64,.int .i64,.slice]) gU (.aa h.next 4 0:V)).bind fun(wb,wc,CL,CM)=>
(some ((wb,wc,CL,CM),gU)))))
|.ret ae2=>(some (ae2,gW))
|.aP _=>none
|.bW _=>none)))))))))))))))))))
noncomputable def tQ.p:bj:=eu (bf [lH.p,mm.p,mn.p,ya.p] [] bC) (br [(40,[],[],none,none)] []) Tryz.func127 [.leaf .ptr,.leaf (.int .i64),.leaf (.int .i64),.leaf (.int .i64)] (.one (.agg [.int .i64,.int .i64,.int .i64,.slice])) (fun x h=>tQ x.1 x.2.1 x.2.2.1 x.2.2.2 h) fun _ _=>by kernel_rfl
noncomputable def vn (a0:V) (a1:(Int×Int×Int×Int×Int×Int×Int×Int×Int×ByteArray×au)) (h:H):Option ((Unit)×H):=
(match a1 with
|(j2,j3,n3,lU,m9,s8,s9,s_,ta,td,ia)=>
(let h1:H:=H.new h [.int .i64 j2,.int .i64 j3,.int .i64 n3,.int .i64 lU,.int .i64 m9,.int .i64 s8,.int .i64 s9,.int .i64 s_,.int .i64 ta,.str td,.slice ia.a ia.len ia.cap ia.tail] 11
((ah (.leaf (.int .i64)) h1 (.aa h.next 11 2)).bind fun b5=>
((ah (.leaf (.int .i64)) h1 (.aa h.next 11 5)).bind fun cx=>
((ah (.leaf (.int .i64)) h1 (.aa h.next 11 3)).bind fun eB=>
((tQ a0 b5 cx eB h1).bind fun((wL,GQ,GR,te),bp)=>
(let bE:H:=H.new bp [.int .i64 0,.int .i64 0,.int .i64 0,.slice .nil 0 0 false] 4
((H.aY bE (.aa bp.next 4 0) [.int .i64 wL,.int .i64 GQ,.int .i64 GR,.slice te.a te.len te.cap te.tail]).bind fun h8=>
(aJ (V.cS (a0:V)=true) (aJ (V.bm (a0:V)=true) ((ah (.leaf (.int .i64)) h8 (V.add a0 4)).bind fun fT=>
((bif (decide (fT=0))then((ah (.leaf (.int .i64)) h8 (.aa h.next 11 3)).bind fun e9=>
((ah (.agg [.int .i64,.int .i64,.int .i64,.slice]) h8 (.aa bp.next 4 0)).bind fun(mz,mA,nY,lP)=>
((qR a0 e9 (mz,mA,nY,lP) h8).bind fun(_,cX)=>
(some (.next (),cX)))))else (some (.next (),h8)):Option (bG (Unit) (Unit)×H)).bind fun(C8,cM)=>match C8 with
|.next _=>
(some ((),cM))
|.ret wC=>(some (wC,cM))
|.aP _=>none
|.bW _=>none))))))))))))
noncomputable def vn.p:bj:=eu (bf [qR.p,tQ.p] [] bC) (br [(17,[],[],none,none)] []) Tryz.func84 [.leaf .ptr,.agg [.int .i64,.int .i64,.int .i64,.int .i64,.int .i64,.int .i64,.int .i64,.int .i64,.int .i64,.str,.slice]] (.many []) (fun x h=>vn x.1 x.2 h) fun _ _=>by kernel_rfl
noncomputable def vh (a0:V) (a1:(Int×Int×Int×Int×Int×Int×Int×Int×Int×ByteArray×au)) (h:H):Option ((Unit)×H):=
(match a1 with
|(j2,j3,n3,lU,m9,s8,s9,s_,ta,td,ia)=>
(let h1:H:=H.new h [.int .i64 j2,.int .i64 j3,.int .i64 n3,.int .i64 lU,.int .i64 m9,.int .i64 s8,.int .i64 s9,.int .i64 s_,.int .i64 ta,.str td,.slice ia.a ia.len ia.cap ia.tail] 11
((ah (.leaf (.int .i64)) h1 (.aa h.next 11 2)).bind fun b5=>
((ah (.leaf (.int .i64)) h1 (.aa h.next 11 5)).bind fun cx=>
((ah (.leaf (.int .i64)) h1 (.aa h.next 11 0)).bind fun eB=>
((tQ a0 b5 cx eB h1).bind fun((wL,GQ,GR,te),bp)=>
(let bE:H:=H.new bp [.int .i64 0,.int .i64 0,.int .i64 0,.slice .nil 0 0 false] 4
((H.aY bE (.aa bp.next 4 0) [.int .i64 wL,.int .i64 GQ,.int .i64 GR,.slice te.a te.len te.cap te.tail]).bind fun h8=>
(aJ (V.cS (a0:V)=true) (aJ (V.bm (a0:V)=true) ((ah (.leaf (.int .i64)) h8 (V.add a0 4)).bind fun fT=>
((bif (decide (fT=0))then(let c5:H:=H.de h8 0
(aJ (V.cS (a0:V)=true) (aJ (V.bm (a0:V)=true) (aJ (V.bm ((V.add a0 0):V)=true) ((ah (.leaf .slice) c5 (V.add (V.add a0 0) 2)).bind fun iv=>
((ah (.agg [.int .i64,.int .i64,.int .i64,.slice]) c5 (.aa bp.next 4 0)).bind fun(k9,k_,pU,la)=>
((c7 c5 none 4 48 iv [.int .i64 k9,.int .i64 k_,.int .i64 pU,.slice la.a la.len la.cap la.tail] 1).bind fun(An,cO)=>
(aJ (V.cS (a0:V)=true) (aJ (V.bm (a0:V)=true) (aJ (V.bm ((V.add a0 0):V)=true) ((H.aY cO (V.add (V.add a0 0) 2) [.slice An.a An.len An.cap An.tail]).bind fun d_=>
(some (.next (),d_)))))))))))))else (some (.next (),h8)):Option (bG (Unit) (Unit)×H)).bind fun(LB,eN)=>match LB with
|.next _=>
(some ((),eN))
|.ret LC=>(some (LC,eN))
|.aP _=>none
|.bW _=>none))))))))))))
noncomputable def vh.p:bj:=eu (bf [tQ.p] [] bC) (br [(17,[],[],none,none)] []) Tryz.func85 [.leaf .ptr,.agg [.int .i64,.int .i64,.int .i64,.int .i64,.int .i64,.int .i64,.int .i64,.int .i64,.int .i64,.str,.slice]] (.many []) (fun x h=>vh x.1 x.2 h) fun _ _=>by kernel_rfl
noncomputable def nA.aZ (h:H) (hb:au):(Int)×H→Option (ca ((Int)×H) (bG (Unit) (V)×H)):=fun(fH,d_)=>
(bif (decide (fH<((hb.len:Nat):Int)))then(let eN:H:=H.de d_ 0
((ah (.leaf .slice) eN (.aa h.next 4 0)).bind fun gu=>
((ah (.leaf .slice) eN (.aa h.next 4 0)).bind fun iM=>
(aJ (0≤fH∧fH<((iM.len:Nat):Int)) (aJ (V.bm ((V.add iM.a (Int.toNat fH*5)):V)=true) ((ah (.leaf .slice) eN (V.add (V.add iM.a (Int.toNat fH*5)) 4)).bind fun xg=>
((bB true eN [.str] xg).bind fun ahH=>
((k4 16 ahH).bind fun uY=>
(aJ (0≤fH∧fH<((gu.len:Nat):Int)) (aJ (V.bm ((V.add gu.a (Int.toNat fH*5)):V)=true) ((H.aY eN (V.add (V.add gu.a (Int.toNat fH*5)) 4) [.slice ((ae true [.str] uY).a) uY.length uY.length true]).bind fun hZ=>
(some (.more ((IntKind.wrap .i64 (fH+1)),hZ))))))))))))))else (some (.done (.aP (),d_))))
noncomputable def nA (a0:(au×au×au×Int)) (h:H):Option ((V)×H):=
(match a0 with
|(cz,cA,cT,dZ)=>
(let h1:H:=H.new h [.slice cz.a cz.len cz.cap cz.tail,.slice cA.a cA.len cA.cap cA.tail,.slice cT.a cT.len cT.cap cT.tail,.int .i64 dZ] 4
(let h2:H:=H.de h1 0
((ah (.leaf .slice) h2 (.aa h.next 4 0)).bind fun cx=>
((lE cx h2).bind fun(bQ,ba)=>
((ah (.leaf .slice) ba (.aa h.next 4 1)).bind fun hc=>
((k2 hc ba).bind fun(fp,h8)=>
((ah (.leaf .slice) h8 (.aa h.next 4 2)).bind fun fT=>
((k2 fT h8).bind fun(pd,cJ)=>
((H.aY cJ (.aa h.next 4 0) [.slice bQ.a bQ.len bQ.cap bQ.tail]).bind fun cX=>
((H.aY cX (.aa h.next 4 1) [.slice fp.a fp.len fp.cap fp.tail]).bind fun cM=>
((H.aY cM (.aa h.next 4 2) [.slice pd.a pd.len pd.cap pd.tail]).bind fun cO=>
((ah (.leaf .slice) cO (.aa h.next 4 0)).bind fun hb=>
((iter bd (nA.aZ h hb) (0,cO)).bind fun(LU,gW)=>match LU with
|.next _=>none
|.ret ae3=>(some (ae3,gW))
|.aP _=>
((ah (.agg [.slice,.slice,.slice,.int .i64]) gW (.aa h.next 4 0)).bind fun(zo,zp,zq,KI)=>
(let h0:H:=H.new gW [.slice zo.a zo.len zo.cap zo.tail,.slice zp.a zp.len zp.cap zp.tail,.slice zq.a zq.len zq.cap zq.tail,.int .i64 KI,.int .i64 0] 5
(some ((.aa gW.next 5 0:V),h0))))
|.bW _=>none))))))))))))))
noncomputable def nA.p:bj:=eu (bf [H9.p,lE.p] [k2.p] bC) {br [] [(4,[22],[.leaf (.int .i64)],[],[],some 0,none)]with mL:=[11,15]} Tryz.func86 [.agg [.slice,.slice,.slice,.int .i64]] (.one (.leaf .ptr)) (fun x h=>nA x h) fun _ _=>by kernel_rfl
noncomputable def mR.tb (T:Table):Table:=tS [vq.p,nA.p,mm.p] [jP.p,vm.p,vn.p,vh.p] T
noncomputable def mR.b (T:cq):cq:=bf [vq.p,nA.p,mm.p] [jP.p,vm.p,vn.p,vh.p] T
noncomputable def mR (T:Table) (a0:(au×au×au×Int)) (a1:(Int×Int×Int×Int×Int×Int×Int×Int×Int×ByteArray×au)) (h:H):Option (((au×au×au×Int)×Int)×H):=
(match a0 with
|(cz,cA,cT,dZ)=>
(match a1 with
|(j2,j3,n3,lU,m9,s8,s9,s_,ta,td,ia)=>
(let h1:H:=H.new h [.slice cz.a cz.len cz.cap cz.tail,.slice cA.a cA.len cA.cap cA.tail,.slice cT.a cT.len cT.cap cT.tail,.int .i64 dZ] 4
(let h2:H:=H.new h1 [.int .i64 j2,.int .i64 j3,.int .i64 n3,.int .i64 lU,.int .i64 m9,.int .i64 s8,.int .i64 s9,.int .i64 s_,.int .i64 ta,.str td,.slice ia.a ia.len ia.cap ia.tail] 11
(let h3:H:=H.new h2 [.slice .nil 0 0 false,.slice .nil 0 0 false,.slice .nil 0 0 false,.int .i64 0] 4
((ah (.agg [.int .i64,.int .i64,.int .i64,.int .i64,.int .i64,.int .i64,.int .i64,.int .i64,.int .i64,.str,.slice]) h3 (.aa h1.next 11 0)).bind fun(ij,jh,p8,jF,zN,ae4,ae5,ae6,ae7,ae8,acf)=>
((bB true h3 [.str] acf).bind fun mO=>
((vq (ij,jh,p8,jF,zN,ae4,ae5,ae6,ae7,ae8,mO)).bind fun di=>
(bif (!di)then((H.aY h3 (.aa h2.next 4 0) [.slice .nil 0 0 false,.slice .nil 0 0 false,.slice .nil 0 0 false,.int .i64 0]).bind fun bE=>
((ah (.agg [.slice,.slice,.slice,.int .i64]) bE (.aa h2.next 4 0:V)).bind fun(sQ,sR,wA,wB)=>
(some (((sQ,sR,wA,wB),1),bE))))else ((ah (.leaf (.int .i64)) h3 (.aa h1.next 11 0)).bind fun fT=>
((ah (.leaf (.int .i64)) h3 (.aa h.next 4 3)).bind fun e9=>
(bif (decide (fT≤e9))then((H.aY h3 (.aa h2.next 4 0) [.slice .nil 0 0 false,.slice .nil 0 0 false,.slice .nil 0 0 false,.int .i64 0]).bind fun cJ=>
((ah (.agg [.slice,.slice,.slice,.int .i64]) cJ (.aa h2.next 4 0:V)).bind fun(k9,k_,pU,la)=>
(some (((k9,k_,pU,la),5),cJ))))else (let cM:H:=H.new h3 [.nilFunc,.nilFunc,.nilFunc,.nilFunc,.nilFunc] 5
((H.aY cM (.aa h3.next 5 0) [.nilFunc,.func 82 [],.func 83 [],.func 84 [],.func 85 []]).bind fun cO=>
((ah (.agg [.slice,.slice,.slice,.int .i64]) cO (.aa h.next 4 0)).bind fun(Cv,Cw,Cx,Cy)=>
((nA (Cv,Cw,Cx,Cy) cO).bind fun(iT,d_)=>
(let eN:H:=H.de d_ 0
((ah (.leaf (.int .i64)) eN (.aa h1.next 11 1)).bind fun gu=>
(aJ (V.bm (.aa h3.next 5 0:V)=true∧0≤gu∧gu<((5:Nat):Int)) ((ah (.leaf .dyn) eN (.aa h3.next 5 (0+(Int.toNat gu*1)))).bind fun iM=>
((ah (.agg [.int .i64,.int .i64,.int .i64,.int .i64,.int .i64,.int .i64,.int .i64,.int .i64,.int .i64,.str,.slice]) eN (.aa h1.next 11 0)).bind fun(Kv,Kw,acg,ach,aci,acj,ack,acm,acn,aco,F7)=>
(eE (mR.tb T).dg iM [iT,.agg [.int .i64 Kv,.int .i64 Kw,.int .i64 acg,.int .i64 ach,.int .i64 aci,.int .i64 acj,.int .i64 ack,.int .i64 acm,.int .i64 acn,.str aco,.slice F7.a F7.len F7.cap F7.tail]] eN fun v22 eP=>
(an.pack (.many []) v22).bind fun _=>
(aJ (V.cS (iT:V)=true) (aJ (V.bm (iT:V)=true) (aJ (V.bm ((V.add iT 0):V)=true) ((ah (.leaf .slice) eP (V.add (V.add iT 0) 1)).bind fun lq=>
((bif (decide ((32:Int)<((lq.len:Nat):Int)))then((mm iT 8 eP).bind fun(T4,jK)=>
(some (.next (),jK)))else (some (.next (),eP)):Option (bG (Unit) ((au×au×au×Int)×Int)×H)).bind fun(ae9,gT)=>match ae9 with
|.next _=>
(aJ (V.cS (iT:V)=true) (aJ (V.bm (iT:V)=true) ((ah (.leaf (.int .i64)) gT (V.add iT 4)).bind fun rL=>
(bif (!(decide (rL=0)))then(let hB:H:=H.de gT 0
(aJ (V.cS (iT:V)=true) (aJ (V.bm (iT:V)=true) ((ah (.leaf (.int .i64)) hB (V.add iT 4)).bind fun lr=>
((H.aY hB (.aa h2.next 4 0) [.slice .nil 0 0 false,.slice .nil 0 0 false,.slice .nil 0 0 false,.int .i64 0]).bind fun c2=>
(aJ (fg ((V.add iT 4):V) (.aa h2.next 4 0:V)=true) ((ah (.agg [.slice,.slice,.slice,.int .i64]) c2 (.aa h2.next 4 0:V)).bind fun(Kx,Ky,acp,acq)=>
(some (((Kx,Ky,acp,acq),lr),c2)))))))))else ((ah (.leaf (.int .i64)) gT (.aa h1.next 11 0)).bind fun jJ=>
(aJ (V.cS (iT:V)=true) (aJ (V.bm (iT:V)=true) (aJ (V.bm ((V.add iT 0):V)=true) ((H.aY gT (V.add (V.add iT 0) 3) [.int .i64 jJ]).bind fun lv=>
(aJ (V.cS (iT:V)=true) (aJ (V.bm (iT:V)=true) ((ah (.agg [.slice,.slice,.slice,.int .i64]) lv (V.add iT 0)).bind fun(zr,zs,zt,KJ)=>
((H.aY lv (.aa h2.next 4 0) [.slice zr.a zr.len zr.cap zr.tail,.slice zs.a zs.len zs.cap zs.tail,.slice zt.a zt.len zt.cap zt.tail,.int .i64 KJ]).bind fun qu=>
((ah (.agg [.slice,.slice,.slice,.int .i64]) qu (.aa h2.next 4 0:V)).bind fun(acr,acs,acu,acv)=>
(some (((acr,acs,acu,acv),0),qu))))))))))))))))
|.ret afa=>(some (afa,gT))
|.aP _=>none
|.bW _=>none)))))))))))))))))))))))))))
noncomputable def mR.x (T:cq):=cQ (mR.b T) (br [(36,[],[],none,none)] []) Tryz.func34 [.agg [.slice,.slice,.slice,.int .i64],.agg [.int .i64,.int .i64,.int .i64,.int .i64,.int .i64,.int .i64,.int .i64,.int .i64,.int .i64,.str,.slice]] (.many [.agg [.slice,.slice,.slice,.int .i64],.leaf (.int .i64)]) (fun x h=>mR T.t x.1 x.2 h) fun _ _=>by kernel_rfl
abbrev e3:=List dV×List Ao×List Ao×Int
abbrev dK:=Int×Int×Int×Int×Int×Int×Int×Int×Int×ByteArray×List ByteArray
abbrev zO:List ab:=[.row gN,.row bN,.row bN,.int .i64]
abbrev ht:List ab:=[.int .i64,.int .i64,.int .i64,.int .i64,.int .i64,.int .i64,.int .i64,.int .i64,.int .i64,.str,.row [.str]]
abbrev zP:List ab:=[.slice,.slice,.slice,.int .i64]
abbrev Dn:List ab:=[.int .i64,.int .i64,.int .i64,.int .i64,.int .i64,.int .i64,.int .i64,.int .i64,.int .i64,.str,.slice]
noncomputable def uv (c:e3) (s:dK):Option (e3×Int):=
 (mR Table.nil (ae false gN c.1,ae false bN c.2.1,ae false bN c.2.2.1,c.2.2.2)
  (s.1,s.2.1,s.2.2.1,s.2.2.2.1,s.2.2.2.2.1,s.2.2.2.2.2.1,s.2.2.2.2.2.2.1,s.2.2.2.2.2.2.2.1,s.2.2.2.2.2.2.2.2.1,s.2.2.2.2.2.2.2.2.2.1,ae false [.str] s.2.2.2.2.2.2.2.2.2.2) H.empty).bind fun p=>
   av false p.2 (.many [.agg zO,.leaf (.int .i64)]) (an.un (.many [.agg zP,.leaf (.int .i64)]) p.1)
noncomputable def uv.p:bj:=cF.low [.agg zO,.agg ht] (mR.x bC) (.many [.agg zO,.leaf (.int .i64)]) (fun x=>uv x.1 x.2) fun _=>by kernel_rfl
abbrev aD:List ab:=[.int .i64,.int .i64]
abbrev a_(x:Int×Int):Slot:=.own [.int .i64 x.1,.int .i64 x.2] 2
theorem nM{sl:List Slot}{x:Int×Int}:H.aY (ag (sl++[Slot.own [V.int .i64 0,V.int .i64 0] 2])) (.aa sl.length 2 0) [.int .i64 x.1,.int .i64 x.2]=some (ag (sl++[a_ x])):=by
 rw[eS (g:=2) (cs:=[V.int .i64 0,V.int .i64 0]) (e:=2) (by simp) rfl (by simp)]
 simp[Ev.splice]
theorem lR{sl:List Slot}{id:Nat}{x:Int×Int}(h:sl[id]? =some (a_ x)):ah (.leaf (.int .i64)) (ag sl) (.aa id 2 0)=some x.1∧ah (.leaf (.int .i64)) (ag sl) (.aa id 2 1)=some x.2:=by
 refine⟨?_, ?_⟩
 ·rw[e5 (g:=2) h rfl];rfl
 ·rw[e5 (g:=2) h rfl];rfl
theorem RS{sl:List Slot}{id:Nat}{x:Int×Int}(h:sl[id]? =some (a_ x)):ah (.agg [.int .i64,.int .i64]) (ag sl) (.aa id 2 0)=some x:=by
 rw[oQ (by simp),fO,h];rfl
theorem RT{sl:List Slot}{id:Nat}{x y:Int×Int}(h:sl[id]? =some (a_ x)):H.aY (ag sl) (.aa id 2 0) [.int .i64 y.1,.int .i64 y.2]=some (ag (sl.set id (a_ y))):=by
 rw[eS (g:=2) h rfl (by simp)];rfl
theorem BG{S F:Type}{f:S→Option (ca S F)}(Inv:Nat→S→Prop)(Post:F→Prop)(n:Nat)(y9:∀i s,i<n→Inv i s→∃bc,f s=some (.more bc)∧Inv (i+1) bc)(ld:∀s,Inv n s→∃x,f s=some (.done x)∧Post x):
  ∀(fuel i:Nat) (s:S),i≤n→Inv i s→n-i<fuel→∃x,iter fuel f s=some x∧Post x
 |0,_,_,_,_,h=>by omega
 |fuel+1,i,s,hi,ad,h=>by
  rcases Nat.lt_or_ge i n with bn |hy
  ·obtain⟨bc,h1,h2⟩:=y9 i s bn ad
   obtain⟨x,aw,aH⟩:=BG Inv Post n y9 ld fuel (i+1) bc (by omega) h2 (by omega)
   exact ⟨x,by simp only[iter,h1,Option.bind_some];exact aw,aH⟩
  ·have:i=n:=by omega
   subst this
   obtain⟨x,h1,h2⟩:=ld s ad
   exact ⟨x,by simp only[iter,h1,Option.bind_some],h2⟩
theorem Acc.Y_{sl:List Slot}{ls:List ab}{xs:List (LT ls)}{s:au}{o:Option Nat}{w b i:Nat}{x:LT ls}{vs:List V}(h:Acc sl ls xs s o)(hi:i<sl.length)(a8:o≠some i)(hw:ls.length=w)(gD:0<w)(aq:xs.length+1≤2^36)(aE:b≤2^11)(aU:vs=LT.lo true ls x):
  ∃bc aC id,c7 (ag sl) (some i) w b s vs 1=some (bc,ag aC)∧Acc aC ls (xs++[x]) bc (some id)∧(o=some id∨o=none∧id=i)∧aC.length=sl.length∧∀j,o≠some j→j≠i→aC[j]? =sl[j]?:=by
 subst hw
 subst aU
 cases o with
 |none=>
  obtain⟨rfl,ad⟩:=h
  refine⟨fh i ls [x].length,sl.set i (.own (bx ls [x]) ls.length),i, ?_,⟨by simp,rfl, ?_⟩,.inr ⟨rfl,rfl⟩,by simp,fun j _ aL=>?_⟩
  ·rcases ad with rfl |rfl<;>
   ·simp only[c7,iF,uB,newAt]
    rw[if_neg (show ¬(1=0) by omega)]
    unfold aJ ei
    rw[if_pos ⟨by omega,aE⟩,if_pos ⟨trivial,trivial,trivial⟩,k5 hi]
    simp[fh,bx]
  ·rw[List.getElem?_set_self hi];rfl
  ·rw[List.getElem?_set_ne (Ne.symm aL)]
 |some id=>
  obtain⟨h1,rfl,h3⟩:=h
  have aT:=(List.getElem?_eq_some_iff.1 h3).1
  refine⟨fh id ls (xs++[x]).length,sl.set id (.own (bx ls (xs++[x])) ls.length),id,Pd h3 rfl gD h1 aq aE rfl,⟨by simp,rfl, ?_⟩,.inl rfl,by simp,fun j aL bn=>?_⟩
  ·rw[List.getElem?_set_self aT]
  ·rw[List.getElem?_set_ne (fun e=>aL (by rw[e]))]
theorem Acc.addr{sl:List Slot}{ls:List ab}{xs:List (LT ls)}{s:au}{o:Option Nat}(h:Acc sl ls xs s o){cs:List V}{n c i:Nat}{t:Bool}:∃g,FO (.slice s.a s.len s.cap s.tail) (.slice (.lp true cs 0) n c t) (some i)=.aa (o.getD i) g 0:=by
 cases o with
 |none=>obtain⟨rfl,rfl |rfl⟩:=h<;>exact ⟨_,rfl⟩
 |some id=>obtain⟨h1,rfl,h3⟩:=h;exact ⟨_,rfl⟩
theorem QJ{i j g kP o dL:Nat}(h:i≠j):fg (.aa i g o) (.aa j kP dL)=true:=by
 have:Nat.beq i j=false:=by
  rw[←Bool.not_eq_true]
  intro e
  exact h (Nat.eq_of_beq_eq_true e)
 simp[fg,this]
theorem Jv{bb gj n d q r:Nat}(af:r+q*bb=n):4294967296*r+d<q*gj↔n*4294967296+d<q*(bb*4294967296+gj):=by
 have aG:q*(bb*4294967296+gj)=(q*bb)*4294967296+q*gj:=by rw[Nat.mul_add,Nat.mul_assoc]
 rw[aG,←af]
 generalize q*bb=p
 generalize q*gj=z
 omega
theorem OW{y n d q:Nat}(aK:0<y):(n*4294967296+d)/y<q↔n*4294967296+d<q*y:=Nat.div_lt_iff_lt_mul aK
theorem IV{y n d:Nat}(aK:n<y)(bF:d<4294967296):(n*4294967296+d)/y<4294967296:=by
 rw[OW (by omega)]
 have:(n+1)*4294967296≤y*4294967296:=Nat.mul_le_mul_right _ aK
 omega
theorem Za{bb gj n d:Nat}(h1:0<bb)(bF:d<4294967296):(n*4294967296+d)/(bb*4294967296+gj)≤n/bb:=by
 rw[Nat.le_div_iff_mul_le h1]
 have h:=Nat.div_mul_le_self (n*4294967296+d) (bb*4294967296+gj)
 generalize (n*4294967296+d)/(bb*4294967296+gj)=q at h⊢
 rw[Nat.mul_add,←Nat.mul_assoc]at h
 generalize q*bb=p at h⊢
 generalize q*gj=z at h
 omega
theorem Jw{bb gj n:Nat}(h1:2147483648≤bb)(aO:gj<4294967296)(aM:n<bb*4294967296+gj):n/bb≤4294967297:=by
 rw[Nat.div_le_iff_le_mul_add_pred (by omega)]
 omega
theorem Pn{F:Type}{f:(Int×Int)×H→Option (ca ((Int×Int)×H) (bG Int F×H))}{h:H}{bb gj n d:Nat}(h1:2147483648≤bb)(eV:bb<4294967296)(aO:gj<4294967296)(aM:n<bb*4294967296+gj)(bF:d<4294967296)
  (ak:∀q r:Nat,q≤4294967297→r<4294967296→f (((q:Int),(r:Int)),h)=if 4294967296≤q∨4294967296*r+d<q*gj then(if 4294967296≤r+bb then some (.done (.aP (((q-1:Nat):Int)),h))else some (.more ((((q-1:Nat):Int),((r+bb:Nat):Int)),h)))else some (.done (.aP (q:Int),h))):
  iter bd f ((((n/bb:Nat):Int),((n %bb:Nat):Int)),h)=some (.aP (((n*4294967296+d)/(bb*4294967296+gj):Nat):Int),h):=by
 have aK:0<bb*4294967296+gj:=by omega
 have ahI:∃Q,(n*4294967296+d)/(bb*4294967296+gj)=Q:=⟨_,rfl⟩
 obtain⟨Q,EL⟩:=ahI
 have yU:Q≤n/bb:=by rw[←EL];exact Za (by omega) bF
 rw[EL]
 obtain⟨x,hx,aa⟩:=ft (f:=f) (Inv:=fun st=>st.2=h∧∃q r:Nat,st.1=((q:Int),(r:Int))∧r+q*bb=n∧Q≤q∧q≤4294967297∧r<4294967296)
  (Post:=fun x=>x=(.aP ((Q:Nat):Int),h)) (fun st=>st.1.1.toNat) (fun st hi=>by
   obtain⟨st,Nb⟩:=st
   obtain⟨rfl,q,r,rfl,aG,e2,bP,eC⟩:=hi
   simp only
   rw[ak q r bP eC]
   by_cases ao:4294967296≤q∨4294967296*r+d<q*gj
   ·rw[if_pos ao]
    have bn:Q<q:=by
     rw[←EL]
     rcases ao with ao|ao
     ·exact Nat.lt_of_lt_of_le (IV aM bF) ao
     ·exact (OW aK).2 ((Jv aG).1 ao)
    have rQ:(r+bb)+(q-1)*bb=n:=by
     have:q*bb=(q-1)*bb+bb:=by
      conv=>lhs;rw[show q=(q-1)+1 by omega,Nat.succ_mul]
     omega
    by_cases aE:4294967296≤r+bb
    ·rw[if_pos aE]
     right
     refine⟨_,rfl, ?_⟩
     have hle:q-1≤Q:=by
      rw[←EL,Nat.le_div_iff_mul_le aK]
      have j8:¬(4294967296*(r+bb)+d<(q-1)*gj):=by
       have:(q-1)*gj≤4294967296*4294967295:=Nat.mul_le_mul (by omega) (by omega)
       omega
      rw[Jv rQ]at j8
      omega
     have:q-1=Q:=by omega
     rw[this]
    ·rw[if_neg aE]
     left
     refine⟨_,rfl,⟨rfl,q-1,r+bb,rfl,rQ,by omega,by omega,by omega⟩, ?_⟩
     simp only[Int.toNat_natCast]
     omega
   ·rw[if_neg ao]
    right
    refine⟨_,rfl, ?_⟩
    have hle:q≤Q:=by
     rw[←EL,Nat.le_div_iff_mul_le aK]
     have j8:¬(4294967296*r+d<q*gj):=fun h=>ao (.inr h)
     rw[Jv aG]at j8
     omega
    have:q=Q:=by omega
    rw[←this]) bd ((((n/bb:Nat):Int),((n %bb:Nat):Int)),h)
   ⟨rfl,n/bb,n %bb,rfl,by rw[Nat.mul_comm];exact Nat.mod_add_div n bb,yU,Jw h1 aO aM,by have:=Nat.mod_lt n (show 0<bb by omega);omega⟩
   (by
    simp only[Int.toNat_natCast]
    have:=Jw h1 aO aM
    have:(4294967297:Nat)<bd:=by unfold bd;omega
    omega)
 rw[hx,aa]
def F8:ByteArray:=⟨#[0,1,2,2,3,3,3,3,4,4,4,4,4,4,4,4,5,5,5,5,5,5,5,5,5,5,5,5,5,5,5,5,6,6,6,6,6,6,6,6,6,6,6,6,6,6,6,6,6,6,6,6,6,6,6,6,6,6,6,6,6,6,6,6,7,7,7,7,7,7,7,7,7,7,7,7,7,7,7,7,7,7,7,7,7,7,7,7,7,7,7,7,7,7,7,7,7,7,7,7,7,7,7,7,7,7,7,7,7,7,7,7,7,7,7,7,7,7,7,7,7,7,7,7,7,7,7,7,8,8,8,8,8,8,8,8,8,8,8,8,8,8,8,8,8,8,8,8,8,8,8,8,8,8,8,8,8,8,8,8,8,8,8,8,8,8,8,8,8,8,8,8,8,8,8,8,8,8,8,8,8,8,8,8,8,8,8,8,8,8,8,8,8,8,8,8,8,8,8,8,8,8,8,8,8,8,8,8,8,8,8,8,8,8,8,8,8,8,8,8,8,8,8,8,8,8,8,8,8,8,8,8,8,8,8,8,8,8,8,8,8,8,8,8,8,8,8,8,8,8,8,8,8,8,8,8]⟩
def len8(n:Nat):Nat:=(((F8.data[n]?).map UInt8.toNat).getD 0:Nat)
theorem Rm:∀n,0<n→n<256→2^len8 n/2≤n∧n<2^len8 n∧1≤len8 n∧len8 n≤8:=by
 intro n aO h1
 have:(List.range 256).all (fun n=>n==0||(decide (2^len8 n/2≤n)&&(decide (n<2^len8 n)&&(decide (1≤len8 n)&&decide (len8 n≤8)))))=true:=by kernel_rfl
 have:=List.all_eq_true.1 this n (by simp;omega)
 simp only[Bool.or_eq_true,Bool.and_eq_true,decide_eq_true_eq,beq_iff_eq]at this
 rcases this with h|h
 ·omega
 ·exact h
def pN(y k:Int):Option Int:=
 aJ (0≤(IntKind.wrap .u8 y)∧(IntKind.wrap .u8 y)<((ByteArray.size F8:Nat):Int)) (some (IntKind.wrap .i64 (k+(IntKind.wrap .i64 ((((F8.data[Int.toNat (IntKind.wrap .u8 y)]?).map UInt8.toNat).getD 0:Nat):Int)))))
theorem Xe{y k:Nat}(aO:0<y)(h1:y<256)(aN:k≤56):pN (y:Int) (k:Int)=some ((k+len8 y:Nat):Int):=by
 unfold pN
 rw[IntWalk.u8_in _ (by omega),Int.toNat_natCast,aS (by rw[show ByteArray.size F8=256 by kernel_rfl];omega)]
 have:=Rm y aO h1
 show some (IntKind.wrap .i64 ((k:Int)+IntKind.wrap .i64 ((len8 y:Nat):Int)))=_
 rw[IntWalk.i64_in ((len8 y:Nat):Int) (by omega),IntWalk.i64_in _ (by omega)]
 rfl
theorem X5(x:Int):vo x=
  bif decide ((4294967296:Int)≤x)then
   (bif decide ((65536:Int)≤Int.fdiv x (2^32))then
    (bif decide ((256:Int)≤Int.fdiv (Int.fdiv x (2^32)) (2^16))then pN (Int.fdiv (Int.fdiv (Int.fdiv x (2^32)) (2^16)) (2^8)) 56 else pN (Int.fdiv (Int.fdiv x (2^32)) (2^16)) 48)
   else (bif decide ((256:Int)≤Int.fdiv x (2^32))then pN (Int.fdiv (Int.fdiv x (2^32)) (2^8)) 40 else pN (Int.fdiv x (2^32)) 32))
  else
   (bif decide ((65536:Int)≤x)then
    (bif decide ((256:Int)≤Int.fdiv x (2^16))then pN (Int.fdiv (Int.fdiv x (2^16)) (2^8)) 24 else pN (Int.fdiv x (2^16)) 16)
   else (bif decide ((256:Int)≤x)then pN (Int.fdiv x (2^8)) 8 else pN x 0)):=by
 have vb:∀{p:Prop} [Decidable p] {α β:Type} (x:Option α) (f:α→Option β),(aJ p x).bind f=aJ p (x.bind f):=kY
 unfold vo A6
 cases h1:decide ((4294967296:Int)≤x)with
 |true=>
  simp only[cond_true,Option.bind_some]
  cases h2:decide ((65536:Int)≤Int.fdiv x (2^min (Int.toNat 32) (IntKind.bits .u64)))with
  |true=>
   simp only[cond_true,Option.bind_some]
   cases h3:decide ((256:Int)≤Int.fdiv (Int.fdiv x (2^min (Int.toNat 32) (IntKind.bits .u64))) (2^min (Int.toNat 16) (IntKind.bits .u64)))with
   |true=>
    rw[show decide ((65536:Int)≤Int.fdiv x (2^32))=true from h2,show decide ((256:Int)≤Int.fdiv (Int.fdiv x (2^32)) (2^16))=true from h3]
    simp only[cond_true,Option.bind_some,vb]
    rfl
   |false=>
    rw[show decide ((65536:Int)≤Int.fdiv x (2^32))=true from h2,show decide ((256:Int)≤Int.fdiv (Int.fdiv x (2^32)) (2^16))=false from h3]
    simp only[cond_true,cond_false,Option.bind_some,vb]
    rfl
  |false=>
   simp only[cond_false,Option.bind_some]
   cases h3:decide ((256:Int)≤Int.fdiv x (2^min (Int.toNat 32) (IntKind.bits .u64)))with
   |true=>
    rw[show decide ((65536:Int)≤Int.fdiv x (2^32))=false from h2,show decide ((256:Int)≤Int.fdiv x (2^32))=true from h3]
    simp only[cond_true,cond_false,Option.bind_some,vb]
    rfl
   |false=>
    rw[show decide ((65536:Int)≤Int.fdiv x (2^32))=false from h2,show decide ((256:Int)≤Int.fdiv x (2^32))=false from h3]
    simp only[cond_true,cond_false,Option.bind_some,vb]
    rfl
 |false=>
  simp only[cond_false,Option.bind_some]
  cases h2:decide ((65536:Int)≤x)with
  |true=>
   simp only[cond_true,Option.bind_some]
   cases h3:decide ((256:Int)≤Int.fdiv x (2^min (Int.toNat 16) (IntKind.bits .u64)))with
   |true=>
    rw[show decide ((256:Int)≤Int.fdiv x (2^16))=true from h3]
    simp only[cond_true,cond_false,Option.bind_some,vb]
    rfl
   |false=>
    rw[show decide ((256:Int)≤Int.fdiv x (2^16))=false from h3]
    simp only[cond_true,cond_false,Option.bind_some,vb]
    rfl
  |false=>
   simp only[cond_false,Option.bind_some]
   cases h3:decide ((256:Int)≤x)with
   |true=>
    simp only[cond_true,cond_false,Option.bind_some,vb]
    rfl
   |false=>
    simp only[cond_true,cond_false,Option.bind_some,vb]
    rfl
theorem Zb(x n:Nat):Int.fdiv (x:Int) (n:Int)=((x/n:Nat):Int):=by
 rw[Int.fdiv_eq_ediv_of_nonneg _ (by omega)]
 rfl
theorem fdiv_pow(x n:Nat):Int.fdiv (x:Int) (2^n)=((x/2^n:Nat):Int):=by
 rw[←Zb]
 congr 1
theorem Zc{x:Nat}(aO:0<x)(h1:x<18446744073709551616):∃n,vo (x:Int)=some ((n:Nat):Int)∧1≤n∧n≤64∧2^(n-1)≤x∧x<2^n:=by
 have fin:∀k:Nat,k≤56→0<x/2^k→x/2^k<256→∃n,pN ((x/2^k:Nat):Int) ((k:Nat):Int)=some ((n:Nat):Int)∧1≤n∧n≤64∧2^(n-1)≤x∧x<2^n:=fun k aN ox bu=>by
  obtain⟨iz,hH,xD,HQ⟩:=Rm _ ox bu
  refine⟨k+len8 (x/2^k),Xe ox bu aN,by omega,by omega, ?_, ?_⟩
  ·have e:2^(k+len8 (x/2^k)-1)=2^(len8 (x/2^k))/2*2^k:=by
    rw[show k+len8 (x/2^k)-1=(len8 (x/2^k)-1)+k by omega,Nat.pow_add]
    congr 1
    conv=>rhs;rw[show len8 (x/2^k)=(len8 (x/2^k)-1)+1 by omega,Nat.pow_succ,Nat.mul_div_cancel _ (by omega)]
   rw[e]
   exact Nat.le_trans (Nat.mul_le_mul_right _ iz) (Nat.div_mul_le_self x (2^k))
  ·rw[Nat.pow_add,Nat.mul_comm]
   exact (Nat.div_lt_iff_lt_mul (Nat.two_pow_pos k)).1 hH
 rw[X5]
 have f16:Int.fdiv (x:Int) (2^16)=((x/2^16:Nat):Int):=fdiv_pow x 16
 have f8:Int.fdiv (x:Int) (2^8)=((x/2^8:Nat):Int):=fdiv_pow x 8
 have f32:Int.fdiv (x:Int) (2^32)=((x/2^32:Nat):Int):=fdiv_pow x 32
 have acw:Int.fdiv ((x/2^32:Nat):Int) (2^16)=((x/2^48:Nat):Int):=by rw[fdiv_pow,Nat.div_div_eq_div_mul]
 have afb:Int.fdiv ((x/2^32:Nat):Int) (2^8)=((x/2^40:Nat):Int):=by rw[fdiv_pow,Nat.div_div_eq_div_mul]
 have aaK:Int.fdiv ((x/2^48:Nat):Int) (2^8)=((x/2^56:Nat):Int):=by rw[fdiv_pow,Nat.div_div_eq_div_mul]
 have f168:Int.fdiv ((x/2^16:Nat):Int) (2^8)=((x/2^24:Nat):Int):=by rw[fdiv_pow,Nat.div_div_eq_div_mul]
 rw[f32,f16,f8,acw,afb,aaK,f168]
 by_cases bL:(4294967296:Int)≤x
 ·rw[decide_eq_true bL,cond_true]
  by_cases a_:(65536:Int)≤((x/2^32:Nat):Int)
  ·rw[decide_eq_true a_,cond_true]
   by_cases cY:(256:Int)≤((x/2^48:Nat):Int)
   ·rw[decide_eq_true cY,cond_true];exact fin 56 (by omega) (by omega) (by omega)
   ·rw[decide_eq_false cY,cond_false];exact fin 48 (by omega) (by omega) (by omega)
  ·rw[decide_eq_false a_,cond_false]
   by_cases cY:(256:Int)≤((x/2^32:Nat):Int)
   ·rw[decide_eq_true cY,cond_true];exact fin 40 (by omega) (by omega) (by omega)
   ·rw[decide_eq_false cY,cond_false];exact fin 32 (by omega) (by omega) (by omega)
 ·rw[decide_eq_false bL,cond_false]
  by_cases a_:(65536:Int)≤x
  ·rw[decide_eq_true a_,cond_true]
   by_cases cY:(256:Int)≤((x/2^16:Nat):Int)
   ·rw[decide_eq_true cY,cond_true];exact fin 24 (by omega) (by omega) (by omega)
   ·rw[decide_eq_false cY,cond_false];exact fin 16 (by omega) (by omega) (by omega)
  ·rw[decide_eq_false a_,cond_false]
   by_cases cY:(256:Int)≤x
   ·rw[decide_eq_true cY,cond_true];exact fin 8 (by omega) (by omega) (by omega)
   ·rw[decide_eq_false cY,cond_false]
    have:=fin 0 (by omega) (by simpa using aO) (by simp;omega)
    simpa using this
theorem Va{x:Nat}(aO:0<x)(h1:x<18446744073709551616):∃s,vd (x:Int)=some ((s:Nat):Int)∧s≤63∧9223372036854775808≤x*2^s∧x*2^s<18446744073709551616:=by
 obtain⟨n,bu,bs,b6,cd,cp⟩:=Zc aO h1
 refine⟨64-n, ?_,by omega, ?_, ?_⟩
 ·unfold vd AW
  rw[bu]
  simp only[Option.bind_some]
  rw[IntWalk.i64_in _ (by omega),show(64:Int)-(n:Int)=((64-n:Nat):Int) by omega]
  rfl
 ·have e:(9223372036854775808:Nat)=2^(n-1)*2^(64-n):=by rw[←Nat.pow_add,show n-1+(64-n)=63 by omega]
  rw[e]
  exact Nat.mul_le_mul_right _ cd
 ·have e:(18446744073709551616:Nat)=2^n*2^(64-n):=by rw[←Nat.pow_add,show n+(64-n)=64 by omega]
  rw[e]
  exact Nat.mul_lt_mul_of_pos_right cp (Nat.two_pow_pos _)
end Go.Proofs.YtlphgijokknjhaaGreat
