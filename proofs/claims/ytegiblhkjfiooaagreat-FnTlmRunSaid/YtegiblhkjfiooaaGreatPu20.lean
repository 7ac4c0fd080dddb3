/- Texts laid together by a program: rules, contracts and the walk that leads to the law. -/
import Derived.Test.YtegiblhkjfiooaaGreatPu16
import Derived.Test.YtegiblhkjfiooaaGreatPu19
import Derived.Test.YtegiblhkjfiooaaGreatPu3
import Derived.Test.YtegiblhkjfiooaaGreatPu18
set_option linter.unusedVariables false
set_option linter.unusedSimpArgs false
set_option linter.unusedSectionVars false
section
namespace Go.Proofs.YtegiblhkjfiooaaGreat
open Go Go.AM
set_option maxRecDepth 100000
set_option maxHeartbeats 8000000
section
variable {H : aA} {nx : Nat} {K : D → aA → Nat → Prop}
theorem aX9 {c:Cfg} {s:TSt} (hb:aQ c) (hs:BA c s)
 (h: ∀H' nx' i0 i1 i2 i3 wc hc ac tc wm hm am tm,64≤wc→6≤hc→3≤ac→s.told.length≤tc→tc≤tm→nx≤i2→i2<i1→i1<i0→i0<i3→i3<nx'→H' i0=some ⟨1,wm,s.words.map aJ⟩→H' i1=some ⟨1,hm,s.holds.map aJ⟩→H' i2=some ⟨1,am,s.asked.map aJ⟩→H' i3=some ⟨5,tm,s.told.map aS⟩→(∀id,id<nx→H' id=H id)→
  K (dA (oSt i0 i1 i2 i3 wc hc ac tc s)) H' nx'):aB Tryz.prog aI0 [dA (eSt s)] H nx K:=by
 have hwl:=hs.atm.wl
 have hhl:=hs.atm.hl
 have hal:=hs.JI
 refine aB.tW (aQR (hs.aUG hb) fun H' nx' b0 b1 b2 b3 b4 b5 c0 c1 c2 c3 c4 c5 aUV aUW aIG aII aUX aIH aUY ⟨m0,o0,e0,_⟩ ⟨m1,o1,e1,_⟩ ⟨m2,o2,e2,_⟩ o3 o4 ⟨m5,o5,e5,d5⟩ fr=> ?_)
 refine⟨_,without (fun k=>k=b3∨k=b4) H',fun k=>k=b3∨k=b4,?_,kS,h _ nx' b0 b1 b2 b5 c0 c1 c2 c5 m0 m1 m2 m5 (by omega) (by omega) (by omega) e5 d5 aUV aUW aIG (by omega) aUY (by rw[iI (by omega)];exact o0) (by rw[iI (by omega)];exact o1) (by rw[iI (by omega)];exact o2) (by rw[iI (by omega)];exact o5) fun id hid=>by rw[iI (by omega)];exact fr id hid⟩
 exact lY (aH (aaF (by omega) rfl rfl hwl.symm rfl) (aH (aaF (by omega) rfl rfl hhl.symm rfl) (aH (aaF (by omega) rfl rfl hal.symm rfl) (aH (o3.frz dZ (by simp)) (aH (o4.frz dZ (by simp)) (aH (aaF (by omega) rfl rfl rfl rfl) eP))))))
theorem aXX {c:Cfg} {s:TSt} {i0 i1 i2 i3 wc hc ac tc wm hm am tm:Nat} (hb:aQ c) (hs:BA c s) (h1:64≤wc) (h2:6≤hc) (h3:3≤ac) (h4:s.told.length≤tc) (o0:H i0=some ⟨1,wm,s.words.map aJ⟩) (o1:H i1=some ⟨1,hm,s.holds.map aJ⟩) (o2:H i2=some ⟨1,am,s.asked.map aJ⟩) (o3:H i3=some ⟨5,tm,s.told.map aS⟩)
 (h:K (dA (eSt s)) (without (fun k=>k=i0∨k=i1∨k=i2∨k=i3) H) nx):aB Tryz.prog aI0 [dA (oSt i0 i1 i2 i3 wc hc ac tc s)] H nx K:=by
 have hwl:=hs.atm.wl
 have hhl:=hs.atm.hl
 have hal:=hs.JI
 refine aB.ao4 (args':=[dA (eSt s)]) (without (fun k=>k=i0∨k=i1∨k=i2∨k=i3) H) (fun k=>k=i0∨k=i1∨k=i2∨k=i3) rfl (fun k d0 d h1 h2=> ?_) kS (aLV hb hs hs.ar7 h)
 match k with
 |0=>
  simp only[List.getElem?_cons_zero,Option.some.injEq] at h1 h2
  subst h1;subst h2
  exact lY (aH (bW bF o0 (by omega) (by omega) (by simp)) (aH (bW bF o1 (by omega) (by omega) (by simp)) (aH (bW bF o2 (by omega) (by omega) (by simp)) (aH (bB rfl) (aH (bB rfl) (aH (bW dZ o3 (by omega) (by omega) (by simp)) eP))))))
 |k+1=>simp at h1
theorem aYE {H:aA} {e:Env} {t1 n1 id1 m1 t3:Nat} {cs1:List D1} {d:DV} (he1:e t1= .one (.c (.ptr n1 id1 0 0))) (ho1:H id1=some ⟨n1,m1,[cs1]⟩) (hl1:cs1.length=n1) (he3:e t3= .one d):
 yT H e [.cell t1 n1 true,.tm t3]=some (.tup [.agg cs1,d]):=by
 subst hl1
 simp[yT,VP,he1,he3,tT,ho1,mkV,as1]
theorem aX4:cJ Tryz.prog aXQ Tryz.f48 aXR aXT:=cJ.mk Tryz.func48 (by kernel_rfl) aXW
theorem aX1 {c:Cfg} {s:TSt} {e:Ev} (hb:aQ c) (hcf:jO c) (hs:BA c s)
 (h: ∀H' nx',nx≤nx'→(∀id,id<nx→H' id=H id)→K (.tup [.agg (eSt (if X6 c s e=0 then lS c s e else s)),.c (cB (decide (X6 c s e=0)))]) H' nx'):aB Tryz.prog aXQ [dA (cU c),dA (eSt s),dA (eEv e)] H nx K:=by
 refine aX4 rfl fun Q hQ=> ?_
 unfold aXR
 have e1:=aTX hb hs
 have hM: ∀(d k:Nat) (G:aA),d=nx+9→msk d [k] G nx=G nx∧msk d [k] G (nx+1)=G (nx+1)∧msk d [k] G (nx+2)=G (nx+2):=fun d k G hd=>⟨mk1 (by omega),mk1 (by omega),mk1 (by omega)⟩
 have hM1: ∀(k:Nat) (G:aA),msk (nx+9) [k] G nx=G nx:=fun k G=>mk1 (by omega)
 have hM2: ∀(k:Nat) (G:aA),msk (nx+9) [k] G (nx+1)=G (nx+1):=fun k G=>mk1 (by omega)
 have hM3: ∀(k:Nat) (G:aA),msk (nx+9) [k] G (nx+2)=G (nx+2):=fun k G=>mk1 (by omega)
 repeat' (first| (with_reducible first| (refine hK _ _ _ ?_;clear hK K)| (refine hB ?_;clear hA hB A B)|refine Z1 ?_|refine Z2 ?_)| (first| (with_reducible first|refine Y2 fun K hK=> ?_|refine Y3 fun A B hA hB=> ?_)| (refine aMQ hcf (hs.aUG hb) ?_))<;>(simp only[go_sem,Nat.add_assoc,Nat.left_eq_add,Nat.add_eq_left,e1,hM1,hM2,hM3])|fail)
 refine aX9 hb hs fun H1 nx1 i0 i1 i2 i3 wc hc ac tc wm hm am tm k1 k2 k3 k4 k5 k6 k7 k8 k9 k10 o0 o1 o2 o3 fr=> ?_
 simp only[go_sem]
 generalize aU3:dT (nx+9) [8] _ H1=U
 have aXL:U nx=some ⟨3,1,[cU c]⟩:=by rw[←aU3,um1 (by omega),fr _ (by omega)];exact(by simp only[aA.set,aA.del,Nat.add_assoc,Nat.reduceAdd,Nat.add_left_cancel_iff,Nat.reduceEqDiff,Nat.left_eq_add,Nat.add_eq_left,if_true,if_false];done)
 have aUV:U (nx+2)=some ⟨3,1,[eEv e]⟩:=by rw[←aU3,um1 (by omega),fr _ (by omega)];exact(by simp only[aA.set,aA.del,Nat.add_assoc,Nat.reduceAdd,Nat.add_left_cancel_iff,Nat.reduceEqDiff,Nat.left_eq_add,Nat.add_eq_left,if_true,if_false];done)
 have aUW:U (nx+3)=some ⟨6,1,[[.osl 0 0 0 0 0,.osl 0 0 0 0 0,.osl 0 0 0 0 0,.osl 0 0 0 0 0,.osl 0 0 0 0 0,.osl 0 0 0 0 0]]⟩:=by rw[←aU3,um1 (by omega),fr _ (by omega)];exact(by simp only[aA.set,aA.del,Nat.add_assoc,Nat.reduceAdd,Nat.add_left_cancel_iff,Nat.reduceEqDiff,Nat.left_eq_add,Nat.add_eq_left,if_true,if_false];done)
 have aIG:U (nx+17)=some ⟨6,1,[[.osl 0 0 0 0 0,.osl 0 0 0 0 0,.osl 0 0 0 0 0,.osl 0 0 0 0 0,.osl 0 0 0 0 0,.osl 0 0 0 0 0]]⟩:=by rw[show nx+17=nx+9+8 from rfl,←aU3,aH6];exact aA.bH
 have aII:U i0=some ⟨1,wm,s.words.map aJ⟩:=by rw[←aU3,um1 (by omega)];exact o0
 have aUX:U i1=some ⟨1,hm,s.holds.map aJ⟩:=by rw[←aU3,um1 (by omega)];exact o1
 have aIH:U i2=some ⟨1,am,s.asked.map aJ⟩:=by rw[←aU3,um1 (by omega)];exact o2
 have aUY:U i3=some ⟨5,tm,s.told.map aS⟩:=by rw[←aU3,um1 (by omega)];exact o3
 have uf: ∀id,id<nx→U id=H id:=fun id hid=>by rw[←aU3,um1 (by omega),fr _ (by omega),aA.aC (by omega),aA.aC (by omega),aA.aC (by omega),aA.aC (by omega),mk1 (by omega)]
 clear aU3 o0 o1 o2 o3 fr
 simp only[aXL,aUV]
 refine⟨⟨fun _=>rfl,fun _=>rfl⟩,?_⟩
 have m4:msk (nx+9) [8] U i0=_:=(mk1 (by omega)).trans aII
 have m5:msk (nx+9) [8] U i1=_:=(mk1 (by omega)).trans aUX
 have aHI:msk (nx+9) [8] U i2=_:=(mk1 (by omega)).trans aIH
 have aHJ:msk (nx+9) [8] U i3=_:=(mk1 (by omega)).trans aUY
 refine aO4 hb hs k1 k2 k3 k4 k5 (by omega) (by omega) (by omega) (by omega) (by simp;omega) m4 m5 aHI aHJ (fun hw tc' tm' ht1 ht2=> ?_) (fun hw=> ?_)
 ·generalize hV:aA.set _ nx1 _=V
  simp only[go_sem]
  generalize aYL:dT (nx+9) [8] U V=W
  have hA:bQ nx1 [nx,nx+3,nx+17,i0,i1,i2,i3]:=AM.apart (by simp;omega) (by simp;omega)
  simp only[bQ,eZ] at hA
  have w2:W (nx+3)=some ⟨6,1,[[.osl 0 0 0 0 0,.osl 0 0 0 0 0,.osl 0 0 0 0 0,.osl 0 0 0 0 0,.osl 0 0 0 0 0,.osl 0 0 0 0 0]]⟩:=by rw[←aYL,um1 (by omega),←hV,aA.aC (by omega),aA.jG (by omega),aA.aC (by omega),aA.aC (by omega),aA.aC (by omega),mk1 (by omega)];exact aUW
  have w3:W (nx+17)=some ⟨6,1,[[.osl 0 0 0 0 0,.osl 0 0 0 0 0,.osl 0 0 0 0 0,.osl 0 0 0 0 0,.osl 0 0 0 0 0,.osl 0 0 0 0 0]]⟩:=by rw[show nx+17=nx+9+8 from rfl,←aYL,aH6];exact aIG
  have w4:W i0=some ⟨1,wm,(lS c s e).words.map aJ⟩:=by rw[←aYL,um1 (by omega),←hV];exact(by simp only[aA.set,aA.del,Nat.add_assoc,Nat.reduceAdd,Nat.add_left_cancel_iff,Nat.reduceEqDiff,Nat.left_eq_add,Nat.add_eq_left,if_true,if_false,hA];done)
  have w5:W i1=some ⟨1,hm,(lS c s e).holds.map aJ⟩:=by rw[←aYL,um1 (by omega),←hV];exact(by simp only[aA.set,aA.del,Nat.add_assoc,Nat.reduceAdd,Nat.add_left_cancel_iff,Nat.reduceEqDiff,Nat.left_eq_add,Nat.add_eq_left,if_true,if_false,hA];done)
  have w6:W i2=some ⟨1,am,(lS c s e).asked.map aJ⟩:=by rw[←aYL,um1 (by omega),←hV];exact(by simp only[aA.set,aA.del,Nat.add_assoc,Nat.reduceAdd,Nat.add_left_cancel_iff,Nat.reduceEqDiff,Nat.left_eq_add,Nat.add_eq_left,if_true,if_false,hA];done)
  have aXP:W nx1=some ⟨5,tm',(lS c s e).told.map aS⟩:=by rw[←aYL,um1 (by omega),←hV];exact(by simp only[aA.set,aA.del,Nat.add_assoc,Nat.reduceAdd,Nat.add_left_cancel_iff,Nat.reduceEqDiff,Nat.left_eq_add,Nat.add_eq_left,if_true,if_false,hA];done)
  have wf: ∀id,id<nx→W id=H id:=fun id hid=>by rw[←aYL,um1 (by omega),←hV,aA.aC (by omega),aA.jG (by omega),aA.aC (by omega),aA.aC (by omega),aA.aC (by omega),mk1 (by omega)];exact uf id hid
  clear aYL hV aXL aUV aUW aIG aII aUX aIH aUY uf m4 m5 aHI aHJ
  have hA2:bQ (nx1+1) [nx,nx+3,nx+17,i0,i1,i2,nx1]:=AM.apart (by simp;omega) (by simp;omega)
  simp only[bQ,eZ] at hA2
  (try simp only[go_sem,Nat.add_assoc,Nat.left_eq_add,Nat.add_eq_left,w2,w3,hA,akB]);repeat' (first| (with_reducible first| (refine hK _ _ _ ?_;clear hK K)|refine Z1 ?_)| (with_reducible refine Y2 fun K hK=> ?_)<;>(simp only[go_sem,Nat.add_assoc,Nat.left_eq_add,Nat.add_eq_left,w2,w3,hA,akB])|fail)
  refine aXX (wm:=wm) (hm:=hm) (am:=am) (tm:=tm') hb (G9 hb hs hw) k1 k2 k3 ht1 (by simp only[aA.set,aA.del,Nat.add_assoc,Nat.reduceAdd,Nat.add_left_cancel_iff,Nat.reduceEqDiff,Nat.left_eq_add,Nat.add_eq_left,if_true,if_false,hA2,w4];done) (by simp only[aA.set,aA.del,Nat.add_assoc,Nat.reduceAdd,Nat.add_left_cancel_iff,Nat.reduceEqDiff,Nat.left_eq_add,Nat.add_eq_left,if_true,if_false,hA2,w5];done) (by simp only[aA.set,aA.del,Nat.add_assoc,Nat.reduceAdd,Nat.add_left_cancel_iff,Nat.reduceEqDiff,Nat.left_eq_add,Nat.add_eq_left,if_true,if_false,hA2,w6];done) (by simp only[aA.set,aA.del,Nat.add_assoc,Nat.reduceAdd,Nat.add_left_cancel_iff,Nat.reduceEqDiff,Nat.left_eq_add,Nat.add_eq_left,if_true,if_false,hA2,aXP];done) ?_
  generalize hX:without _ _=X
  have x2:X (nx+3)=some ⟨6,1,[[.osl 0 0 0 0 0,.osl 0 0 0 0 0,.osl 0 0 0 0 0,.osl 0 0 0 0 0,.osl 0 0 0 0 0,.osl 0 0 0 0 0]]⟩:=by rw[←hX,iI (by omega),aA.aC (by omega)];exact w2
  have xf: ∀id,id<nx→X id=H id:=fun id hid=>by rw[←hX,iI (by omega),aA.aC (by omega)];exact wf id hid
  clear hX
  (try simp only[go_sem,Nat.add_assoc,Nat.left_eq_add,Nat.add_eq_left,x2]);repeat' (first| (with_reducible (refine hK _ _ _ ?_;clear hK K))| ((with_reducible refine Y8 ?_);try simp only[AQ.then,AQ.blk,reduceIte,Nat.reduceEqDiff])|fail)
  have hh:=fun H' nx'=>h H' nx'
  rw[if_pos hw,decide_eq_true hw] at hh
  exact hQ _ _ _ _ _ (.inr rfl) (aYE (m1:=1) rfl aA.bH rfl rfl) (hh _ _ (by omega) fun id hid=>by rw[aA.aC (by omega)];exact xf id hid)
 ·generalize hV:aA.set _ i3 _=V
  simp only[go_sem]
  generalize aYL:dT (nx+9) [8] U V=W
  have hA:bQ nx1 [nx,nx+3,nx+17,i0,i1,i2,i3]:=AM.apart (by simp;omega) (by simp;omega)
  simp only[bQ,eZ] at hA
  have w2:W (nx+3)=some ⟨6,1,[[.osl 0 0 0 0 0,.osl 0 0 0 0 0,.osl 0 0 0 0 0,.osl 0 0 0 0 0,.osl 0 0 0 0 0,.osl 0 0 0 0 0]]⟩:=by rw[←aYL,um1 (by omega),←hV,aA.aC (by omega),aA.aC (by omega),aA.aC (by omega),aA.aC (by omega),mk1 (by omega)];exact aUW
  have w3:W (nx+17)=some ⟨6,1,[[.osl 0 0 0 0 0,.osl 0 0 0 0 0,.osl 0 0 0 0 0,.osl 0 0 0 0 0,.osl 0 0 0 0 0,.osl 0 0 0 0 0]]⟩:=by rw[show nx+17=nx+9+8 from rfl,←aYL,aH6];exact aIG
  have w4:W i0=some ⟨1,wm,s.words.map aJ⟩:=by rw[←aYL,um1 (by omega),←hV];exact(by simp only[aA.set,aA.del,Nat.add_assoc,Nat.reduceAdd,Nat.add_left_cancel_iff,Nat.reduceEqDiff,Nat.left_eq_add,Nat.add_eq_left,if_true,if_false,hA];done)
  have w5:W i1=some ⟨1,hm,s.holds.map aJ⟩:=by rw[←aYL,um1 (by omega),←hV];exact(by simp only[aA.set,aA.del,Nat.add_assoc,Nat.reduceAdd,Nat.add_left_cancel_iff,Nat.reduceEqDiff,Nat.left_eq_add,Nat.add_eq_left,if_true,if_false,hA];done)
  have w6:W i2=some ⟨1,am,s.asked.map aJ⟩:=by rw[←aYL,um1 (by omega),←hV];exact(by simp only[aA.set,aA.del,Nat.add_assoc,Nat.reduceAdd,Nat.add_left_cancel_iff,Nat.reduceEqDiff,Nat.left_eq_add,Nat.add_eq_left,if_true,if_false,hA];done)
  have aXP:W i3=some ⟨5,tm,s.told.map aS⟩:=by rw[←aYL,um1 (by omega),←hV];exact(by simp only[aA.set,aA.del,Nat.add_assoc,Nat.reduceAdd,Nat.add_left_cancel_iff,Nat.reduceEqDiff,Nat.left_eq_add,Nat.add_eq_left,if_true,if_false,hA];done)
  have wf: ∀id,id<nx→W id=H id:=fun id hid=>by rw[←aYL,um1 (by omega),←hV,aA.aC (by omega),aA.aC (by omega),aA.aC (by omega),aA.aC (by omega),mk1 (by omega)];exact uf id hid
  clear aYL hV aXL aUV aUW aIG aII aUX aIH aUY uf m4 m5 aHI aHJ
  have hA2:bQ (nx1) [nx,nx+3,nx+17,i0,i1,i2,i3]:=AM.apart (by simp;omega) (by simp;omega)
  simp only[bQ,eZ] at hA2
  (try simp only[go_sem,Nat.add_assoc,Nat.left_eq_add,Nat.add_eq_left,w2,w3,hA,akB]);repeat' (first| (with_reducible first| (refine hK _ _ _ ?_;clear hK K)|refine Z1 ?_)| (with_reducible refine Y2 fun K hK=> ?_)<;>(simp only[go_sem,Nat.add_assoc,Nat.left_eq_add,Nat.add_eq_left,w2,w3,hA,akB])|fail)
  refine aXX (wm:=wm) (hm:=hm) (am:=am) (tm:=tm) hb hs k1 k2 k3 k4 (by simp only[aA.set,aA.del,Nat.add_assoc,Nat.reduceAdd,Nat.add_left_cancel_iff,Nat.reduceEqDiff,Nat.left_eq_add,Nat.add_eq_left,if_true,if_false,hA2,w4];done) (by simp only[aA.set,aA.del,Nat.add_assoc,Nat.reduceAdd,Nat.add_left_cancel_iff,Nat.reduceEqDiff,Nat.left_eq_add,Nat.add_eq_left,if_true,if_false,hA2,w5];done) (by simp only[aA.set,aA.del,Nat.add_assoc,Nat.reduceAdd,Nat.add_left_cancel_iff,Nat.reduceEqDiff,Nat.left_eq_add,Nat.add_eq_left,if_true,if_false,hA2,w6];done) (by simp only[aA.set,aA.del,Nat.add_assoc,Nat.reduceAdd,Nat.add_left_cancel_iff,Nat.reduceEqDiff,Nat.left_eq_add,Nat.add_eq_left,if_true,if_false,hA2,aXP];done) ?_
  generalize hX:without _ _=X
  have x2:X (nx+3)=some ⟨6,1,[[.osl 0 0 0 0 0,.osl 0 0 0 0 0,.osl 0 0 0 0 0,.osl 0 0 0 0 0,.osl 0 0 0 0 0,.osl 0 0 0 0 0]]⟩:=by rw[←hX,iI (by omega),aA.aC (by omega)];exact w2
  have xf: ∀id,id<nx→X id=H id:=fun id hid=>by rw[←hX,iI (by omega),aA.aC (by omega)];exact wf id hid
  clear hX
  (try simp only[go_sem,Nat.add_assoc,Nat.left_eq_add,Nat.add_eq_left,x2]);repeat' (first| (with_reducible (refine hK _ _ _ ?_;clear hK K))| ((with_reducible refine Y8 ?_);try simp only[AQ.then,AQ.blk,reduceIte,Nat.reduceEqDiff])|fail)
  have hh:=fun H' nx'=>h H' nx'
  rw[if_neg hw,decide_eq_false hw] at hh
  exact hQ _ _ _ _ _ (.inr rfl) (aYE (m1:=1) rfl aA.bH rfl rfl) (hh _ _ (by omega) fun id hid=>by rw[aA.aC (by omega)];exact xf id hid)
theorem aZD (c:Cfg) (s:TSt) (es:List Ev) (hcf:jO c) (hf:aTQ s) (hl:es.length<2^40) (hno: ¬((aQ c∧BA c s)∧es.length≤200)):aB Tryz.prog aYN [dA (cU c),dA (eSt s),dS (es.map eEv)] .nil 0 fun rr _ nn=>nn=0∧rr.imm=true∧rr= .tup [.agg (eSt stN),.c (cI (-1))]:=by
 refine aZC rfl fun Q hQ=> ?_
 unfold aYO
 by_cases hb:aQ c∧BA c s
 ·have e1:=aTX hb.1 hb.2
  have h2: ¬es.length≤200:=fun h=>hno ⟨hb,h⟩
  repeat' (first| (with_reducible first| (refine hK _ _ _ ?_;clear hK K)| (refine hA ?_;clear hA hB A B)|refine Z1 ?_|refine Z4 (by omega) ?_)| (first| (with_reducible first|refine Y2 fun K hK=> ?_|refine Y3 fun A B hA hB=> ?_)| (refine aMQ hcf hf ?_))<;>(simp only[go_sem,e1])| ((with_reducible refine Y8 ?_);try simp only[AQ.then,AQ.blk,reduceIte,Nat.reduceEqDiff])|fail)
  all_goals first| (exfalso;omega)|exact V4 hQ (.tup [.agg (eSt stN),.c (cI (-1))]) _ rfl (ay7 (ayY (aH xG (aH xG (aH xG (aH xG (aH xG (aH xG eP))))))) (azN (bB rfl))) rfl rfl
 ·have e1:=aOH hb
  repeat' (first| (with_reducible first| (refine hK _ _ _ ?_;clear hK K)| (refine hA ?_;clear hA hB A B)|refine Z1 ?_)| (first| (with_reducible first|refine Y2 fun K hK=> ?_|refine Y3 fun A B hA hB=> ?_)| (refine aMQ hcf hf ?_))<;>(simp only[go_sem,e1])| ((with_reducible refine Y8 ?_);try simp only[AQ.then,AQ.blk,reduceIte,Nat.reduceEqDiff])|fail)
  exact V4 hQ (.tup [.agg (eSt stN),.c (cI (-1))]) _ rfl (ay7 (ayY (aH xG (aH xG (aH xG (aH xG (aH xG (aH xG eP))))))) (azN (bB rfl))) rfl rfl
theorem aY8 {c:Cfg} {s:TSt} {es:List Ev} (hcf:jO c) (hf:aTQ s) (hl:es.length<2^40) (hno: ¬((aQ c∧BA c s)∧es.length≤200)) (h:K (.tup [.agg (eSt stN),.c (cI (-1))]) H nx):aB Tryz.prog aYN [dA (cU c),dA (eSt s),dS (es.map eEv)] H nx K:=
 (aZD c s es hcf hf hl hno).fresh rfl (fun r hr=>hr▸h)
theorem aZB:cJ Tryz.prog aYN Tryz.f54 aYO aYT:=cJ.mk Tryz.func54 (by kernel_rfl) aYW
theorem aY5 {c:Cfg} {s:TSt} {es:List Ev} (hb:aQ c) (hcf:jO c) (hs:BA c s) (hlen:es.length≤200)
 (h: ∀H' nx',nx≤nx'→(∀id,id<nx→H' id=H id)→K (.tup [.agg (eSt (runM c s (es.take (b9 c s es)))),.c (cI (b9 c s es))]) H' nx'):aB Tryz.prog aYN [dA (cU c),dA (eSt s),dS (es.map eEv)] H nx K:=by
 refine aZB rfl fun Q hQ=> ?_
 unfold aYO
 have e1:=aTX hb hs
 have hsf:=hs.aUG hb
 have hSok:=fun k (hk:k≤b9 c s es)=>aPL hb hs hk
 have hSw:=fun k (hk:k<b9 c s es)=>aS0 hk
 have hSb:=aN8 (c:=c) (s:=s) (l:=es)
 have hle:=aNZ (c:=c) (s:=s) (l:=es)
 have hS0:runM c s (es.take 0)=s:=rfl
 generalize b9 c s es=n at*
 have hSt:=fun k (hk:k<es.length)=>av6 (c:=c) (s:=s) hk
 repeat' (first| (with_reducible first| (refine hK _ _ _ ?_;clear hK K)| (refine hB ?_;clear hA hB A B)|refine Z1 ?_|refine Z2 ?_|refine Z3 fun KB hKB=> ?_|refine Z5 (by omega) ?_)| (first| (with_reducible first|refine Y2 fun K hK=> ?_|refine Y3 fun A B hA hB=> ?_)| (refine aMQ hcf hsf ?_)| (refine aX9 hb hs (fun H1 nx1 i0 i1 i2 i3 wc hc ac tc wm hm am tm k1 k2 k3 k4 k5 k6 k7 k8 k9 k10 o0 o1 o2 o3 fr=> ?_)))<;>(simp only[go_sem,Nat.add_assoc,Nat.left_eq_add,Nat.add_eq_left,e1])|fail)
 (have hKX:=hKB;clear hKB)
 obtain⟨S,hS⟩: ∃S:Nat→TSt,S=fun k=>runM c s (es.take k):=⟨_,rfl⟩
 have hSe: ∀k,runM c s (es.take k)=S k:=fun k=>by rw[hS]
 simp only[hSe] at*
 clear hS hSe
 refine aM.aTJ fun G0 hG0=> ?_
 have hA0:bQ nx1 [nx,nx+2,nx+15,i0,i1,i2,i3]:=AM.apart (by simp;omega) (by simp;omega)
 simp only[bQ,eZ] at hA0
 have q0:G0 nx=some ⟨3,1,[cU c]⟩:=by rw[hG0,aA.aC (by omega),fr _ (by omega)];exact(by simp only[aA.set,aA.del,Nat.add_assoc,Nat.reduceAdd,Nat.add_left_cancel_iff,Nat.reduceEqDiff,Nat.left_eq_add,Nat.add_eq_left,if_true,if_false];done)
 have q1:G0 (nx+2)=some ⟨6,1,[[.osl 0 0 0 0 0,.osl 0 0 0 0 0,.osl 0 0 0 0 0,.osl 0 0 0 0 0,.osl 0 0 0 0 0,.osl 0 0 0 0 0]]⟩:=by rw[hG0,aA.aC (by omega),fr _ (by omega)];exact(by simp only[aA.set,aA.del,Nat.add_assoc,Nat.reduceAdd,Nat.add_left_cancel_iff,Nat.reduceEqDiff,Nat.left_eq_add,Nat.add_eq_left,if_true,if_false];done)
 have q2:G0 (nx+15)=some ⟨6,1,[oSt i0 i1 i2 i3 wc hc ac tc (S 0)]⟩:=by rw[hG0,hS0];exact(by simp only[aA.set,aA.del,Nat.add_assoc,Nat.reduceAdd,Nat.add_left_cancel_iff,Nat.reduceEqDiff,Nat.left_eq_add,Nat.add_eq_left,if_true,if_false];done)
 have q3:G0 i0=some ⟨1,wm,(S 0).words.map aJ⟩:=by rw[hG0,hS0,aA.aC (by omega)];exact o0
 have q4:G0 i1=some ⟨1,hm,(S 0).holds.map aJ⟩:=by rw[hG0,hS0,aA.aC (by omega)];exact o1
 have q5:G0 i2=some ⟨1,am,(S 0).asked.map aJ⟩:=by rw[hG0,hS0,aA.aC (by omega)];exact o2
 have q6:G0 i3=some ⟨5,tm,(S 0).told.map aS⟩:=by rw[hG0,hS0,aA.aC (by omega)];exact o3
 have qf: ∀id,id<nx→G0 id=H id:=fun id hid=>by rw[hG0,aA.aC (by omega),fr _ (by omega),aA.aC (by omega),aA.aC (by omega),aA.aC (by omega)]
 clear hG0 o0 o1 o2 o3 fr
 rw[←hS0] at k4
 refine aM.gP (β:=Nat×Nat×Nat×Nat) (fun u=>en [(9,dI u.1),(8,dP 6 (nx+15)),(6,dP 6 (nx+2)),(3,dP 3 nx),(2,dS (es.map eEv))])
  (fun u H1 n1=>u.1≤n∧(H1 nx=some ⟨3,1,[cU c]⟩∧H1 (nx+2)=some ⟨6,1,[[.osl 0 0 0 0 0,.osl 0 0 0 0 0,.osl 0 0 0 0 0,.osl 0 0 0 0 0,.osl 0 0 0 0 0,.osl 0 0 0 0 0]]⟩∧H1 (nx+15)=some ⟨6,1,[oSt i0 i1 i2 u.2.1 wc hc ac u.2.2.1 (S u.1)]⟩∧H1 i0=some ⟨1,wm,(S u.1).words.map aJ⟩∧H1 i1=some ⟨1,hm,(S u.1).holds.map aJ⟩∧H1 i2=some ⟨1,am,(S u.1).asked.map aJ⟩∧H1 u.2.1=some ⟨5,u.2.2.2,(S u.1).told.map aS⟩)∧((S u.1).told.length≤u.2.2.1∧u.2.2.1≤u.2.2.2∧i0<u.2.1∧u.2.1<n1)∧ ∀id,id<nx→H1 id=H id) (fun u=>es.length-u.1) (0,i3,tc,tm)
  ⟨noF,_,by repeat' (first| (with_reducible first|exact C1|refine C2 ?_ ?_)| ((with_reducible refine C0 ?_);exact CE (by omega) rfl)| ((with_reducible refine D0 ?_);first|exact CA rfl|refine CJ ?_)|fail),aK,Nat.zero_le _,⟨q0,q1,q2,q3,q4,q5,q6⟩,⟨k4,k5,k9,by dsimp only;omega⟩,qf⟩ ?_
 clear q0 q1 q2 q3 q4 q5 q6 qf k4 k5 hA0
 rintro⟨k,b,tc,tm⟩ H2 nx2 hnx2 ⟨hk,⟨q0,q1,q2,q3,q4,q5,q6⟩,⟨k4,k5,f1,f2⟩,qf⟩ KL hKL
 dsimp only at hk q2 q3 q4 q5 q6 k4 k5 f1 f2
 have hok:=hSok k hk
 have hA:bQ nx2 [nx,nx+2,nx+15,i0,i1,i2,b]:=AM.apart (by simp;omega) (by simp;omega)
 simp only[bQ,eZ] at hA
 have hM1: ∀(d k:Nat) (G:aA),msk (nx2+d) [k] G nx=G nx:=fun d k G=>mk1 (by omega)
 have hM2: ∀(d k:Nat) (G:aA),msk (nx2+d) [k] G (nx+15)=G (nx+15):=fun d k G=>mk1 (by omega)
 by_cases hkl:k<es.length
 ·have hstep:=hSt k hkl
  repeat' (first| (with_reducible first| (refine hK _ _ _ ?_;clear hK K)| (refine hA ?_;clear hA hB A B)|refine Z1 ?_|refine Z2 ?_|refine Z3 fun KB hKB=> ?_|refine Z4 (by omega) ?_)| (with_reducible first|refine Y2 fun K hK=> ?_|refine Y3 fun A B hA hB=> ?_)<;>(simp only[go_sem,Nat.add_assoc,Nat.left_eq_add,Nat.add_eq_left,q0,q1,q2,hA,hM1,hM2,akB])|refine⟨by omega,?_⟩|fail)
  have m4:msk (nx2+4) [10] H2 i0=_:=(mk1 (by omega)).trans q3
  have m5:msk (nx2+4) [10] H2 i1=_:=(mk1 (by omega)).trans q4
  have aHI:msk (nx2+4) [10] H2 i2=_:=(mk1 (by omega)).trans q5
  have aHJ:msk (nx2+4) [10] H2 b=_:=(mk1 (by omega)).trans q6
  refine aO4 hb hok k1 k2 k3 k4 k5 (by omega) (by omega) (by omega) (by omega) (by simp;omega) m4 m5 aHI aHJ (fun hw tc' tm' ht1 ht2=> ?_) (fun hw=> ?_)
  ·generalize hV:aA.set _ (nx2+17) _=V
   simp only[go_sem]
   generalize aYL:dT (nx2+4) [10] _ V=W
   have w0:W nx=some ⟨3,1,[cU c]⟩:=by rw[←aYL,um1 (by omega),←hV,aA.aC (by omega),aA.jG (by omega),aA.aC (by omega),aA.aC (by omega),aA.aC (by omega),mk1 (by omega)];exact q0
   have w1:W (nx+2)=some ⟨6,1,[[.osl 0 0 0 0 0,.osl 0 0 0 0 0,.osl 0 0 0 0 0,.osl 0 0 0 0 0,.osl 0 0 0 0 0,.osl 0 0 0 0 0]]⟩:=by rw[←aYL,um1 (by omega),←hV,aA.aC (by omega),aA.jG (by omega),aA.aC (by omega),aA.aC (by omega),aA.aC (by omega),mk1 (by omega)];exact q1
   have w2:W (nx+15)=some ⟨6,1,[oSt i0 i1 i2 b wc hc ac tc (S k)]⟩:=by rw[←aYL,um1 (by omega),←hV,aA.aC (by omega),aA.jG (by omega),aA.aC (by omega),aA.aC (by omega),aA.aC (by omega),mk1 (by omega)];exact q2
   have w3:W (nx2+14)=some ⟨6,1,[[.osl 0 0 0 0 0,.osl 0 0 0 0 0,.osl 0 0 0 0 0,.osl 0 0 0 0 0,.osl 0 0 0 0 0,.osl 0 0 0 0 0]]⟩:=by rw[show nx2+14=nx2+4+10 from rfl,←aYL,aH6];exact aA.bH
   have w4:W i0=some ⟨1,wm,(lS c (S k) (es.getD k default)).words.map aJ⟩:=by rw[←aYL,um1 (by omega),←hV];exact(by simp only[aA.set,aA.del,Nat.add_assoc,Nat.reduceAdd,Nat.add_left_cancel_iff,Nat.reduceEqDiff,Nat.left_eq_add,Nat.add_eq_left,if_true,if_false,hA];done)
   have w5:W i1=some ⟨1,hm,(lS c (S k) (es.getD k default)).holds.map aJ⟩:=by rw[←aYL,um1 (by omega),←hV];exact(by simp only[aA.set,aA.del,Nat.add_assoc,Nat.reduceAdd,Nat.add_left_cancel_iff,Nat.reduceEqDiff,Nat.left_eq_add,Nat.add_eq_left,if_true,if_false,hA];done)
   have w6:W i2=some ⟨1,am,(lS c (S k) (es.getD k default)).asked.map aJ⟩:=by rw[←aYL,um1 (by omega),←hV];exact(by simp only[aA.set,aA.del,Nat.add_assoc,Nat.reduceAdd,Nat.add_left_cancel_iff,Nat.reduceEqDiff,Nat.left_eq_add,Nat.add_eq_left,if_true,if_false,hA];done)
   have aXP:W (nx2+17)=some ⟨5,tm',(lS c (S k) (es.getD k default)).told.map aS⟩:=by rw[←aYL,um1 (by omega),←hV];exact(by simp only[aA.set,aA.del,Nat.add_assoc,Nat.reduceAdd,Nat.add_left_cancel_iff,Nat.reduceEqDiff,Nat.left_eq_add,Nat.add_eq_left,if_true,if_false,hA];done)
   have wf: ∀id,id<nx→W id=H id:=fun id hid=>by rw[←aYL,um1 (by omega),←hV,aA.aC (by omega),aA.jG (by omega),aA.aC (by omega),aA.aC (by omega),aA.aC (by omega),mk1 (by omega)];exact qf id hid
   clear aYL hV q0 q1 q2 q3 q4 q5 q6 qf
   (try simp only[go_sem,Nat.add_assoc,Nat.left_eq_add,Nat.add_eq_left,w0,w1,w2,w3,hA,akB]);repeat' (first| (with_reducible first| (refine hK _ _ _ ?_;clear hK K)| (refine hB ?_;clear hA hB A B)|refine Z1 ?_|refine Z2 ?_)| (with_reducible first|refine Y2 fun K hK=> ?_|refine Y3 fun A B hA hB=> ?_)<;>(simp only[go_sem,Nat.add_assoc,Nat.left_eq_add,Nat.add_eq_left,w0,w1,w2,w3,hA,akB];try simp (disch:=omega) only[Iw])| ((with_reducible refine Y0 ?_);simp only[AQ.then,AQ.blk])| (with_reducible refine hKB _ _ _ ?_)|fail)
   have hkn:k<n:=Classical.byContradiction fun hc=>by
    obtain rfl:k=n:=by omega
    exact hSb hkl hw
   exact hKL _ _ _ (k+1,nx2+17,tc',tm') noF _ (by omega) (by dsimp only;omega) (by dsimp only;repeat' (first| (with_reducible first|exact C1|refine C2 ?_ ?_)| ((with_reducible refine C0 ?_);exact CE (by omega) rfl)| ((with_reducible refine D0 ?_);first|exact CA rfl|refine CJ ?_)|fail)) aK ⟨hkn,⟨(by simp only[aA.set,aA.del,Nat.add_assoc,Nat.reduceAdd,Nat.add_left_cancel_iff,Nat.reduceEqDiff,Nat.left_eq_add,Nat.add_eq_left,if_true,if_false,hA,w0];done),(by simp only[aA.set,aA.del,Nat.add_assoc,Nat.reduceAdd,Nat.add_left_cancel_iff,Nat.reduceEqDiff,Nat.left_eq_add,Nat.add_eq_left,if_true,if_false,hA,w1];done),by dsimp only;rw[hstep];exact(by simp only[aA.set,aA.del,Nat.add_assoc,Nat.reduceAdd,Nat.add_left_cancel_iff,Nat.reduceEqDiff,Nat.left_eq_add,Nat.add_eq_left,if_true,if_false,hA];done),by dsimp only;rw[hstep];exact(by simp only[aA.set,aA.del,Nat.add_assoc,Nat.reduceAdd,Nat.add_left_cancel_iff,Nat.reduceEqDiff,Nat.left_eq_add,Nat.add_eq_left,if_true,if_false,hA,w4];done),by dsimp only;rw[hstep];exact(by simp only[aA.set,aA.del,Nat.add_assoc,Nat.reduceAdd,Nat.add_left_cancel_iff,Nat.reduceEqDiff,Nat.left_eq_add,Nat.add_eq_left,if_true,if_false,hA,w5];done),by dsimp only;rw[hstep];exact(by simp only[aA.set,aA.del,Nat.add_assoc,Nat.reduceAdd,Nat.add_left_cancel_iff,Nat.reduceEqDiff,Nat.left_eq_add,Nat.add_eq_left,if_true,if_false,hA,w6];done),by dsimp only;rw[hstep];exact(by simp only[aA.set,aA.del,Nat.add_assoc,Nat.reduceAdd,Nat.add_left_cancel_iff,Nat.reduceEqDiff,Nat.left_eq_add,Nat.add_eq_left,if_true,if_false,hA,aXP];done)⟩,⟨by dsimp only;rw[hstep];exact ht1,ht2,by dsimp only;omega,by dsimp only;omega⟩,fun id hid=>by rw[aA.aC (by omega),aA.aC (by omega)];exact wf id hid⟩
  ·generalize hV:aA.set _ b _=V
   simp only[go_sem]
   generalize aYL:dT (nx2+4) [10] _ V=W
   have w0:W nx=some ⟨3,1,[cU c]⟩:=by rw[←aYL,um1 (by omega),←hV,aA.aC (by omega),aA.aC (by omega),aA.aC (by omega),aA.aC (by omega),mk1 (by omega)];exact q0
   have w1:W (nx+2)=some ⟨6,1,[[.osl 0 0 0 0 0,.osl 0 0 0 0 0,.osl 0 0 0 0 0,.osl 0 0 0 0 0,.osl 0 0 0 0 0,.osl 0 0 0 0 0]]⟩:=by rw[←aYL,um1 (by omega),←hV,aA.aC (by omega),aA.aC (by omega),aA.aC (by omega),aA.aC (by omega),mk1 (by omega)];exact q1
   have w2:W (nx+15)=some ⟨6,1,[oSt i0 i1 i2 b wc hc ac tc (S k)]⟩:=by rw[←aYL,um1 (by omega),←hV,aA.aC (by omega),aA.aC (by omega),aA.aC (by omega),aA.aC (by omega),mk1 (by omega)];exact q2
   have w3:W (nx2+14)=some ⟨6,1,[[.osl 0 0 0 0 0,.osl 0 0 0 0 0,.osl 0 0 0 0 0,.osl 0 0 0 0 0,.osl 0 0 0 0 0,.osl 0 0 0 0 0]]⟩:=by rw[show nx2+14=nx2+4+10 from rfl,←aYL,aH6];exact aA.bH
   have w4:W i0=some ⟨1,wm,(S k).words.map aJ⟩:=by rw[←aYL,um1 (by omega),←hV];exact(by simp only[aA.set,aA.del,Nat.add_assoc,Nat.reduceAdd,Nat.add_left_cancel_iff,Nat.reduceEqDiff,Nat.left_eq_add,Nat.add_eq_left,if_true,if_false,hA];done)
   have w5:W i1=some ⟨1,hm,(S k).holds.map aJ⟩:=by rw[←aYL,um1 (by omega),←hV];exact(by simp only[aA.set,aA.del,Nat.add_assoc,Nat.reduceAdd,Nat.add_left_cancel_iff,Nat.reduceEqDiff,Nat.left_eq_add,Nat.add_eq_left,if_true,if_false,hA];done)
   have w6:W i2=some ⟨1,am,(S k).asked.map aJ⟩:=by rw[←aYL,um1 (by omega),←hV];exact(by simp only[aA.set,aA.del,Nat.add_assoc,Nat.reduceAdd,Nat.add_left_cancel_iff,Nat.reduceEqDiff,Nat.left_eq_add,Nat.add_eq_left,if_true,if_false,hA];done)
   have aXP:W b=some ⟨5,tm,(S k).told.map aS⟩:=by rw[←aYL,um1 (by omega),←hV];exact(by simp only[aA.set,aA.del,Nat.add_assoc,Nat.reduceAdd,Nat.add_left_cancel_iff,Nat.reduceEqDiff,Nat.left_eq_add,Nat.add_eq_left,if_true,if_false,hA];done)
   have wf: ∀id,id<nx→W id=H id:=fun id hid=>by rw[←aYL,um1 (by omega),←hV,aA.aC (by omega),aA.aC (by omega),aA.aC (by omega),aA.aC (by omega),mk1 (by omega)];exact qf id hid
   clear aYL hV q0 q1 q2 q3 q4 q5 q6 qf
   (try simp only[go_sem,Nat.add_assoc,Nat.left_eq_add,Nat.add_eq_left,w0,w1,w2,w3,hA,akB]);repeat' (first| (with_reducible first| (refine hK _ _ _ ?_;clear hK K)| (refine hA ?_;clear hA hB A B)|refine Z1 ?_)| (with_reducible first|refine Y2 fun K hK=> ?_|refine Y3 fun A B hA hB=> ?_)<;>(simp only[go_sem,Nat.add_assoc,Nat.left_eq_add,Nat.add_eq_left,w0,w1,w2,w3,hA,akB])|fail)
   obtain rfl:k=n:=Classical.byContradiction fun hc=>hw (hSw k (by omega))
   refine aXX (wm:=wm) (hm:=hm) (am:=am) (tm:=tm) hb hok k1 k2 k3 k4 (by simp only[aA.set,aA.del,Nat.add_assoc,Nat.reduceAdd,Nat.add_left_cancel_iff,Nat.reduceEqDiff,Nat.left_eq_add,Nat.add_eq_left,if_true,if_false,hA,w4];done) (by simp only[aA.set,aA.del,Nat.add_assoc,Nat.reduceAdd,Nat.add_left_cancel_iff,Nat.reduceEqDiff,Nat.left_eq_add,Nat.add_eq_left,if_true,if_false,hA,w5];done) (by simp only[aA.set,aA.del,Nat.add_assoc,Nat.reduceAdd,Nat.add_left_cancel_iff,Nat.reduceEqDiff,Nat.left_eq_add,Nat.add_eq_left,if_true,if_false,hA,w6];done) (by simp only[aA.set,aA.del,Nat.add_assoc,Nat.reduceAdd,Nat.add_left_cancel_iff,Nat.reduceEqDiff,Nat.left_eq_add,Nat.add_eq_left,if_true,if_false,hA,aXP];done) ?_
   generalize hX:without _ _=X
   have x2:X (nx+2)=some ⟨6,1,[[.osl 0 0 0 0 0,.osl 0 0 0 0 0,.osl 0 0 0 0 0,.osl 0 0 0 0 0,.osl 0 0 0 0 0,.osl 0 0 0 0 0]]⟩:=by rw[←hX,iI (by omega),aA.aC (by omega)];exact w1
   have xf: ∀id,id<nx→X id=H id:=fun id hid=>by rw[←hX,iI (by omega),aA.aC (by omega)];exact wf id hid
   clear hX
   (try simp only[go_sem,Nat.add_assoc,Nat.left_eq_add,Nat.add_eq_left,x2]);repeat' (first| (with_reducible (refine hK _ _ _ ?_;clear hK K))| ((with_reducible refine Y8 ?_);try simp only[AQ.then,AQ.blk,reduceIte,Nat.reduceEqDiff])|fail)
   exact hQ _ _ _ _ _ (.inr rfl) (aYE (m1:=1) rfl aA.bH rfl rfl) (h _ _ (by omega) fun id hid=>by rw[aA.aC (by omega)];exact xf id hid)
 ·obtain rfl:n=es.length:=by omega
  obtain rfl:k=es.length:=by omega
  repeat' (first| (with_reducible first| (refine hK _ _ _ ?_;clear hK K)| (refine hB ?_;clear hA hB A B)|refine Z1 ?_|refine Z5 (by omega) ?_|refine hKX _ _ _ ?_)| (with_reducible first|refine Y2 fun K hK=> ?_|refine Y3 fun A B hA hB=> ?_)<;>(simp only[go_sem,Nat.add_assoc,Nat.left_eq_add,Nat.add_eq_left,q0,q1,q2,hA,akB])| ((with_reducible refine Y9 ?_);try simp only[AQ.then,AQ.blk,reduceIte,Nat.reduceEqDiff])|fail)
  refine aXX hb hok k1 k2 k3 k4 q3 q4 q5 q6 ?_
  generalize hX:without _ _=X
  have x2:X (nx+2)=some ⟨6,1,[[.osl 0 0 0 0 0,.osl 0 0 0 0 0,.osl 0 0 0 0 0,.osl 0 0 0 0 0,.osl 0 0 0 0 0,.osl 0 0 0 0 0]]⟩:=by rw[←hX,iI (by omega)];exact q1
  have xf: ∀id,id<nx→X id=H id:=fun id hid=>by rw[←hX,iI (by omega)];exact qf id hid
  clear hX
  (try simp only[go_sem,Nat.add_assoc,Nat.left_eq_add,Nat.add_eq_left,x2]);repeat' (first| (with_reducible (refine hK _ _ _ ?_;clear hK K))| ((with_reducible refine Y8 ?_);try simp only[AQ.then,AQ.blk,reduceIte,Nat.reduceEqDiff])|fail)
  exact hQ _ _ _ _ _ (.inr rfl) (aYE (m1:=1) rfl aA.bH rfl rfl) (h _ _ (by omega) fun id hid=>by rw[aA.aC (by omega)];exact xf id hid)
end
end Go.Proofs.YtegiblhkjfiooaaGreat
end
section
namespace Go.Proofs.YtegiblhkjfiooaaGreat
open Go Go.AM
set_option maxRecDepth 100000
def aYP:AC:=
 (.seq (.region [rq 0 2 (.alloc [OZ,OZ,OZ]),
 rq 1 3 (.alloc [OZ,OZ,OZ,OZ,OZ,OZ]),
 rq 2 4 (.move (.kv (.slice none 0 0)))] 3 [0,2,3])
 (.seq (.region [RM 0 10 0,
 rq 1 11 (.call kN [(.tm 10)]),
 RM 2 5 11] 3 [2,3,5])
 (.seq (.region [RM 0 13 5,
 rq 1 14 (.call aNG [(.tm 13),(ki 70)]),
 RM 2 12 14,
 rq 3 15 (.ext (.tm 12) 0),
 rq 4 16 (.ext (.tm 12) 1),
 rq 5 17 (.ext (.tm 12) 2),
 rq 6 6 (.alloc [OZ,OZ,OZ]),
 rq 7 7 (.alloc [OZ,OZ,OZ,OZ,OZ,OZ]),
 rn 8 (.store 3 true (.tm 6) (.tm 15)),
 rn 9 (.store 6 true (.tm 7) (.tm 16)),
 RM 10 8 17] 11 [2,3,5,6,7,8])
 (.seq (.seq (.region [RM 0 18 5,
 rq 1 19 (.call aD [(.tm 18),(ki 4)]),
 rq 2 20 (.bin .gtr (.tm 19) (ki 0))] 3 [2,3,5,6,7,8,20])
 (.cond (.tm 20)
 (.region [rq 0 21 (.call c7 []),
 rn 1 (.store 6 true (.tm 7) (.tm 21))] 2 [2,3,5,6,7,8])
 .skip))
 (.seq (.seq (.region [RM 0 22 5,
 rq 1 23 (.call kE [(.tm 22),(ki 4)]),
 RM 2 24 23,
 GQ 3 25 (.move (.tm 8)) 24 true,
 GQ 4 26 (.len false (.tm 25)) 24 true,
 GQ 5 27 (.bin .gtr (.tm 26) (ki 0)) 24 true,
 rq 6 28 (.pick (.tm 24) (.tm 27) (.kv (.bool false)))] 7 [2,3,5,6,7,8,28])
 (.cond (.tm 28)
 (.seq (.region [RM 0 29 5,
 RM 1 30 8,
 rq 2 31 (.len false (.tm 30)),
 rq 3 32 (.call aD [(.tm 29),(.tm 31)]),
 RM 4 9 32] 5 [2,3,5,6,7,8,9])
 (.region [RM 0 33 8,
 RM 1 34 9,
 RM 2 35 5,
 rq 3 36 (.call aD [(.tm 35),(ki 3)]),
 rq 4 37 (.bin .add (ki 1) (.tm 36)),
 RM 5 38 5,
 rq 6 39 (.call aD [(.tm 38),(ki 3)]),
 RM 7 40 5,
 rq 8 41 (.call aD [(.tm 40),(ki 4)]),
 rq 9 42 (.build [VZ,VZ,VZ] [(0,1,(.tm 37)),(1,1,(.tm 39)),(2,1,(.tm 41))]),
 rq 10 43 (.idx 3 (.tm 33) (.tm 34)),
 rn 11 (.store 3 true (.tm 43) (.tm 42))] 12 [2,3,5,6,7,8]))
 .skip))
 (.seq (.seq (.region [RM 0 44 5,
 rq 1 45 (.call kE [(.tm 44),(ki 30)])] 2 [2,3,5,6,7,8,45])
 (.cond (.tm 45)
 (.block 0
 (.loop
 (.seq (.seq (.region [RM 0 46 8,
 rq 1 47 (.len false (.tm 46)),
 rq 2 48 (.bin .leq (.tm 47) (ki 200))] 3 [2,3,5,6,7,8,48])
 (.cond (.tm 48)
 .skip
 (.exit 0)))
 (.block 1
 (.region [RM 0 49 8,
 rq 1 50 (.build [VZ,VZ,VZ] [(0,1,(ki 1))]),
 rq 2 51 (.bC 3 1 [VZ,VZ,VZ] [(0,3,(.tm 50))]),
 rq 3 52 (.append 3 (.tm 49) (.tm 51)),
 RM 4 8 52] 5 [2,3,5,6,7,8])))))
 .skip))
 (.seq (.seq (.region [RM 0 53 5,
 rq 1 54 (.call kE [(.tm 53),(ki 20)])] 2 [2,3,5,6,7,8,54])
 (.cond (.tm 54)
 (.region [RM 0 56 5,
 rq 1 57 (.call aVL [(.tm 56),(ki 1)]),
 RM 2 55 57,
 rq 3 58 (.ext (.tm 55) 0),
 rq 4 59 (.ext (.tm 55) 1),
 rn 5 (.store 3 true (.tm 6) (.tm 58)),
 rn 6 (.store 6 true (.tm 7) (.tm 59))] 7 [2,3,6,7,8])
 .skip))
 (.seq (.region [rq 0 60 (.load 3 true (.tm 6)),
 ⟨1,(some 61),.load 6 true (.tm 7),none,[],[],true⟩,
 RM 2 62 8,
 ⟨3,none,.store 3 true (.tm 2) (.tm 60),none,[],[1],false⟩,
 rn 4 (.store 6 true (.tm 3) (.tm 61)),
 RM 5 4 62] 6 [2,3,4])
 .ret))))))))
def aYY:List Cert:=[⟨[],[0,2,3]⟩,⟨[],[2,3,5]⟩,⟨[],[2,3,5,6,7,8]⟩,⟨[],[2,3,5,6,7,8,20]⟩,⟨[],[2,3,5,6,7,8]⟩,⟨[],[2,3,5,6,7,8,28]⟩,⟨[],[2,3,5,6,7,8,9]⟩,⟨[],[2,3,5,6,7,8]⟩,⟨[],[2,3,5,6,7,8,45]⟩,⟨[],[2,3,5,6,7,8,48]⟩,⟨[],[2,3,5,6,7,8]⟩,⟨[],[2,3,5,6,7,8,54]⟩,⟨[],[2,3,6,7,8]⟩,⟨[cz 0,(1,[],[],true),cz 2,(3,[],[1],false),cz 4,cz 5],[2,3,4]⟩]
def aYS:List aW:=[.cell 2 3 true,.cell 3 6 true,.tm 4]
theorem aYZ:aO Tryz.prog Tryz.f53 aYY=some (aYP,aYS):=by kernel_rfl
def aVI:AC:=
 (.seq (.region [rq 0 4 (.alloc [OZ,OZ,OZ]),
 rq 1 5 (.alloc [OZ,OZ,OZ,OZ,OZ,OZ])] 2 [0,1,4,5])
 (.seq (.region [RM 0 10 0,
 rq 1 11 (.call aNG [(.tm 10),(ki 40)]),
 RM 2 9 11,
 rq 3 12 (.ext (.tm 9) 0),
 rq 4 13 (.ext (.tm 9) 1),
 rq 5 14 (.ext (.tm 9) 2),
 rq 6 6 (.alloc [OZ,OZ,OZ]),
 rq 7 7 (.alloc [OZ,OZ,OZ,OZ,OZ,OZ]),
 rn 8 (.store 3 true (.tm 6) (.tm 12)),
 rn 9 (.store 6 true (.tm 7) (.tm 13)),
 RM 10 8 14] 11 [0,1,4,5,6,7])
 (.seq (.seq (.region [RM 0 15 0,
 RM 1 16 1,
 rq 2 17 (.call kE [(.tm 15),(.tm 16)])] 3 [0,4,5,6,7,17])
 (.cond (.tm 17)
 (.seq (.region [RM 0 18 0,
 rq 1 19 (.call aD [(.tm 18),(ki 7)])] 2 [0,4,5,6,7,19])
 (.block 0
 (.seq (.region [rq 0 23 (.bin .eql (.tm 19) (ki 0)),
 RM 1 22 23] 2 [0,4,5,6,7,19,22])
 (.cond (.tm 22)
 (.region [RM 0 24 0,
 rq 1 25 (.call aVK [(.tm 24),(ki 2)]),
 RF 2 26 0 7,
 rn 3 (.store 2 true (.tm 26) (.tm 25))] 4 [4,5,6,7])
 (.seq (.region [rq 0 28 (.bin .eql (.tm 19) (ki 1)),
 RM 1 27 28] 2 [0,4,5,6,7,19,27])
 (.cond (.tm 27)
 (.region [RF 0 29 2 7,
 ⟨1,(some 30),.load 1 false (.tm 29),none,[4],[],true⟩,
 RM 2 31 0,
 rq 4 33 (.bC 1 3 [VZ] [(0,1,(.kv (.int .i64 (-1)))),(1,1,(ki 13)),(2,1,(ki 1))]),
 RM 5 34 0,
 ⟨3,(some 32),.call aD [(.tm 31),(ki 3)],none,[4],[1],false⟩,
 ⟨6,(some 35),.call aD [(.tm 34),(ki 3)],none,[4],[1],false⟩,
 rq 7 36 (.idx 1 (.tm 33) (.tm 35)),
 RL 8 37 36,
 rq 9 38 (.idx 1 (.tm 30) (.tm 32)),
 rn 10 (.store 1 false (.tm 38) (.tm 37))] 11 [4,5,6,7])
 (.seq (.region [rq 0 40 (.bin .eql (.tm 19) (ki 2)),
 RM 1 39 40] 2 [0,4,5,6,7,19,39])
 (.cond (.tm 39)
 (.region [RF 0 41 3 7,
 ⟨1,(some 42),.load 1 false (.tm 41),none,[8],[],true⟩,
 RM 2 43 0,
 RM 5 46 0,
 ⟨3,(some 44),.call aD [(.tm 43),(ki 4)],none,[],[1],false⟩,
 rq 4 45 (.bin .sub (.tm 44) (ki 1)),
 ⟨6,(some 47),.call aD [(.tm 46),(ki 4)],none,[],[1],false⟩,
 rq 7 48 (.build [VZ,VZ,VZ,VZ,OZ] [(0,1,(.tm 45)),(1,1,(.tm 47))]),
 rq 8 49 (.bC 5 1 [VZ,VZ,VZ,VZ,OZ] [(0,5,(.tm 48))]),
 rq 9 50 (.append 5 (.tm 42) (.tm 49)),
 RF 10 51 3 7,
 rn 11 (.store 1 false (.tm 51) (.tm 50))] 12 [4,5,6,7])
 (.seq (.region [rq 0 53 (.bin .eql (.tm 19) (ki 3)),
 RM 1 52 53] 2 [0,4,5,6,7,19,52])
 (.cond (.tm 52)
 (.region [RF 0 54 4 7,
 ⟨1,(some 55),.load 1 false (.tm 54),none,[10],[],true⟩,
 RM 2 56 0,
 RM 5 59 0,
 RM 7 61 0,
 ⟨3,(some 57),.call aD [(.tm 56),(ki 4)],none,[],[1],false⟩,
 rq 4 58 (.bin .sub (.tm 57) (ki 1)),
 ⟨6,(some 60),.call aD [(.tm 59),(ki 4)],none,[],[1],false⟩,
 ⟨8,(some 62),.call aVA [(.tm 61),(ki 3)],none,[],[1],false⟩,
 rq 9 63 (.build [VZ,VZ,VZ,VZ,OZ] [(0,1,(.tm 58)),(1,1,(.tm 60)),(2,3,(.tm 62))]),
 rq 10 64 (.bC 5 1 [VZ,VZ,VZ,VZ,OZ] [(0,5,(.tm 63))]),
 rq 11 65 (.append 5 (.tm 55) (.tm 64)),
 RF 12 66 4 7,
 rn 13 (.store 1 false (.tm 66) (.tm 65))] 14 [4,5,6,7])
 (.seq (.region [rq 0 68 (.bin .eql (.tm 19) (ki 4)),
 RM 1 67 68] 2 [0,4,5,6,7,19,67])
 (.cond (.tm 67)
 (.region [RF 0 69 5 7,
 ⟨1,(some 70),.load 1 false (.tm 69),none,[10],[],true⟩,
 RM 2 71 0,
 RM 5 74 0,
 RM 7 76 0,
 ⟨3,(some 72),.call aD [(.tm 71),(ki 4)],none,[],[1],false⟩,
 rq 4 73 (.bin .sub (.tm 72) (ki 1)),
 ⟨6,(some 75),.call aD [(.tm 74),(ki 4)],none,[],[1],false⟩,
 ⟨8,(some 77),.call aVA [(.tm 76),(ki 3)],none,[],[1],false⟩,
 rq 9 78 (.build [VZ,VZ,VZ,VZ,OZ] [(0,1,(.tm 73)),(1,1,(.tm 75)),(2,3,(.tm 77))]),
 rq 10 79 (.bC 5 1 [VZ,VZ,VZ,VZ,OZ] [(0,5,(.tm 78))]),
 rq 11 80 (.append 5 (.tm 70) (.tm 79)),
 RF 12 81 5 7,
 rn 13 (.store 1 false (.tm 81) (.tm 80))] 14 [4,5,6,7])
 (.seq (.region [rq 0 83 (.bin .eql (.tm 19) (ki 5)),
 RM 1 82 83] 2 [0,4,5,6,7,82])
 (.cond (.tm 82)
 (.region [RF 0 84 2 7,
 RL 1 85 84,
 rq 2 86 (.slc 1 (.tm 85) (some (ki 1)) none none),
 RF 3 87 2 7,
 rn 4 (.store 1 false (.tm 87) (.tm 86))] 5 [4,5,6,7])
 (.region [RM 0 20 0,
 rq 1 21 (.call aNJ [(.tm 20),(ki 1)]),
 rn 2 (.store 3 true (.tm 6) (.tm 21))] 3 [4,5,6,7])))))))))))))))
 .skip))
 (.seq (.region [rq 0 88 (.load 3 true (.tm 6)),
 ⟨1,(some 89),.load 6 true (.tm 7),none,[],[],true⟩,
 ⟨2,none,.store 3 true (.tm 4) (.tm 88),none,[],[1],false⟩,
 rn 3 (.store 6 true (.tm 5) (.tm 89))] 4 [4,5])
 .ret))))
def aWC:List Cert:=[⟨[],[0,1,4,5]⟩,⟨[],[0,1,4,5,6,7]⟩,⟨[],[0,4,5,6,7,17]⟩,⟨[],[0,4,5,6,7,19]⟩,⟨[],[0,4,5,6,7,19,22]⟩,⟨[],[4,5,6,7]⟩,⟨[],[0,4,5,6,7,19,27]⟩,⟨[cz 0,(1,[4],[],true),cz 2,cz 4,cz 5,(3,[4],[1],false),(6,[4],[1],false),cz 7,cz 8,cz 9,cz 10],[4,5,6,7]⟩,⟨[],[0,4,5,6,7,19,39]⟩,⟨[cz 0,(1,[8],[],true),cz 2,cz 5,(3,[],[1],false),cz 4,(6,[],[1],false),cz 7,cz 8,cz 9,cz 10,cz 11],[4,5,6,7]⟩,⟨[],[0,4,5,6,7,19,52]⟩,⟨[cz 0,(1,[10],[],true),cz 2,cz 5,cz 7,(3,[],[1],false),cz 4,(6,[],[1],false),(8,[],[1],false),cz 9,cz 10,cz 11,cz 12,cz 13],[4,5,6,7]⟩,⟨[],[0,4,5,6,7,19,67]⟩,⟨[cz 0,(1,[10],[],true),cz 2,cz 5,cz 7,(3,[],[1],false),cz 4,(6,[],[1],false),(8,[],[1],false),cz 9,cz 10,cz 11,cz 12,cz 13],[4,5,6,7]⟩,⟨[],[0,4,5,6,7,82]⟩,⟨[],[4,5,6,7]⟩,⟨[],[4,5,6,7]⟩,⟨[cz 0,(1,[],[],true),(2,[],[1],false),cz 3],[4,5]⟩]
def aVR:List aW:=[.cell 4 3 true,.cell 5 6 true]
theorem aWB:aO Tryz.prog Tryz.f98 aWC=some (aVI,aVR):=by kernel_rfl
def at4:AC:=
 (.seq (.region [rq 0 4 (.alloc [OZ,OZ,OZ])] 1 [0,1,4])
 (.seq (.region [RM 0 6 0,
 rq 1 7 (.call lJ [(.tm 6),(ki 6)]),
 rq 2 5 (.alloc [OZ,OZ,OZ]),
 rn 3 (.store 3 true (.tm 5) (.tm 7))] 4 [0,1,4,5])
 (.seq (.seq (.region [RM 0 8 0,
 RM 1 9 1,
 rq 2 10 (.call kE [(.tm 8),(.tm 9)])] 3 [0,4,5,10])
 (.cond (.tm 10)
 (.seq (.region [RM 0 11 0,
 rq 1 12 (.call aD [(.tm 11),(ki 5)])] 2 [0,4,5,12])
 (.block 0
 (.seq (.region [rq 0 25 (.bin .eql (.tm 12) (ki 0)),
 RM 1 24 25] 2 [0,4,5,12,24])
 (.cond (.tm 24)
 (.region [RM 0 26 0,
 rq 1 27 (.call tN [(.tm 26),(ki 1)]),
 RF 2 28 0 5,
 rn 3 (.store 1 false (.tm 28) (.tm 27))] 4 [4,5])
 (.seq (.region [rq 0 30 (.bin .eql (.tm 12) (ki 1)),
 RM 1 29 30] 2 [0,4,5,12,29])
 (.cond (.tm 29)
 (.region [RF 0 31 1 5,
 ⟨1,(some 32),.load 1 false (.tm 31),none,[4],[],true⟩,
 RM 2 33 0,
 rq 4 35 (.bC 1 2 [VZ] [(0,1,(.kv (.int .i64 (-1)))),(1,1,(ki 4))]),
 RM 5 36 0,
 ⟨3,(some 34),.call aD [(.tm 33),(ki 4)],none,[4],[1],false⟩,
 ⟨6,(some 37),.call aD [(.tm 36),(ki 2)],none,[4],[1],false⟩,
 rq 7 38 (.idx 1 (.tm 35) (.tm 37)),
 RL 8 39 38,
 rq 9 40 (.idx 1 (.tm 32) (.tm 34)),
 rn 10 (.store 1 false (.tm 40) (.tm 39))] 11 [4,5])
 (.seq (.region [rq 0 42 (.bin .eql (.tm 12) (ki 2)),
 RM 1 41 42] 2 [0,4,5,12,41])
 (.cond (.tm 41)
 (.region [RF 0 43 1 5,
 RL 1 44 43,
 rq 2 45 (.slc 1 (.tm 44) (some (ki 1)) none none),
 RF 3 46 1 5,
 rn 4 (.store 1 false (.tm 46) (.tm 45))] 5 [4,5])
 (.seq (.region [rq 0 48 (.bin .eql (.tm 12) (ki 3)),
 RM 1 47 48] 2 [0,4,5,47])
 (.cond (.tm 47)
 (.region [RF 0 49 2 5,
 RL 1 50 49,
 rq 2 51 (.slc 1 (.tm 50) (some (ki 1)) none none),
 RF 3 52 2 5,
 rn 4 (.store 1 false (.tm 52) (.tm 51))] 5 [4,5])
 (.region [RF 0 13 2 5,
 ⟨1,(some 14),.load 1 false (.tm 13),none,[8],[],true⟩,
 RF 2 15 2 5,
 ⟨3,(some 16),.load 1 false (.tm 15),none,[8],[],true⟩,
 rq 4 17 (.idx 1 (.tm 16) (ki 0)),
 ⟨5,(some 18),.load 1 false (.tm 17),none,[8],[],true⟩,
 RM 6 19 0,
 ⟨7,(some 20),.call tS [(.tm 19),(ki 1)],none,[],[1,3,5],false⟩,
 rq 8 21 (.bC 7 1 [VZ,VZ,VZ,VZ,(.v (.bool false)),OZ,OZ] [(0,7,(.tm 20))]),
 ⟨9,(some 22),.append 7 (.tm 18) (.tm 21),none,[],[1],false⟩,
 rq 10 23 (.idx 1 (.tm 14) (ki 0)),
 rn 11 (.store 1 false (.tm 23) (.tm 22))] 12 [4,5])))))))))))
 .skip))
 (.seq (.region [rq 0 53 (.load 3 true (.tm 5)),
 rn 1 (.store 3 true (.tm 4) (.tm 53))] 2 [4])
 .ret))))
def aPU:List Cert:=[⟨[],[0,1,4]⟩,⟨[],[0,1,4,5]⟩,⟨[],[0,4,5,10]⟩,⟨[],[0,4,5,12]⟩,⟨[],[0,4,5,12,24]⟩,⟨[],[4,5]⟩,⟨[],[0,4,5,12,29]⟩,⟨[cz 0,(1,[4],[],true),cz 2,cz 4,cz 5,(3,[4],[1],false),(6,[4],[1],false),cz 7,cz 8,cz 9,cz 10],[4,5]⟩,⟨[],[0,4,5,12,41]⟩,⟨[],[4,5]⟩,⟨[],[0,4,5,47]⟩,⟨[],[4,5]⟩,⟨[cz 0,(1,[8],[],true),cz 2,(3,[8],[],true),cz 4,(5,[8],[],true),cz 6,(7,[],[1,3,5],false),cz 8,(9,[],[1],false),cz 10,cz 11],[4,5]⟩,⟨[],[4]⟩]
def aOA:List aW:=[.cell 4 3 true]
theorem aPQ:aO Tryz.prog Tryz.f105 aPU=some (at4,aOA):=by kernel_rfl
def aVO:AC:=
 (.seq (.region [rq 0 4 (.alloc [OZ,OZ])] 1 [0,1,4])
 (.seq (.region [rq 0 7 (.call v7 []),
 rq 1 5 (.alloc [OZ,OZ]),
 rn 2 (.store 2 true (.tm 5) (.tm 7))] 3 [0,1,4,5])
 (.seq (.region [RM 0 8 0,
 rq 1 9 (.call aU9 [(.tm 8),(ki 99999)]),
 RF 2 10 0 5,
 rn 3 (.store 1 true (.tm 10) (.tm 9))] 4 [0,1,4,5])
 (.seq (.seq (.region [rq 0 6 (.move (ki 0))] 1 [0,1,4,5,6])
 (.block 0
 (.loop
 (.seq (.seq (.region [RM 0 11 6,
 RF 1 12 1 5,
 RL 2 13 12,
 rq 3 14 (.len false (.tm 13)),
 rq 4 15 (.bin .lss (.tm 11) (.tm 14))] 5 [0,1,4,5,6,15])
 (.cond (.tm 15)
 .skip
 (.exit 0)))
 (.seq (.block 1
 (.region [RF 0 18 1 5,
 ⟨1,(some 19),.load 1 false (.tm 18),none,[3],[],true⟩,
 RM 2 20 6,
 rq 3 21 (.bC 1 5 [VZ] [(0,1,(.kv (.int .i64 (-1)))),(1,1,(ki 0)),(2,1,(ki 1)),(3,1,(ki 16)),(4,1,(ki 32))]),
 RM 4 22 0,
 ⟨5,(some 23),.call aD [(.tm 22),(ki 5)],none,[3],[1],false⟩,
 rq 6 24 (.idx 1 (.tm 21) (.tm 23)),
 RL 7 25 24,
 rq 8 26 (.idx 1 (.tm 19) (.tm 20)),
 rn 9 (.store 1 false (.tm 26) (.tm 25))] 10 [0,1,4,5,6]))
 (.region [RM 0 16 6,
 rq 1 17 (.bin .add (.tm 16) (ki 1)),
 RM 2 6 17] 3 [0,1,4,5,6]))))))
 (.seq (.seq (.region [RM 0 27 0,
 RM 1 28 1,
 rq 2 29 (.call kE [(.tm 27),(.tm 28)])] 3 [0,4,5,29])
 (.cond (.tm 29)
 (.seq (.region [RM 0 30 0,
 rq 1 31 (.call aD [(.tm 30),(ki 3)])] 2 [0,4,5,31])
 (.block 2
 (.seq (.region [rq 0 41 (.bin .eql (.tm 31) (ki 0)),
 RM 1 40 41] 2 [0,4,5,31,40])
 (.cond (.tm 40)
 (.region [RM 0 42 0,
 rq 1 43 (.call aU9 [(.tm 42),(ki 1)]),
 RF 2 44 0 5,
 rn 3 (.store 1 true (.tm 44) (.tm 43))] 4 [4,5])
 (.seq (.region [rq 0 46 (.bin .eql (.tm 31) (ki 1)),
 RM 1 45 46] 2 [0,4,5,45])
 (.cond (.tm 45)
 (.region [RF 0 47 1 5,
 RL 1 48 47,
 rq 2 49 (.slc 1 (.tm 48) (some (ki 1)) none none),
 RF 3 50 1 5,
 rn 4 (.store 1 false (.tm 50) (.tm 49))] 5 [4,5])
 (.region [RF 0 32 1 5,
 ⟨1,(some 33),.load 1 false (.tm 32),none,[2],[],true⟩,
 rq 2 34 (.bC 1 2 [VZ] [(0,1,(.kv (.int .i64 (-2)))),(1,1,(ki 64))]),
 RM 3 35 0,
 ⟨4,(some 36),.call aD [(.tm 35),(ki 2)],none,[2],[1],false⟩,
 rq 5 37 (.idx 1 (.tm 34) (.tm 36)),
 RL 6 38 37,
 rq 7 39 (.idx 1 (.tm 33) (ki 0)),
 rn 8 (.store 1 false (.tm 39) (.tm 38))] 9 [4,5])))))))
 .skip))
 (.seq (.region [rq 0 51 (.load 2 true (.tm 5)),
 rn 1 (.store 2 true (.tm 4) (.tm 51))] 2 [4])
 .ret))))))
def aWO:List Cert:=[⟨[],[0,1,4]⟩,⟨[],[0,1,4,5]⟩,⟨[],[0,1,4,5]⟩,⟨[],[0,1,4,5,6]⟩,⟨[],[0,1,4,5,6,15]⟩,⟨[cz 0,(1,[3],[],true),cz 2,cz 3,cz 4,(5,[3],[1],false),cz 6,cz 7,cz 8,cz 9],[0,1,4,5,6]⟩,⟨[],[0,1,4,5,6]⟩,⟨[],[0,4,5,29]⟩,⟨[],[0,4,5,31]⟩,⟨[],[0,4,5,31,40]⟩,⟨[],[4,5]⟩,⟨[],[0,4,5,45]⟩,⟨[],[4,5]⟩,⟨[cz 0,(1,[2],[],true),cz 2,cz 3,(4,[2],[1],false),cz 5,cz 6,cz 7,cz 8],[4,5]⟩,⟨[],[4]⟩]
def aVE:List aW:=[.cell 4 2 true]
theorem aWX:aO Tryz.prog Tryz.f166 aWO=some (aVO,aVE):=by kernel_rfl
theorem aWW:aN Tryz.prog aVK Tryz.f166 aVO aVE:=
 aN.mk Tryz.func166 (by kernel_rfl) aWX
def aVP:AC:=
 (.seq (.region [rq 0 4 (.alloc [VZ,VZ,OZ])] 1 [0,1,4])
 (.seq (.region [RM 0 7 0,
 rq 1 8 (.call aD [(.tm 7),(ki 2)]),
 RM 2 9 0,
 rq 3 10 (.call aD [(.tm 9),(ki 4)]),
 rq 4 11 (.bin .add (ki 1) (.tm 10)),
 rq 5 12 (.build [VZ,VZ,OZ] [(0,1,(.tm 8)),(1,1,(.tm 11))]),
 rq 6 5 (.alloc [VZ,VZ,OZ]),
 rn 7 (.store 3 true (.tm 5) (.tm 12))] 8 [0,1,4,5])
 (.seq (.seq (.region [RM 0 13 0,
 rq 1 14 (.call aD [(.tm 13),(ki 5)]),
 RM 2 6 14] 3 [0,1,4,5,6])
 (.block 0
 (.loop
 (.seq (.seq (.region [RM 0 15 6,
 rq 1 16 (.bin .gtr (.tm 15) (ki 0))] 2 [0,1,4,5,6,16])
 (.cond (.tm 16)
 .skip
 (.exit 0)))
 (.seq (.block 1
 (.region [RF 0 19 2 5,
 ⟨1,(some 20),.load 1 false (.tm 19),none,[4],[],true⟩,
 RM 2 21 0,
 ⟨3,(some 22),.call aD [(.tm 21),(ki 300)],none,[],[1],false⟩,
 rq 4 23 (.bC 1 1 [VZ] [(0,1,(.tm 22))]),
 rq 5 24 (.append 1 (.tm 20) (.tm 23)),
 RF 6 25 2 5,
 rn 7 (.store 1 false (.tm 25) (.tm 24))] 8 [0,1,4,5,6]))
 (.region [RM 0 17 6,
 rq 1 18 (.bin .sub (.tm 17) (ki 1)),
 RM 2 6 18] 3 [0,1,4,5,6]))))))
 (.seq (.seq (.region [RM 0 26 0,
 RM 1 27 1,
 rq 2 28 (.call kE [(.tm 26),(.tm 27)])] 3 [0,4,5,28])
 (.cond (.tm 28)
 (.seq (.region [RM 0 29 0,
 rq 1 30 (.call aD [(.tm 29),(ki 4)])] 2 [0,4,5,30])
 (.block 2
 (.seq (.region [rq 0 34 (.bin .eql (.tm 30) (ki 0)),
 RM 1 33 34] 2 [0,4,5,30,33])
 (.cond (.tm 33)
 (.region [rq 0 35 (.bC 1 2 [VZ] [(0,1,(.kv (.int .i64 (-1)))),(1,1,(ki 2))]),
 RM 1 36 0,
 rq 2 37 (.call aD [(.tm 36),(ki 2)]),
 rq 3 38 (.idx 1 (.tm 35) (.tm 37)),
 RL 4 39 38,
 RF 5 40 0 5,
 rn 6 (.store 1 false (.tm 40) (.tm 39))] 7 [4,5])
 (.seq (.region [rq 0 42 (.bin .eql (.tm 30) (ki 1)),
 RM 1 41 42] 2 [0,4,5,30,41])
 (.cond (.tm 41)
 (.region [rq 0 43 (.bC 1 2 [VZ] [(0,1,(ki 0)),(1,1,(ki 5))]),
 RM 1 44 0,
 rq 2 45 (.call aD [(.tm 44),(ki 2)]),
 rq 3 46 (.idx 1 (.tm 43) (.tm 45)),
 RL 4 47 46,
 RF 5 48 1 5,
 rn 6 (.store 1 false (.tm 48) (.tm 47))] 7 [4,5])
 (.seq (.region [rq 0 50 (.bin .eql (.tm 30) (ki 2)),
 RM 1 49 50] 2 [4,5,49])
 (.cond (.tm 49)
 (.region [rq 0 51 (.bC 1 1 [VZ] [(0,1,(.kv (.int .i64 (-1))))]),
 RF 1 52 2 5,
 rn 2 (.store 1 false (.tm 52) (.tm 51))] 3 [4,5])
 (.region [rq 0 31 (.bC 1 5 [VZ] [(0,1,(ki 1)),(1,1,(ki 2)),(2,1,(ki 3)),(3,1,(ki 4)),(4,1,(ki 5))]),
 RF 1 32 2 5,
 rn 2 (.store 1 false (.tm 32) (.tm 31))] 3 [4,5])))))))))
 .skip))
 (.seq (.region [rq 0 53 (.load 3 true (.tm 5)),
 rn 1 (.store 3 true (.tm 4) (.tm 53))] 2 [4])
 .ret)))))
def aWY:List Cert:=[⟨[],[0,1,4]⟩,⟨[],[0,1,4,5]⟩,⟨[],[0,1,4,5,6]⟩,⟨[],[0,1,4,5,6,16]⟩,⟨[cz 0,(1,[4],[],true),cz 2,(3,[],[1],false),cz 4,cz 5,cz 6,cz 7],[0,1,4,5,6]⟩,⟨[],[0,1,4,5,6]⟩,⟨[],[0,4,5,28]⟩,⟨[],[0,4,5,30]⟩,⟨[],[0,4,5,30,33]⟩,⟨[],[4,5]⟩,⟨[],[0,4,5,30,41]⟩,⟨[],[4,5]⟩,⟨[],[4,5,49]⟩,⟨[],[4,5]⟩,⟨[],[4,5]⟩,⟨[],[4]⟩]
def aVF:List aW:=[.cell 4 3 true]
theorem aW3:aO Tryz.prog Tryz.f167 aWY=some (aVP,aVF):=by kernel_rfl
theorem aW2:aN Tryz.prog aVA Tryz.f167 aVP aVF:=
 aN.mk Tryz.func167 (by kernel_rfl) aW3
def aVN:AC:=
 (.seq (.region [rq 0 4 (.alloc [OZ])] 1 [0,1,4])
 (.seq (.region [rq 0 7 (.call v8 []),
 rq 1 5 (.alloc [OZ]),
 rn 2 (.store 1 true (.tm 5) (.tm 7))] 3 [0,1,4,5])
 (.seq (.seq (.region [RM 0 8 0,
 rq 1 9 (.call aD [(.tm 8),(ki 8)]),
 RM 2 6 9] 3 [0,1,4,5,6])
 (.block 0
 (.loop
 (.seq (.seq (.region [RM 0 10 6,
 rq 1 11 (.bin .gtr (.tm 10) (ki 0))] 2 [0,1,4,5,6,11])
 (.cond (.tm 11)
 .skip
 (.exit 0)))
 (.seq (.block 1
 (.region [RF 0 14 0 5,
 ⟨1,(some 15),.load 1 false (.tm 14),none,[],[],true⟩,
 RM 2 16 0,
 RM 4 18 0,
 ⟨3,(some 17),.call qM [(.tm 16)],none,[],[1],false⟩,
 ⟨5,(some 19),.call aD [(.tm 18),(ki 256)],none,[],[1],false⟩,
 rq 6 20 (.bin .mul (.tm 19) (ki 257)),
 rq 7 21 (.idx 1 (.tm 15) (.tm 17)),
 rn 8 (.store 1 false (.tm 21) (.tm 20))] 9 [0,1,4,5,6]))
 (.region [RM 0 12 6,
 rq 1 13 (.bin .sub (.tm 12) (ki 1)),
 RM 2 6 13] 3 [0,1,4,5,6]))))))
 (.seq (.seq (.region [RM 0 22 0,
 RM 1 23 1,
 rq 2 24 (.call kE [(.tm 22),(.tm 23)])] 3 [0,4,5,24])
 (.cond (.tm 24)
 (.seq (.region [RM 0 25 0,
 rq 1 26 (.call aD [(.tm 25),(ki 3)])] 2 [0,4,5,26])
 (.block 2
 (.seq (.region [rq 0 33 (.bin .eql (.tm 26) (ki 0)),
 RM 1 32 33] 2 [0,4,5,26,32])
 (.cond (.tm 32)
 (.region [RF 0 34 0 5,
 RL 1 35 34,
 rq 2 36 (.slc 1 (.tm 35) (some (ki 1)) none none),
 RF 3 37 0 5,
 rn 4 (.store 1 false (.tm 37) (.tm 36))] 5 [4,5])
 (.seq (.region [rq 0 39 (.bin .eql (.tm 26) (ki 1)),
 RM 1 38 39] 2 [0,4,5,38])
 (.cond (.tm 38)
 (.region [RF 0 40 0 5,
 ⟨1,(some 41),.load 1 false (.tm 40),none,[4],[],true⟩,
 RM 2 42 0,
 rq 4 44 (.bC 1 2 [VZ] [(0,1,(.kv (.int .i64 (-1)))),(1,1,(ki 65536))]),
 RM 5 45 0,
 ⟨3,(some 43),.call aD [(.tm 42),(ki 64)],none,[4],[1],false⟩,
 ⟨6,(some 46),.call aD [(.tm 45),(ki 2)],none,[4],[1],false⟩,
 rq 7 47 (.idx 1 (.tm 44) (.tm 46)),
 RL 8 48 47,
 rq 9 49 (.idx 1 (.tm 41) (.tm 43)),
 rn 10 (.store 1 false (.tm 49) (.tm 48))] 11 [4,5])
 (.region [RF 0 27 0 5,
 RL 1 28 27,
 rq 2 29 (.bC 1 1 [VZ] [(0,1,(ki 0))]),
 rq 3 30 (.append 1 (.tm 28) (.tm 29)),
 RF 4 31 0 5,
 rn 5 (.store 1 false (.tm 31) (.tm 30))] 6 [4,5])))))))
 .skip))
 (.seq (.region [rq 0 50 (.load 1 true (.tm 5)),
 rn 1 (.store 1 true (.tm 4) (.tm 50))] 2 [4])
 .ret)))))
def aWV:List Cert:=[⟨[],[0,1,4]⟩,⟨[],[0,1,4,5]⟩,⟨[],[0,1,4,5,6]⟩,⟨[],[0,1,4,5,6,11]⟩,⟨[cz 0,(1,[],[],true),cz 2,cz 4,(3,[],[1],false),(5,[],[1],false),cz 6,cz 7,cz 8],[0,1,4,5,6]⟩,⟨[],[0,1,4,5,6]⟩,⟨[],[0,4,5,24]⟩,⟨[],[0,4,5,26]⟩,⟨[],[0,4,5,26,32]⟩,⟨[],[4,5]⟩,⟨[],[0,4,5,38]⟩,⟨[cz 0,(1,[4],[],true),cz 2,cz 4,cz 5,(3,[4],[1],false),(6,[4],[1],false),cz 7,cz 8,cz 9,cz 10],[4,5]⟩,⟨[],[4,5]⟩,⟨[],[4]⟩]
def aVH:List aW:=[.cell 4 1 true]
theorem aWP:aO Tryz.prog Tryz.f222 aWV=some (aVN,aVH):=by kernel_rfl
theorem aWR:aN Tryz.prog aU9 Tryz.f222 aVN aVH:=
 aN.mk Tryz.func222 (by kernel_rfl) aWP
end Go.Proofs.YtegiblhkjfiooaaGreat
end
section
namespace Go.Proofs.YtegiblhkjfiooaaGreat
open Go Go.AM
set_option maxRecDepth 100000
set_option maxHeartbeats 16000000
section
variable {H : aA} {nx : Nat} {K : D → aA → Nat → Prop}
theorem aPB {l:List Int} {p:Nat} {Q:AQ} (hQ: ∀ex e2 H2 nx2 d nh d2 H3 F σ,ex=AEx.normal∨ex=AEx.ret→yT H2 e2 GO=some d→CvR 1 d H2 nh d2 H3 F σ→(nh=1∧ ∃o',H3=hp [(0,o')]∧C7 o'∧ ∃(p':Nat) (m:List Rng),o'=rdO l p'∧p≤p'∧p'≤p+20∧d2=dS (m.map eN)∧(m.length≤8))→Q ex e2 H2 nx2)
 {e2:Env} {H2:aA} {nx2 b n cap ext p':Nat} {rows:List (List D1)} {m:List Rng} (h1:yT H2 e2 GO=some (.one (.c (.osl 4 b 0 n cap)))) (h2:H2 0=some (rdO l p')) (h3:H2 b=some ⟨4,ext,rows⟩) (h4:p≤p') (h5:p'≤p+20) (h6:rows.take n=m.map eN) (h7:m.length≤8∧n≤cap∧b≠0∧n≤rows.length):Q .ret e2 H2 nx2:=by
 obtain⟨h7,h8,h9,h10⟩:=h7
 have hn:n=(m.map eN).length:=by rw[←h6];simp;omega
 exact lA hQ (dS (m.map eN)) _ _ h1 (DJ (rows:=m.map eN) (aG K3 _) hn h9 h3 rfl (by rw[←hn];exact h6) (by omega)) h2 (aV _ _) ⟨p',m,rfl,h4,h5,rfl,h7⟩
theorem aPJ (l:List Int) (p:Nat) (n:Int) (hn:0<n∧n<9000) (hl:kZ l) (hp50:p+1<2^50):aB Tryz.prog kE [dP 2 0,dI n] (hp [(0,rdO l p)]) 1
 fun rr H' n'=>n'=1∧ ∃o',H'=hp [(0,o')]∧C7 o'∧ ∃(p':Nat) (b:Bool),o'=rdO l p'∧p≤p'∧p'≤p+1∧rr=dB b∧(True):=by
 refine LF rfl fun Q hQ=> ?_
 unfold rH
 repeat' (first| (with_reducible first| (refine hK _ _ _ ?_;clear hK K)|refine Z1 ?_)| (first| (with_reducible first|refine Y2 fun K hK=> ?_|refine Y4 (by omega) ?_)| (refine aX hl (by omega) (by omega) (by omega) rfl (fun x h1 h2=> ?_)))<;>(simp only[go_sem];try simp (disch:=omega) only[Iw])| ((with_reducible refine Y8 ?_);try simp only[AQ.then,AQ.blk,reduceIte,Nat.reduceEqDiff])|fail)
 exact lA hQ (dB _) _ _ rfl (aE rfl) rfl (aV _ _) ⟨_,_,rfl,by omega,by omega,rfl,trivial⟩
theorem d6 {l:List Int} {p i:Nat} {n:Int} (hn:0<n∧n<9000) (hl:kZ l) (hp50:p+1<2^50) (hi:i<nx) (ho:H i=some (rdO l p)) (h: ∀(p':Nat) (b:Bool),p≤p'→p'≤p+1→(True)→K (dB b) (H.set i (rdO l p')) nx):
 aB Tryz.prog kE [dP 2 i,dI n] H nx K:=
 (aPJ l p n hn hl hp50).OU i rfl (gW ⟨DG (by omega) rfl,aE rfl,trivial⟩) hi ho (aV l p) fun r o' ⟨p',b,h1,h2,h3,h4,h5⟩=>by
  subst h1;subst h4;exact EW (A:=fun d=>K d (H.set i (rdO l p')) nx) rfl (h p' b h2 h3 h5)
theorem aQP (l:List Int) (p:Nat) (hl:kZ l) (hp50:p+20<2^50):aB Tryz.prog tN [dP 2 0,dI 1] (hp [(0,rdO l p)]) 1
 fun rr H' n'=>n'=1∧ ∃o',H'=hp [(0,o')]∧C7 o'∧ ∃(p':Nat) (m:List Rng),o'=rdO l p'∧p≤p'∧p'≤p+20∧rr=dS (m.map eN)∧(m.length≤8):=by
 refine RN rfl fun Q hQ=> ?_
 unfold w9
 repeat' (first| (with_reducible first| (refine hK _ _ _ ?_;clear hK K)| (refine hA ?_;clear hA hB A B)| (refine hB ?_;clear hA hB A B)|refine Z1 ?_|refine Z2 ?_|refine Z3 fun KB hKB=> ?_|refine Z6 (fun h=> ?_) fun h=> ?_)| (first| (with_reducible first|refine Y2 fun K hK=> ?_|refine Y3 fun A B hA hB=> ?_)| (refine aX hl (by omega) (by omega) (by omega) rfl (fun x h1 h2=> ?_)))<;>(simp only[go_sem];try simp (disch:=omega) only[Iw])| ((with_reducible refine Y0 ?_);simp only[AQ.then,AQ.blk])|refine⟨by omega,?_⟩| (with_reducible refine hKB _ _ _ ?_)|fail)
 case' refine_2.refine_1=>(have hx:x=0∨x=1∨x=2:=by omega);rcases hx with rfl|rfl|rfl
 all_goals (refine(fun(h: ∀b:Bool,_)=>d6 (n:=1) (by omega) hl (by omega) (by omega) rfl (fun p1 b hp1 hp2 _=> ?_)) (fun _=>trivial);cases b)
 all_goals (simp only[go_sem];refine hK _ _ _ ?_;clear hK K)
 all_goals repeat' (first| (with_reducible first| (refine hK _ _ _ ?_;clear hK K)| (refine hA ?_;clear hA hB A B)| (refine hB ?_;clear hA hB A B)|refine Z1 ?_|refine Z2 ?_)| (with_reducible first|refine Y2 fun K hK=> ?_|refine Y3 fun A B hA hB=> ?_)<;>(simp only[go_sem])| ((with_reducible refine Y8 ?_);try simp only[AQ.then,AQ.blk,reduceIte,Nat.reduceEqDiff])|fail)
 all_goals first
  | (refine aX hl (by omega) (by omega) (by omega) rfl (fun k hk1 hk2=> ?_)
     have hk:k=0∨k=1∨k=2∨k=3:=by omega
     rcases hk with rfl|rfl|rfl|rfl
     all_goals first| (exfalso;omega)| (simp only[go_sem];refine hK _ _ _ ?_;clear hK K))
  |skip
 all_goals try repeat' (first| (with_reducible first| (refine hK _ _ _ ?_;clear hK K)| (refine hA ?_;clear hA hB A B)| (refine hB ?_;clear hA hB A B)|refine Z1 ?_|refine Z3 fun KB hKB=> ?_|refine Z6 (fun h=> ?_) fun h=> ?_|refine fun(cap:Nat) (hcap:_≤cap)=> ?_|refine fun(hcp:_≤cap)=> ?_)| (first| (with_reducible first|refine Y2 fun K hK=> ?_|refine Y3 fun A B hA hB=> ?_)| (refine aX hl (by omega) (by omega) (by omega) rfl (fun x h1 h2=> ?_)))<;>(simp only[go_sem];try simp (disch:=omega) only[Iw])| ((with_reducible refine Y8 ?_);try simp only[AQ.then,AQ.blk,reduceIte,Nat.reduceEqDiff])| ((with_reducible refine Y0 ?_);simp only[AQ.then,AQ.blk])|refine⟨by omega,?_⟩| (with_reducible refine hKB _ _ _ ?_)|fail)
 all_goals first
  | (have hx:x=0∨x=1∨x=2:=by omega
     rcases hx with rfl|rfl|rfl
     all_goals first| (exfalso;omega)| (simp only[go_sem];try simp (disch:=omega) only[Iw];(refine⟨by omega,hK _ _ _ ?_⟩;clear hK K);skip)|skip)
  |skip
 all_goals try refine⟨by omega,?_⟩
 all_goals try (refine hK _ _ _ ?_;clear hK K;repeat' (first| (with_reducible first| (refine hK _ _ _ ?_;clear hK K)|refine Z1 ?_)| (with_reducible refine Y2 fun K hK=> ?_)<;>(simp only[go_sem])| ((with_reducible refine Y8 ?_);try simp only[AQ.then,AQ.blk,reduceIte,Nat.reduceEqDiff])| ((with_reducible refine Y0 ?_);simp only[AQ.then,AQ.blk])| (with_reducible refine hKB _ _ _ ?_)|fail))
 all_goals first
  |exact aPB hQ (m:=[⟨_,_,_,_⟩]) rfl rfl rfl (by omega) (by omega) rfl ⟨by simp,by omega,by decide,by simp⟩
  |exact aPB hQ (m:=[⟨_,_,_,_⟩,⟨_,_,_,_⟩]) rfl rfl rfl (by omega) (by omega) rfl ⟨by simp,by omega,by decide,by simp⟩
  |exact aPB hQ (m:=[⟨_,_,_,_⟩,⟨_,_,_,_⟩,⟨_,_,_,_⟩]) rfl rfl rfl (by omega) (by omega) rfl ⟨by simp,by omega,by decide,by simp⟩
  |exact aPB hQ (m:=[⟨_,_,_,_⟩,⟨_,_,_,_⟩,⟨_,_,_,_⟩,⟨_,_,_,_⟩]) rfl rfl rfl (by omega) (by omega) rfl ⟨by simp,by omega,by decide,by simp⟩
  |exact aPB hQ (m:=[⟨_,_,_,_⟩,⟨_,_,_,_⟩,⟨_,_,_,_⟩,⟨_,_,_,_⟩,⟨_,_,_,_⟩]) rfl rfl rfl (by omega) (by omega) rfl ⟨by simp,by omega,by decide,by simp⟩
  |exact aPB hQ (m:=[⟨_,_,_,_⟩,⟨_,_,_,_⟩,⟨_,_,_,_⟩,⟨_,_,_,_⟩,⟨_,_,_,_⟩,⟨_,_,_,_⟩]) rfl rfl rfl (by omega) (by omega) rfl ⟨by simp,by omega,by decide,by simp⟩
  |exact aPB hQ (m:=[⟨_,_,_,_⟩,⟨_,_,_,_⟩,⟨_,_,_,_⟩,⟨_,_,_,_⟩,⟨_,_,_,_⟩,⟨_,_,_,_⟩,⟨_,_,_,_⟩]) rfl rfl rfl (by omega) (by omega) rfl ⟨by simp,by omega,by decide,by simp⟩
theorem aQQ {l:List Int} {p i:Nat} (hl:kZ l) (hp50:p+20<2^50) (hi:i<nx) (ho:H i=some (rdO l p)) (h: ∀(p':Nat) (m:List Rng),p≤p'→p'≤p+20→(m.length≤8)→K (dS (m.map eN)) (H.set i (rdO l p')) nx):
 aB Tryz.prog tN [dP 2 i,dI 1] H nx K:=
 (aQP l p hl hp50).OU i rfl (gW ⟨DG (by omega) rfl,aE rfl,trivial⟩) hi ho (aV l p) fun r o' ⟨p',m,h1,h2,h3,h4,h5⟩=>by
  subst h1;subst h4;exact EW (A:=fun d=>K d (H.set i (rdO l p')) nx) rfl (h p' m h2 h3 h5)
end
end Go.Proofs.YtegiblhkjfiooaaGreat
end
