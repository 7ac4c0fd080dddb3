/- Texts laid together by a program: rules, contracts and the walk that leads to the law. -/
import Derived.Test.YtegiblhkjfiooaaGreatPx15
import Derived.Test.YtegiblhkjfiooaaGreatPx14
import Derived.Test.YtegiblhkjfiooaaGreatPx8
import Derived.Test.YtegiblhkjfiooaaGreatPx9
import Derived.Test.YtegiblhkjfiooaaGreatPx10
import Derived.Test.YtegiblhkjfiooaaGreatPx12
set_option linter.unusedVariables false
set_option linter.unusedSimpArgs false
set_option linter.unusedSectionVars false
section
namespace Go.Proofs.YtegiblhkjfiooaaGreat
open Go Go.AM
set_option maxRecDepth 100000
set_option maxHeartbeats 8000000
theorem EN:cJ Tryz.prog jF Tryz.f69 lK sL:=cJ.mk Tryz.func69 (by kernel_rfl) D7
theorem afN {c:Cfg} {s:CSt} {l:List Mic}:(iP c s l).length≤l.length:=by
 induction l generalizing s with
 |nil=>simp[iP]
 |cons m l ih=>
  have:=@ih (aR c s m)
  rw[iP,List.length_append,List.length_cons]
  have h1:(y0 s m).length≤1:=by cases m<;>simp[y0]
  omega
theorem aaW {c:Cfg} {f:CSt→Nat→Option Mic} {l:List Nat} {s:CSt}:(vE c f s l).length≤l.length:=by
 induction l generalizing s with
 |nil=>simp[vE]
 |cons k l ih=>
  rw[vE]
  split
  ·have:=@ih s;rw[List.length_cons];omega
  ·rename_i m _;have:=@ih (aR c s m);rw[List.length_cons,List.length_cons];omega
theorem aqN {c:Cfg} {l:List Nat} {s s0:CSt} {u:List Bool}:iP c s0 (oP c s u l)=[]:=by
 induction l generalizing s u s0 with
 |nil=>simp[oP,iP]
 |cons k l ih=>
  rw[oP]
  split
  ·exact ih
  ·rw[iP,ih];rfl
theorem aoN {c:Cfg} {i:CIn} {s:CSt}:TK c i s=([]++iP c s (KQ c i s))++iP c (CW c i s) (xX c i (CW c i s))++iP c (OI c i s) (MV c i (OI c i s)):=by
 have e1:dR c s (KQ c i s++xX c i (CW c i s)++ad4 c (QD c i s))=OI c i s:=by rw[tB,tB];rfl
 have e2:dR c s (KQ c i s++xX c i (CW c i s))=QD c i s:=by rw[tB];rfl
 rw[TK,YC,G6,G6,G6,e1,e2,List.nil_append]
 rw[show iP c (QD c i s) (ad4 c (QD c i s))=[] from aqN,List.append_nil]
 rfl
section
variable {H : aA} {nx : Nat} {K : D → aA → Nat → Prop}
theorem tX {X:Nat→Prop} {c:Cfg} {i:CIn} {s:CSt} {i0:Nat} {nm:Nat→Nat} (hb:aQ c) (hs:COk c s) (hi:i.ready.length=3∧i.n9.length=4∧i.send.length=3) (hR:Rep X H nx i0 nm s)
 (h: ∀H' nx' nm' a b d e,nx≤nx'→Rep X H' nx' i0 nm' (vF c i s)→(∀id,X id→H' id=H id)→K (dA [.isl ((TK c i s).map eEv),cI a,cI b,cI d,cI e]) H' nx'):
 aB Tryz.prog jF [.one (.c (.ptr 5 i0 0 0)),dA (cU c),dA (eIn i)] H nx K:=by
 refine aB.tW ?_
 refine EN rfl fun Q hQ=> ?_
 unfold lK
 repeat' (first| (with_reducible first| (refine hK _ _ _ ?_;clear hK K)|refine Z1 ?_)| (with_reducible refine Y2 fun K hK=> ?_)<;>(simp only[go_sem,Nat.add_assoc,Nat.left_eq_add])|fail)
 have hxi0:=hR.i0.1
 have hxX:=hR.x
 have hB0:l9 (fun id=>X id∨id=nx∨id=nx+1∨id=nx+2) ((((H.set nx ⟨3,1,[cU c]⟩).set (nx+1) ⟨3,1,[eIn i]⟩).set (nx+2) ⟨5,1,[[.osl 0 0 0 0 0,cI 0,cI 0,cI 0,cI 0]]⟩).set (nx+3) ⟨5,1,[[.osl 0 0 0 0 0,cI 0,cI 0,cI 0,cI 0]]⟩) (nx+7) i0 (nx+3) nm s []:=by
  have ho: ∀id,id<nx→((((H.set nx ⟨3,1,[cU c]⟩).set (nx+1) ⟨3,1,[eIn i]⟩).set (nx+2) ⟨5,1,[[.osl 0 0 0 0 0,cI 0,cI 0,cI 0,cI 0]]⟩).set (nx+3) ⟨5,1,[[.osl 0 0 0 0 0,cI 0,cI 0,cI 0,cI 0]]⟩) id=H id:=fun id hid=>by
   rw[aA.aC (by omega),aA.aC (by omega),aA.aC (by omega),aA.aC (by omega)]
  have hlt:=hR.names.lt
  refine⟨hR.frame (by omega) (ho _ hxi0) (fun k hk=>ho _ (hlt k hk)) fun id hid=> ?_,⟨⟨_,0,0,0,0,aA.bH,.inl ⟨rfl,rfl⟩⟩,⟨by omega,?_⟩,?_⟩⟩
  ·rcases hid with(hid|hid)|hid
   ·have:=hxX id hid
    exact⟨by omega,fun he=>hR.i0.2 (he▸hid),fun k hk he=>hR.names.av k hk (he▸hid)⟩
   ·exact⟨by omega,by omega,fun k hk=>by have:=hlt k hk;omega⟩
   ·exact⟨by omega,by omega,fun k hk=>by have:=hlt k hk;omega⟩
  ·rintro((hid|hid)|hid|⟨k,hk,hid⟩)
   ·have:=hxX _ hid;omega
   ·omega
   ·omega
   ·have:=hlt k hk;omega
  ·rintro id ((hid|hid)|hid|⟨k,hk,hid⟩)
   ·have:=hxX _ hid;omega
   ·omega
   ·omega
   ·have:=hlt k hk;omega
 have hX0: ∀{G:aA},(∀id,X id∨id=nx∨id=nx+1∨id=nx+2→G id=((((H.set nx ⟨3,1,[cU c]⟩).set (nx+1) ⟨3,1,[eIn i]⟩).set (nx+2) ⟨5,1,[[.osl 0 0 0 0 0,cI 0,cI 0,cI 0,cI 0]]⟩).set (nx+3) ⟨5,1,[[.osl 0 0 0 0 0,cI 0,cI 0,cI 0,cI 0]]⟩) id)→G nx=some ⟨3,1,[cU c]⟩∧G (nx+1)=some ⟨3,1,[eIn i]⟩∧G (nx+2)=some ⟨5,1,[[.osl 0 0 0 0 0,cI 0,cI 0,cI 0,cI 0]]⟩∧ ∀id,X id→G id=H id:=fun hG=>by
  refine⟨?_,?_,?_,fun id hid=> ?_⟩
  ·rw[hG _ (.inr (.inl rfl)),aA.aC (by omega),aA.aC (by omega),aA.aC (by omega)];exact aA.bH
  ·rw[hG _ (.inr (.inr (.inl rfl))),aA.aC (by omega),aA.aC (by omega)];exact aA.bH
  ·rw[hG _ (.inr (.inr (.inr rfl))),aA.aC (by omega)];exact aA.bH
  ·have:=hxX id hid
   rw[hG _ (.inl hid),aA.aC (by omega),aA.aC (by omega),aA.aC (by omega),aA.aC (by omega)]
 have hfT:(iP c s (KQ c i s)).length≤3:=Nat.le_trans afN aaW
 have hfW:(iP c (CW c i s) (xX c i (CW c i s))).length≤4:=Nat.le_trans afN aaW
 refine F8 hb hs hi.1 hB0 (by simp) fun H1 nx1 nm1 hx1 hB1 hX1=> ?_
 obtain⟨b1,b2,b3,b4⟩:=hX0 hX1
 simp only[go_sem]
 repeat' (first| (with_reducible first| (refine hK _ _ _ ?_;clear hK K)|refine Z1 ?_)| (with_reducible refine Y2 fun K hK=> ?_)<;>(simp only[go_sem,b1,b2,b3])|fail)
 refine GF hb (PH hb hs) hi.2.1 (hB1.mono (by omega)) (by simp;omega) fun H2 nx2 nm2 hx2 hB2 hX2=> ?_
 obtain⟨c1,c2,c3,c4⟩:=hX0 fun id hid=>(hX2 id hid).trans (hX1 id hid)
 simp only[go_sem]
 repeat' (first| (with_reducible first| (refine hK _ _ _ ?_;clear hK K)|refine Z1 ?_)| (with_reducible refine Y2 fun K hK=> ?_)<;>(simp only[go_sem,c1,c2,c3])|fail)
 refine HT hb (PV hb hs) (hB2.mono (by omega)) fun H3 nx3 nm3 hx3 hB3 hX3=> ?_
 obtain⟨d1,d2,d3,d4⟩:=hX0 fun id hid=>(hX3 id hid).trans ((hX2 id hid).trans (hX1 id hid))
 simp only[go_sem]
 repeat' (first| (with_reducible first| (refine hK _ _ _ ?_;clear hK K)|refine Z1 ?_)| (with_reducible refine Y2 fun K hK=> ?_)<;>(simp only[go_sem,d1,d2,d3])|fail)
 refine HN hb (afG hb hs) hi.2.2 (hB3.mono (by omega)) (by simp;omega) fun H4 nx4 nm4 hx4 hB4 hX4=> ?_
 obtain⟨e1,e2,e3,e4⟩:=hX0 fun id hid=>(hX4 id hid).trans ((hX3 id hid).trans ((hX2 id hid).trans (hX1 id hid)))
 obtain⟨dv,ha1,ha2,ha3,ha4,hi1,hdv⟩:=hB4.hap.ex
 rw[←aoN] at hdv
 simp only[go_sem]
 repeat' (first| (with_reducible first| (refine hK _ _ _ ?_;clear hK K)|refine Z1 ?_)| (with_reducible refine Y2 fun K hK=> ?_)<;>(simp only[go_sem,Nat.add_assoc,Nat.left_eq_add,e1,e2,e3,hi1])| ((with_reducible refine Y8 ?_);try simp only[AQ.then,AQ.blk,reduceIte,Nat.reduceEqDiff])|fail)
 have hav:=hB4.rep.names.av
 have hlt4:=hB4.rep.names.lt
 have hi04:=hB4.rep.i0
 have hn0:i0≠nx+2:=by omega
 have hnk: ∀k,k<19→nm4 k≠nx+2:=fun k hk he=>hav k hk (.inl (.inr (.inr (.inr he))))
 have hXk: ∀id,X id→id<nx4+2∧id≠i0∧ ∀k,k<19→id≠nm4 k:=fun id hid=>⟨by have:=hxX id hid;omega,fun he=>hi04.2 (.inl (.inl (he▸hid))),fun k hk he=>hav k hk (.inl (.inl (he▸hid)))⟩
 have hcS:vF c i s=dR c (OI c i s) (MV c i (OI c i s)):=rfl
 rcases hdv with⟨he,rfl⟩|⟨ev,cap,rfl,⟨m,rows,v1,v2,v3,v4,v5,v6⟩,v7,v8,v9⟩
 ·refine hQ _ _ _ _ _ (.inr rfl) (fZ rfl aA.bH rfl) ⟨dA [.isl ((TK c i s).map eEv),cI ha1,cI ha2,cI ha3,cI ha4],_,noF,by rw[he];simp only[List.map];repeat' (first| (with_reducible first|exact C3|refine C4 ?_ ?_)| ((with_reducible refine C0 ?_);first|exact CB rfl|exact CF)| ((with_reducible refine D0 ?_);refine C9 ?_)|fail),aK,h _ _ nm4 _ _ _ _ (by omega) (hcS▸hB4.rep.frame (by omega) (aA.aC hn0) (fun k hk=>aA.aC (hnk k hk)) hXk) fun id hid=> ?_⟩
  have:=hxX id hid
  rw[aA.aC (by omega)];exact e4 id hid
 ·have hev2:ev≠nx+2:=fun he=>v8 (.inl (.inr (.inr (.inr he))))
  have hev0:i0≠ev:=fun he=>v8 (.inr (.inl he.symm))
  have hevk: ∀k,k<19→nm4 k≠ev:=fun k hk he=>v8 (.inr (.inr ⟨k,hk,he.symm⟩))
  rw[List.drop_zero] at v2
  subst v2
  refine hQ _ _ _ _ _ (.inr rfl) (fZ rfl aA.bH rfl) ⟨dA [.isl ((TK c i s).map eEv),cI ha1,cI ha2,cI ha3,cI ha4],_,fun j=>j=ev,lY (aH (bW (F:=fun j=>j=ev) (m:=m) aq2 ((aA.aC hev2).trans v1) rfl (by omega) rfl) (aH (bB rfl) (aH (bB rfl) (aH (bB rfl) (aH (bB rfl) eP))))),PU,h _ _ nm4 _ _ _ _ (by omega) (hcS▸hB4.rep.frame (by omega) ((aA.jG hev0).trans (aA.aC hn0)) (fun k hk=>(aA.jG (hevk k hk)).trans (aA.aC (hnk k hk))) hXk) fun id hid=> ?_⟩
  have:=hxX id hid
  have hne:id≠ev:=fun he=>v8 (.inl (.inl (he▸hid)))
  rw[aA.jG hne,aA.aC (by omega)];exact e4 id hid
end
end Go.Proofs.YtegiblhkjfiooaaGreat
end
section
namespace Go.Proofs.YtegiblhkjfiooaaGreat
open Go Go.AM
set_option maxRecDepth 100000
set_option maxHeartbeats 8000000
section
variable {H : aA} {nx : Nat} {K : D → aA → Nat → Prop}
theorem t6 (l:List fC) (hl:l.length<2^20):aB Tryz.prog eE [dS (l.map eCJ)] (hp []) 0
 fun r H' n'=>∃cap,l.length≤cap∧n'=1∧H'=hp [(0,⟨3,cap,l.map eCJ⟩)]∧r=dO 3 0 l.length cap:=by
 refine sN rfl fun Q hQ=> ?_
 unfold gB
 refine aM.seq (aM.EJ 3 ?_)
 repeat' (first| (with_reducible first| (refine hK _ _ _ ?_;clear hK K)| (refine hA ?_;clear hA hB A B)| (refine hB ?_;clear hA hB A B)|refine Z1 ?_|refine Z2 ?_|refine Z7 (fun h=> ?_) fun h=> ?_|refine fun(cap:Nat) (hcap:_≤cap)=> ?_|refine fun(hcp:_≤cap)=> ?_|refine fun(b:Bool)=> ?_)| (with_reducible first|refine Y2 fun K hK=> ?_|refine Y3 fun A B hA hB=> ?_)<;>(simp only[go_sem])| ((with_reducible refine Y8 ?_);try simp only[AQ.then,AQ.blk,reduceIte,Nat.reduceEqDiff])| ((with_reducible refine Z8 (fun h=> ?_) (fun h=> ?_))<;>try subst h)|refine⟨by omega,?_⟩|fail)
 all_goals first
  | (have hcap':=Nat.le_refl cap
     (refine hQ _ _ _ _ _ 1 (dO 3 0 l.length cap) (hp [(0,⟨3,cap,l.map eCJ⟩)]) _ _ (.inr rfl) rfl (fU [6] (by omega) (by repeat' (first| ((with_reducible refine C0 ?_);exact CQ (by omega) rfl rfl (by rfl) rfl)| ((with_reducible refine D0 ?_);refine CJ ?_)|fail)) ⟨⟨by simp,by simp[sgL],_,rfl,bP (aG yK _) rfl rfl⟩,trivial⟩ (by simp[sgL])) ?_)
     exact⟨cap,by omega,rfl,rfl,rfl⟩)
  | (have h0:l=[]:=List.eq_nil_of_length_eq_zero (by omega)
     subst h0
     (refine hQ _ _ _ _ _ 1 (dO 3 0 0 0) (hp [(0,⟨3,0,([]:List fC).map eCJ⟩)]) _ _ (.inr rfl) rfl (fU [0] (by omega) (by repeat' (first| ((with_reducible refine C0 ?_);exact CC)| ((with_reducible refine D0 ?_);refine CJ ?_)|fail)) ⟨⟨by simp,by simp[sgL],_,rfl,bP (aG yK _) rfl rfl⟩,trivial⟩ (by simp[sgL])) ?_)
     exact⟨0,Nat.le_refl _,rfl,rfl,rfl⟩)
theorem tY {l:List fC} (hl:l.length<2^20) (h: ∀cap,l.length≤cap→K (dO 3 nx l.length cap) (H.set nx ⟨3,cap,l.map eCJ⟩) (nx+1)):aB Tryz.prog eE [dS (l.map eCJ)] H nx K:=by
 refine(t6 l hl).AF (l0:=[]) [] rfl ⟨aE rfl,trivial⟩ trivial (by simp) (by simp) (by simp) fun r H' n' _ ⟨cap,q0,q1,q2,q3⟩=> ?_
 have h:=h cap q0
 subst q1;subst q2;subst q3
 have e1:back (tau 0 nx (nth [])) (hp [(0,⟨3,cap,l.map eCJ⟩)]) 1 H=H.set nx ⟨3,cap,l.map eCJ⟩:=by
  simp only[back,hp,aA.set,tau,Nat.not_lt_zero,if_true,if_false,Nat.sub_zero,Nat.add_zero,Option.map_some,XO,aA.eL]
 rw[←e1] at h
 exact h
theorem uX (l:List fC) (cap m:Nat) (hl:l.length<2^20) (hc:l.length≤cap):aB Tryz.prog eQ [dO 3 0 l.length cap] (hp [(0,⟨3,m,l.map eCJ⟩)]) 1
 fun r H' n'=>n'=1∧ ∃o',H'=hp [(0,o')]∧C7 o'∧o'=⟨3,m,l.map eCJ⟩∧r=dO 3 0 l.length l.length:=by
 refine uS rfl fun Q hQ=> ?_
 unfold gK
 repeat' (first| (with_reducible first| (refine hK _ _ _ ?_;clear hK K)|refine Z1 ?_)| (with_reducible refine Y2 fun K hK=> ?_)<;>(simp only[go_sem])| ((with_reducible refine Y8 ?_);try simp only[AQ.then,AQ.blk,reduceIte,Nat.reduceEqDiff])|refine⟨by omega,?_⟩|fail)
 exact lA hQ (dO 3 0 l.length l.length) _ _ rfl (by repeat' (first| ((with_reducible refine C0 ?_);exact CQ (by omega) rfl rfl (by rfl) rfl)| ((with_reducible refine D0 ?_);refine CJ ?_)|fail)) rfl (oB yK _) ⟨rfl,rfl⟩
theorem vQ {l:List fC} {cap m i:Nat} (hl:l.length<2^20) (hc:l.length≤cap) (hi:i<nx) (ho:H i=some ⟨3,m,l.map eCJ⟩) (h:K (dO 3 i l.length l.length) (H.set i ⟨3,m,l.map eCJ⟩) nx):
 aB Tryz.prog eQ [dO 3 i l.length cap] H nx K:=
 (uX l cap m hl hc).OU i rfl (gW ⟨qS (by omega) rfl rfl rfl rfl,trivial⟩) hi ho (oB yK _) fun r o' ⟨h1,h2⟩=>by
  subst h1;subst h2;exact h
theorem AI (l:List fC) (hl:l.length<2^20):aB Tryz.prog eK [dS (l.map eCJ)] (hp []) 0
 fun r H' n'=>∃cap,l.length≤cap∧n'=1∧H'=hp [(0,⟨3,cap,l.map eCJ⟩)]∧r=dO 3 0 l.length l.length:=by
 refine y7 rfl fun Q hQ=> ?_
 unfold i9
 repeat' (first| (with_reducible first| (refine hK _ _ _ ?_;clear hK K)|refine Z1 ?_)| (first| (with_reducible refine Y2 fun K hK=> ?_)| (refine tY hl (fun cap hcap=> ?_))| (refine vQ hl hcap (by omega) rfl ?_))<;>(simp only[go_sem])| ((with_reducible refine Y8 ?_);try simp only[AQ.then,AQ.blk,reduceIte,Nat.reduceEqDiff])|fail)
 (refine hQ _ _ _ _ _ 1 (dO 3 0 l.length l.length) (hp [(0,⟨3,cap,l.map eCJ⟩)]) _ _ (.inr rfl) rfl (fU [5] (by omega) (by repeat' (first| ((with_reducible refine C0 ?_);exact CQ (by omega) rfl rfl (by rfl) rfl)| ((with_reducible refine D0 ?_);refine CJ ?_)|fail)) ⟨⟨by simp,by simp[sgL],_,rfl,bP (aG yK _) rfl rfl⟩,trivial⟩ (by simp[sgL])) ?_)
 exact⟨cap,hcap,rfl,rfl,rfl⟩
theorem oD {l:List fC} (hl:l.length<2^20) (h: ∀m,l.length≤m→K (dO 3 nx l.length l.length) (H.set nx ⟨3,m,l.map eCJ⟩) (nx+1)):aB Tryz.prog eK [dS (l.map eCJ)] H nx K:=by
 refine(AI l hl).AF (l0:=[]) [] rfl ⟨aE rfl,trivial⟩ trivial (by simp) (by simp) (by simp) fun r H' n' _ ⟨cap,q0,q1,q2,q3⟩=> ?_
 have h:=h cap q0
 subst q1;subst q2;subst q3
 have e1:back (tau 0 nx (nth [])) (hp [(0,⟨3,cap,l.map eCJ⟩)]) 1 H=H.set nx ⟨3,cap,l.map eCJ⟩:=by
  simp only[back,hp,aA.set,tau,Nat.not_lt_zero,if_true,if_false,Nat.sub_zero,Nat.add_zero,Option.map_some,XO,aA.eL]
 rw[←e1] at h
 exact h
theorem VV {τ:Nat→Nat} {n m:Nat} {l:List fR}:bA.rn τ ⟨n,m,l.map cD⟩=⟨n,m,l.map cD⟩:=by
 refine rF fun r hr x hx=> ?_
 obtain⟨y,_,rfl⟩:=List.mem_map.1 hr
 exact List.all_eq_true.1 (t7 y).2 x hx
theorem r7 (l:List fR) (hl:l.length<2^20):aB Tryz.prog dL [dS (l.map cD)] (hp []) 0
 fun r H' n'=>∃cap,l.length≤cap∧n'=1∧H'=hp [(0,⟨4,cap,l.map cD⟩)]∧r=dO 4 0 l.length cap:=by
 refine qV rfl fun Q hQ=> ?_
 unfold fN
 refine aM.seq (aM.EJ 4 ?_)
 repeat' (first| (with_reducible first| (refine hK _ _ _ ?_;clear hK K)| (refine hA ?_;clear hA hB A B)| (refine hB ?_;clear hA hB A B)|refine Z1 ?_|refine Z2 ?_|refine Z7 (fun h=> ?_) fun h=> ?_|refine fun(cap:Nat) (hcap:_≤cap)=> ?_|refine fun(hcp:_≤cap)=> ?_|refine fun(b:Bool)=> ?_)| (with_reducible first|refine Y2 fun K hK=> ?_|refine Y3 fun A B hA hB=> ?_)<;>(simp only[go_sem])| ((with_reducible refine Y8 ?_);try simp only[AQ.then,AQ.blk,reduceIte,Nat.reduceEqDiff])| ((with_reducible refine Z8 (fun h=> ?_) (fun h=> ?_))<;>try subst h)|refine⟨by omega,?_⟩|fail)
 all_goals first
  | (have hcap':=Nat.le_refl cap
     (refine hQ _ _ _ _ _ 1 (dO 4 0 l.length cap) (hp [(0,⟨4,cap,l.map cD⟩)]) _ _ (.inr rfl) rfl (fU [6] (by omega) (by repeat' (first| ((with_reducible refine C0 ?_);exact CQ (by omega) rfl rfl (by rfl) rfl)| ((with_reducible refine D0 ?_);refine CJ ?_)|fail)) ⟨⟨by simp,by simp[sgL],_,rfl,bP (aG t7 _) rfl rfl⟩,trivial⟩ (by simp[sgL])) ?_)
     exact⟨cap,by omega,rfl,rfl,rfl⟩)
  | (have h0:l=[]:=List.eq_nil_of_length_eq_zero (by omega)
     subst h0
     (refine hQ _ _ _ _ _ 1 (dO 4 0 0 0) (hp [(0,⟨4,0,([]:List fR).map cD⟩)]) _ _ (.inr rfl) rfl (fU [0] (by omega) (by repeat' (first| ((with_reducible refine C0 ?_);exact CC)| ((with_reducible refine D0 ?_);refine CJ ?_)|fail)) ⟨⟨by simp,by simp[sgL],_,rfl,bP (aG t7 _) rfl rfl⟩,trivial⟩ (by simp[sgL])) ?_)
     exact⟨0,Nat.le_refl _,rfl,rfl,rfl⟩)
theorem sC {l:List fR} (hl:l.length<2^20) (h: ∀cap,l.length≤cap→K (dO 4 nx l.length cap) (H.set nx ⟨4,cap,l.map cD⟩) (nx+1)):aB Tryz.prog dL [dS (l.map cD)] H nx K:=by
 refine(r7 l hl).AF (l0:=[]) [] rfl ⟨aE rfl,trivial⟩ trivial (by simp) (by simp) (by simp) fun r H' n' _ ⟨cap,q0,q1,q2,q3⟩=> ?_
 have h:=h cap q0
 subst q1;subst q2;subst q3
 have e1:back (tau 0 nx (nth [])) (hp [(0,⟨4,cap,l.map cD⟩)]) 1 H=H.set nx ⟨4,cap,l.map cD⟩:=by
  simp only[back,hp,aA.set,tau,Nat.not_lt_zero,if_true,if_false,Nat.sub_zero,Nat.add_zero,Option.map_some,VV,aA.eL]
 rw[←e1] at h
 exact h
theorem tJ (l:List fR) (cap m:Nat) (hl:l.length<2^20) (hc:l.length≤cap):aB Tryz.prog dV [dO 4 0 l.length cap] (hp [(0,⟨4,m,l.map cD⟩)]) 1
 fun r H' n'=>n'=1∧ ∃o',H'=hp [(0,o')]∧C7 o'∧o'=⟨4,m,l.map cD⟩∧r=dO 4 0 l.length l.length:=by
 refine r9 rfl fun Q hQ=> ?_
 unfold fV
 repeat' (first| (with_reducible first| (refine hK _ _ _ ?_;clear hK K)|refine Z1 ?_)| (with_reducible refine Y2 fun K hK=> ?_)<;>(simp only[go_sem])| ((with_reducible refine Y8 ?_);try simp only[AQ.then,AQ.blk,reduceIte,Nat.reduceEqDiff])|refine⟨by omega,?_⟩|fail)
 exact lA hQ (dO 4 0 l.length l.length) _ _ rfl (by repeat' (first| ((with_reducible refine C0 ?_);exact CQ (by omega) rfl rfl (by rfl) rfl)| ((with_reducible refine D0 ?_);refine CJ ?_)|fail)) rfl (oB t7 _) ⟨rfl,rfl⟩
theorem sT {l:List fR} {cap m i:Nat} (hl:l.length<2^20) (hc:l.length≤cap) (hi:i<nx) (ho:H i=some ⟨4,m,l.map cD⟩) (h:K (dO 4 i l.length l.length) (H.set i ⟨4,m,l.map cD⟩) nx):
 aB Tryz.prog dV [dO 4 i l.length cap] H nx K:=
 (tJ l cap m hl hc).OU i rfl (gW ⟨qS (by omega) rfl rfl rfl rfl,trivial⟩) hi ho (oB t7 _) fun r o' ⟨h1,h2⟩=>by
  subst h1;subst h2;exact h
theorem yZ (l:List fR) (hl:l.length<2^20):aB Tryz.prog fY [dS (l.map cD)] (hp []) 0
 fun r H' n'=>∃cap,l.length≤cap∧n'=1∧H'=hp [(0,⟨4,cap,l.map cD⟩)]∧r=dO 4 0 l.length l.length:=by
 refine yL rfl fun Q hQ=> ?_
 unfold iV
 repeat' (first| (with_reducible first| (refine hK _ _ _ ?_;clear hK K)|refine Z1 ?_)| (first| (with_reducible refine Y2 fun K hK=> ?_)| (refine sC hl (fun cap hcap=> ?_))| (refine sT hl hcap (by omega) rfl ?_))<;>(simp only[go_sem])| ((with_reducible refine Y8 ?_);try simp only[AQ.then,AQ.blk,reduceIte,Nat.reduceEqDiff])|fail)
 (refine hQ _ _ _ _ _ 1 (dO 4 0 l.length l.length) (hp [(0,⟨4,cap,l.map cD⟩)]) _ _ (.inr rfl) rfl (fU [5] (by omega) (by repeat' (first| ((with_reducible refine C0 ?_);exact CQ (by omega) rfl rfl (by rfl) rfl)| ((with_reducible refine D0 ?_);refine CJ ?_)|fail)) ⟨⟨by simp,by simp[sgL],_,rfl,bP (aG t7 _) rfl rfl⟩,trivial⟩ (by simp[sgL])) ?_)
 exact⟨cap,hcap,rfl,rfl,rfl⟩
theorem yX {l:List fR} (hl:l.length<2^20) (h: ∀m,l.length≤m→K (dO 4 nx l.length l.length) (H.set nx ⟨4,m,l.map cD⟩) (nx+1)):aB Tryz.prog fY [dS (l.map cD)] H nx K:=by
 refine(yZ l hl).AF (l0:=[]) [] rfl ⟨aE rfl,trivial⟩ trivial (by simp) (by simp) (by simp) fun r H' n' _ ⟨cap,q0,q1,q2,q3⟩=> ?_
 have h:=h cap q0
 subst q1;subst q2;subst q3
 have e1:back (tau 0 nx (nth [])) (hp [(0,⟨4,cap,l.map cD⟩)]) 1 H=H.set nx ⟨4,cap,l.map cD⟩:=by
  simp only[back,hp,aA.set,tau,Nat.not_lt_zero,if_true,if_false,Nat.sub_zero,Nat.add_zero,Option.map_some,VV,aA.eL]
 rw[←e1] at h
 exact h
theorem ZC {τ:Nat→Nat} {n m:Nat} {l:List nY}:bA.rn τ ⟨n,m,l.map gF⟩=⟨n,m,l.map gF⟩:=by
 refine rF fun r hr x hx=> ?_
 obtain⟨y,_,rfl⟩:=List.mem_map.1 hr
 exact List.all_eq_true.1 (zJ y).2 x hx
theorem qB (l:List nY) (hl:l.length<2^20):aB Tryz.prog cZ [dS (l.map gF)] (hp []) 0
 fun r H' n'=>∃cap,l.length≤cap∧n'=1∧H'=hp [(0,⟨3,cap,l.map gF⟩)]∧r=dO 3 0 l.length cap:=by
 refine oY rfl fun Q hQ=> ?_
 unfold eW
 refine aM.seq (aM.EJ 3 ?_)
 repeat' (first| (with_reducible first| (refine hK _ _ _ ?_;clear hK K)| (refine hA ?_;clear hA hB A B)| (refine hB ?_;clear hA hB A B)|refine Z1 ?_|refine Z2 ?_|refine Z7 (fun h=> ?_) fun h=> ?_|refine fun(cap:Nat) (hcap:_≤cap)=> ?_|refine fun(hcp:_≤cap)=> ?_|refine fun(b:Bool)=> ?_)| (with_reducible first|refine Y2 fun K hK=> ?_|refine Y3 fun A B hA hB=> ?_)<;>(simp only[go_sem])| ((with_reducible refine Y8 ?_);try simp only[AQ.then,AQ.blk,reduceIte,Nat.reduceEqDiff])| ((with_reducible refine Z8 (fun h=> ?_) (fun h=> ?_))<;>try subst h)|refine⟨by omega,?_⟩|fail)
 all_goals first
  | (have hcap':=Nat.le_refl cap
     (refine hQ _ _ _ _ _ 1 (dO 3 0 l.length cap) (hp [(0,⟨3,cap,l.map gF⟩)]) _ _ (.inr rfl) rfl (fU [6] (by omega) (by repeat' (first| ((with_reducible refine C0 ?_);exact CQ (by omega) rfl rfl (by rfl) rfl)| ((with_reducible refine D0 ?_);refine CJ ?_)|fail)) ⟨⟨by simp,by simp[sgL],_,rfl,bP (aG zJ _) rfl rfl⟩,trivial⟩ (by simp[sgL])) ?_)
     exact⟨cap,by omega,rfl,rfl,rfl⟩)
  | (have h0:l=[]:=List.eq_nil_of_length_eq_zero (by omega)
     subst h0
     (refine hQ _ _ _ _ _ 1 (dO 3 0 0 0) (hp [(0,⟨3,0,([]:List nY).map gF⟩)]) _ _ (.inr rfl) rfl (fU [0] (by omega) (by repeat' (first| ((with_reducible refine C0 ?_);exact CC)| ((with_reducible refine D0 ?_);refine CJ ?_)|fail)) ⟨⟨by simp,by simp[sgL],_,rfl,bP (aG zJ _) rfl rfl⟩,trivial⟩ (by simp[sgL])) ?_)
     exact⟨0,Nat.le_refl _,rfl,rfl,rfl⟩)
theorem qG {l:List nY} (hl:l.length<2^20) (h: ∀cap,l.length≤cap→K (dO 3 nx l.length cap) (H.set nx ⟨3,cap,l.map gF⟩) (nx+1)):aB Tryz.prog cZ [dS (l.map gF)] H nx K:=by
 refine(qB l hl).AF (l0:=[]) [] rfl ⟨aE rfl,trivial⟩ trivial (by simp) (by simp) (by simp) fun r H' n' _ ⟨cap,q0,q1,q2,q3⟩=> ?_
 have h:=h cap q0
 subst q1;subst q2;subst q3
 have e1:back (tau 0 nx (nth [])) (hp [(0,⟨3,cap,l.map gF⟩)]) 1 H=H.set nx ⟨3,cap,l.map gF⟩:=by
  simp only[back,hp,aA.set,tau,Nat.not_lt_zero,if_true,if_false,Nat.sub_zero,Nat.add_zero,Option.map_some,ZC,aA.eL]
 rw[←e1] at h
 exact h
theorem rJ (l:List nY) (cap m:Nat) (hl:l.length<2^20) (hc:l.length≤cap):aB Tryz.prog dE [dO 3 0 l.length cap] (hp [(0,⟨3,m,l.map gF⟩)]) 1
 fun r H' n'=>n'=1∧ ∃o',H'=hp [(0,o')]∧C7 o'∧o'=⟨3,m,l.map gF⟩∧r=dO 3 0 l.length l.length:=by
 refine qF rfl fun Q hQ=> ?_
 unfold fG
 repeat' (first| (with_reducible first| (refine hK _ _ _ ?_;clear hK K)|refine Z1 ?_)| (with_reducible refine Y2 fun K hK=> ?_)<;>(simp only[go_sem])| ((with_reducible refine Y8 ?_);try simp only[AQ.then,AQ.blk,reduceIte,Nat.reduceEqDiff])|refine⟨by omega,?_⟩|fail)
 exact lA hQ (dO 3 0 l.length l.length) _ _ rfl (by repeat' (first| ((with_reducible refine C0 ?_);exact CQ (by omega) rfl rfl (by rfl) rfl)| ((with_reducible refine D0 ?_);refine CJ ?_)|fail)) rfl (oB zJ _) ⟨rfl,rfl⟩
theorem qZ {l:List nY} {cap m i:Nat} (hl:l.length<2^20) (hc:l.length≤cap) (hi:i<nx) (ho:H i=some ⟨3,m,l.map gF⟩) (h:K (dO 3 i l.length l.length) (H.set i ⟨3,m,l.map gF⟩) nx):
 aB Tryz.prog dE [dO 3 i l.length cap] H nx K:=
 (rJ l cap m hl hc).OU i rfl (gW ⟨qS (by omega) rfl rfl rfl rfl,trivial⟩) hi ho (oB zJ _) fun r o' ⟨h1,h2⟩=>by
  subst h1;subst h2;exact h
theorem yJ (l:List nY) (hl:l.length<2^20):aB Tryz.prog fM [dS (l.map gF)] (hp []) 0
 fun r H' n'=>∃cap,l.length≤cap∧n'=1∧H'=hp [(0,⟨3,cap,l.map gF⟩)]∧r=dO 3 0 l.length l.length:=by
 refine wE rfl fun Q hQ=> ?_
 unfold iB
 repeat' (first| (with_reducible first| (refine hK _ _ _ ?_;clear hK K)|refine Z1 ?_)| (first| (with_reducible refine Y2 fun K hK=> ?_)| (refine qG hl (fun cap hcap=> ?_))| (refine qZ hl hcap (by omega) rfl ?_))<;>(simp only[go_sem])| ((with_reducible refine Y8 ?_);try simp only[AQ.then,AQ.blk,reduceIte,Nat.reduceEqDiff])|fail)
 (refine hQ _ _ _ _ _ 1 (dO 3 0 l.length l.length) (hp [(0,⟨3,cap,l.map gF⟩)]) _ _ (.inr rfl) rfl (fU [5] (by omega) (by repeat' (first| ((with_reducible refine C0 ?_);exact CQ (by omega) rfl rfl (by rfl) rfl)| ((with_reducible refine D0 ?_);refine CJ ?_)|fail)) ⟨⟨by simp,by simp[sgL],_,rfl,bP (aG zJ _) rfl rfl⟩,trivial⟩ (by simp[sgL])) ?_)
 exact⟨cap,hcap,rfl,rfl,rfl⟩
theorem xA {l:List nY} (hl:l.length<2^20) (h: ∀m,l.length≤m→K (dO 3 nx l.length l.length) (H.set nx ⟨3,m,l.map gF⟩) (nx+1)):aB Tryz.prog fM [dS (l.map gF)] H nx K:=by
 refine(yJ l hl).AF (l0:=[]) [] rfl ⟨aE rfl,trivial⟩ trivial (by simp) (by simp) (by simp) fun r H' n' _ ⟨cap,q0,q1,q2,q3⟩=> ?_
 have h:=h cap q0
 subst q1;subst q2;subst q3
 have e1:back (tau 0 nx (nth [])) (hp [(0,⟨3,cap,l.map gF⟩)]) 1 H=H.set nx ⟨3,cap,l.map gF⟩:=by
  simp only[back,hp,aA.set,tau,Nat.not_lt_zero,if_true,if_false,Nat.sub_zero,Nat.add_zero,Option.map_some,ZC,aA.eL]
 rw[←e1] at h
 exact h
end
end Go.Proofs.YtegiblhkjfiooaaGreat
end
section
namespace Go.Proofs.YtegiblhkjfiooaaGreat
open Go Go.AM
set_option maxRecDepth 100000
set_option maxHeartbeats 8000000
theorem BJ:cJ Tryz.prog cV Tryz.f63 kM pR:=cJ.mk Tryz.func63 (by kernel_rfl) AZ
end Go.Proofs.YtegiblhkjfiooaaGreat
namespace Go.AM
structure Part (A:Nat→Prop) (lo hi:Nat) (nm:Nat→Nat):Prop where
 inj: ∀j k,A j→A k→nm j=nm k→j=k
 rng: ∀k,A k→lo≤nm k∧nm k<hi
theorem Part.mono {A:Nat→Prop} {lo hi hi':Nat} {nm:Nat→Nat} (h:Part A lo hi nm) (hh:hi≤hi'):Part A lo hi' nm:=⟨h.inj,fun k hk=>by have:=h.rng k hk;omega⟩
theorem Part.put {A B:Nat→Prop} {lo hi hi' k v:Nat} {nm:Nat→Nat} (h:Part A lo hi nm) (h0:lo≤hi) (h1:hi≤v) (h2:v<hi') (hB: ∀j,B j→A j∧j≠k∨j=k):Part B lo hi' (put nm k v):=by
 refine⟨fun i j hi hj he=> ?_,fun j hj=> ?_⟩
 ·rcases hB i hi with⟨az9,az2⟩|rfl<;>rcases hB j hj with⟨b1,b2⟩|rfl
  ·rw[jE az2,jE b2] at he;exact h.inj i j az9 b1 he
  ·rw[jE az2,t8] at he;have:=h.rng i az9;omega
  ·rw[jE b2,t8] at he;have:=h.rng j b1;omega
  ·rfl
 ·rcases hB j hj with⟨az9,az2⟩|rfl
  ·rw[jE az2];have:=h.rng j az9;omega
  ·rw[t8];omega
structure CSz (s:CSt):Prop where
 pl:s.bM.length=3
 sl:s.dD.length=4
 w:s.words.length<2^20
 h:s.holds.length<2^20
 t:s.told.length<2^20∧ ∀j∈s.told,j.rsp.data.length<2^20
 port: ∀k,k<3→(aF s k).queue.length<2^20∧(aF s k).out.length<2^20
 slv: ∀k,k<4→(aL s k).pipe.length<2^20∧(aL s k).done.length<2^20∧ ∀j∈(aL s k).done,j.rsp.data.length<2^20
theorem aM.TF {P:Program} {T:Nat} {e:Env} {H:aA} {nx:Nat} {Q:AQ} {zs:List AC} (h: ∀G,G=H→aM P T zs e G nx Q):aM P T zs e H nx Q:=h H rfl
def asA (k:Nat) (H:aA) (nm:Nat→Nat) (s:CSt) (rows:List (List D1)):Prop:=
 rows.length=3∧(∀j,j<k→∃r,rows[j]?=some r∧CX H (nm (5+j)) (nm (8+j)) (aF s j) r)∧ ∀j,k≤j→j<3→rows[j]?=some (cD (aF s j))
def asP (k:Nat) (H:aA) (nm:Nat→Nat) (s:CSt) (rows:List (List D1)):Prop:=
 rows.length=4∧(∀j,j<k→∃r,rows[j]?=some r∧LJ H (nm (11+j)) (nm (15+j)) (aL s j) r)∧ ∀j,k≤j→j<4→rows[j]?=some (gF (aL s j))
end Go.AM
namespace Go.Proofs.YtegiblhkjfiooaaGreat
open Go Go.AM
set_option maxRecDepth 100000
set_option maxHeartbeats 8000000
section
variable {H : aA} {nx : Nat} {K : D → aA → Nat → Prop}
theorem fJ {s:CSt} (hs:CSz s)
 (h: ∀H' nx' nm cells,nx≤nx'→abY H' nm s cells→Part (fun k=>k<19) nx nx' nm→(∀id,id<nx→H' id=H id)→K (.one (.agg cells)) H' nx'):
 aB Tryz.prog cV [dA (eI s)] H nx K:=by
 have hpl:=hs.pl
 have hsl:=hs.sl
 refine BJ rfl fun Q hQ=> ?_
 unfold kM
 refine aM.BW fun hnm=> ?_
 have hmk: ∀k l,msk (nx+k) l H=H:=fun k l=>BV hnm (by omega)
 repeat' (first| (with_reducible first| (refine hK _ _ _ ?_;clear hK K)|refine Z1 ?_|refine Z3 fun KB hKB=> ?_)| (first| (with_reducible refine Y2 fun K hK=> ?_)| (refine qN (w:=s.words) (u:=s.holds) hs.w hs.h (fun m0 m1 hm0 hm1=> ?_))| (refine yX (l:=s.bM) (by omega) (fun m2 hm2=> ?_))| (refine xA (l:=s.dD) (by omega) (fun m3 hm3=> ?_))| (refine gY (l:=s.told) hs.t.1 hs.t.2 (fun m4 hm4=> ?_)))<;>(simp only[go_sem,Nat.add_assoc,Nat.left_eq_add,Nat.add_eq_left,hmk,umS (G:=H),umD (G:=H),umB,msk,List.map,List.mem_cons,List.not_mem_nil,or_false,hpl,hsl])|fail)
 refine aM.TF fun G0 hG0=> ?_
 have c0:G0 nx=some ⟨5,1,[eI s]⟩:=by rw[hG0];simp only[aA.set,Nat.add_left_cancel_iff,Nat.reduceEqDiff,Nat.add_eq_left,Nat.left_eq_add,if_false,if_true]
 have c1:G0 (nx+1)=some ⟨5,1,[[.osl 0 0 0 0 0,.osl 0 0 0 0 0,.osl 0 0 0 0 0,.osl 0 0 0 0 0,.osl 0 0 0 0 0]]⟩:=by rw[hG0];simp only[aA.set,Nat.add_left_cancel_iff,Nat.reduceEqDiff,Nat.add_eq_left,Nat.left_eq_add,if_false,if_true]
 have c15:G0 (nx+15)=some ⟨5,1,[[.osl 1 (nx+17) 0 s.words.length s.words.length,.osl 1 (nx+18) 0 s.holds.length s.holds.length,.osl 4 (nx+19) 0 3 3,.osl 3 (nx+20) 0 4 4,.osl 5 (nx+21) 0 s.told.length s.told.length]]⟩:=by rw[hG0];simp only[aA.set,Nat.add_left_cancel_iff,Nat.reduceEqDiff,Nat.add_eq_left,Nat.left_eq_add,if_false,if_true]
 have c17:G0 (nx+17)=some ⟨1,m0,s.words.map aJ⟩:=by rw[hG0];simp only[aA.set,Nat.add_left_cancel_iff,Nat.reduceEqDiff,Nat.add_eq_left,Nat.left_eq_add,if_false,if_true]
 have c18:G0 (nx+18)=some ⟨1,m1,s.holds.map aJ⟩:=by rw[hG0];simp only[aA.set,Nat.add_left_cancel_iff,Nat.reduceEqDiff,Nat.add_eq_left,Nat.left_eq_add,if_false,if_true]
 have c19:G0 (nx+19)=some ⟨4,m2,s.bM.map cD⟩:=by rw[hG0];simp only[aA.set,Nat.add_left_cancel_iff,Nat.reduceEqDiff,Nat.add_eq_left,Nat.left_eq_add,if_false,if_true]
 have c20:G0 (nx+20)=some ⟨3,m3,s.dD.map gF⟩:=by rw[hG0];simp only[aA.set,Nat.add_left_cancel_iff,Nat.reduceEqDiff,Nat.add_eq_left,Nat.left_eq_add,if_false,if_true]
 have c21:G0 (nx+21)=some ⟨5,m4,s.told.map aS⟩:=by rw[hG0];simp only[aA.set,Nat.add_left_cancel_iff,Nat.reduceEqDiff,Nat.add_eq_left,Nat.left_eq_add,if_false,if_true]
 have cfr: ∀id,id<nx→G0 id=H id:=fun id hid=>by
  rw[hG0];simp only[aA.set,show ¬id=nx by omega,show ¬id=nx+1 by omega,show ¬id=nx+15 by omega,show ¬id=nx+17 by omega,show ¬id=nx+18 by omega,show ¬id=nx+19 by omega,show ¬id=nx+20 by omega,show ¬id=nx+21 by omega,if_false]
 clear hG0
 (have hKX:=hKB;clear hKB)
 refine aM.gP (β:=Nat×(Nat→Nat)) (fun u=>en [(24,dI u.1),(23,dI 3),(22,dS (s.bM.map cD)),(3,.one (.c (.ptr 5 (nx+15) 0 0))),(2,.one (.c (.ptr 5 (nx+1) 0 0))),(1,.one (.c (.ptr 5 nx 0 0)))])
  (fun u H1 nx1=>u.1≤3∧(∀j,j<5→u.2 j=nx+17+j)∧Part (fun j=>j<5∨(5≤j∧j<5+u.1)∨(8≤j∧j<8+u.1)) (nx+17) nx1 u.2∧(∀id,id<nx+22→id≠nx+19→H1 id=G0 id)∧ ∃rows,H1 (nx+19)=some ⟨4,m2,rows⟩∧asA u.1 H1 u.2 s rows)
  (fun u=>3-u.1) (0,fun j=>nx+17+j) ⟨noF,_,by repeat' (first| (with_reducible first|exact C1|refine C2 ?_ ?_)| ((with_reducible refine C0 ?_);exact CE (by omega) rfl)| ((with_reducible refine D0 ?_);first|exact CA rfl|refine CJ ?_)|fail),aK,by dsimp only;omega,fun _ _=>rfl,⟨fun j k _ _ he=>by dsimp only at he;omega,fun j hj=>by dsimp only at hj ⊢;omega⟩,fun _ _ _=>rfl,_,c19,by simpa using hpl,fun j hj=>by dsimp only at hj;omega,fun j _ hj=>by rw[List.getElem?_map];simp[aF,List.getD,show j<s.bM.length by omega]⟩ ?_
 rintro⟨k,nm⟩ H1 nx1 hnx ⟨hk,hn5,hP,hfr,rows,g19,hR1,hR2,hR3⟩ KL hKL
 dsimp only at hk hn5 hP hR2 hR3
 have g0:H1 nx=some ⟨5,1,[eI s]⟩:=by rw[hfr _ (by omega) (by omega)];exact c0
 have g15:H1 (nx+15)=some ⟨5,1,[[.osl 1 (nx+17) 0 s.words.length s.words.length,.osl 1 (nx+18) 0 s.holds.length s.holds.length,.osl 4 (nx+19) 0 3 3,.osl 3 (nx+20) 0 4 4,.osl 5 (nx+21) 0 s.told.length s.told.length]]⟩:=by rw[hfr _ (by omega) (by omega)];exact c15
 have hA:bQ nx1 [nx,nx+1,nx+15,nx+19,nx+20]:=AM.apart (by simp) (by simp;omega)
 simp only[bQ,eZ] at hA
 by_cases hlt:k<3
 ·obtain⟨p,hpd⟩: ∃p,p=aF s k:=⟨_,rfl⟩
  have hpd':s.bM.getD k default=p:=hpd.symm
  obtain⟨hq,ho⟩:=hs.port k hlt
  rw[←hpd] at hq ho
  have hgk: ∀r,(rows.set k r)[k]?=some r:=fun r=>by rw[List.getElem?_set_self (by omega)]
  have hrk:=hR3 k (Nat.le_refl _) hlt
  rw[←hpd] at hrk
  refine aM.BW fun hnm1=> ?_
  have hmk1: ∀k l,msk (nx1+k) l H1=H1:=fun k l=>BV hnm1 (by omega)
  repeat' (first| (with_reducible first| (refine hK _ _ _ ?_;clear hK K)| (refine hA ?_;clear hA hB A B)|refine Z1 ?_|refine Z2 ?_|refine Z3 fun KB hKB=> ?_|refine Z4 (by omega) ?_)| (first| (with_reducible first|refine Y2 fun K hK=> ?_|refine Y3 fun A B hA hB=> ?_)| (refine kH (l:=p.queue) hq (fun mq hmq=> ?_))| (refine oD (l:=p.out) ho (fun mo hmo=> ?_)))<;>(simp only[go_sem,Nat.add_assoc,Nat.left_eq_add,Nat.add_eq_left,hmk1,umS (G:=H1),umD (G:=H1),umB,msk,List.map,List.mem_cons,List.not_mem_nil,or_false,hpd',hgk,hrk,List.set_set,g0,g15,g19,hA];try simp (disch:=omega) only[Iw])| ((with_reducible refine Y0 ?_);simp only[AQ.then,AQ.blk])|refine⟨by omega,?_⟩| (with_reducible refine hKB _ _ _ ?_)|fail)
  have hq19: ∀j,j<5∨(5≤j∧j<5+k)∨(8≤j∧j<8+k)→j≠2→nm j≠nx+19:=fun j hj h2 he=>h2 (hP.inj j 2 hj (.inl (by omega)) (by rw[he,hn5 2 (by omega)]))
  refine hKL _ _ _ (k+1,put (put nm (5+k) (nx1+25)) (8+k) (nx1+26)) noF _ (by omega) (by dsimp only;omega) (by repeat' (first| (with_reducible first|exact C1|refine C2 ?_ ?_)| ((with_reducible refine C0 ?_);exact CE (by omega) rfl)| ((with_reducible refine D0 ?_);first|exact CA rfl|refine CJ ?_)|fail)) aK ⟨by dsimp only;omega,fun j hj=> ?_,?_,fun id e0 e1=> ?_,_,aA.bH,?_,fun j hj=> ?_,fun j h1 h2=> ?_⟩
  ·dsimp only;rw[jE (by omega),jE (by omega)];exact hn5 j hj
  ·exact(hP.put (B:=fun j=>j<5∨(5≤j∧j<5+(k+1))∨(8≤j∧j<8+k)) (hi':=nx1+26) (by omega) (by omega) (by omega) (fun j hj=>by first|omega| (dsimp only at*;omega))).put (by omega) (by omega) (by omega) (fun j hj=>by first|omega| (dsimp only at*;omega))
  ·rw[aA.aC e1,aA.aC (by omega),aA.aC (by omega),aA.aC (by omega)];exact hfr id e0 e1
  ·rw[List.length_set];exact hR1
  ·dsimp only at hj ⊢
   by_cases hjk:j=k
   ·subst hjk
    refine⟨_,hgk _,⟨0,p.queue.length,p.out.length,?_,?_,?_⟩⟩
    ·rw[jE (by omega),t8,t8,←hpd];rfl
    ·rw[jE (by omega),t8,←hpd]
     exact⟨mq,p.queue.map aJ,by rw[aA.aC (by omega),aA.aC (by omega)];exact aA.bH,rfl,by simp,by simp,Nat.le_refl _,by omega⟩
    ·rw[t8,←hpd]
     exact⟨mo,p.out.map eCJ,by rw[aA.aC (by omega)];exact aA.bH,rfl,by simp,by simp,Nat.le_refl _,by omega⟩
   ·obtain⟨r,h1,h2⟩:=hR2 j (by omega)
    have aAA:=hP.rng (5+j) (.inr (.inl ⟨by omega,by omega⟩))
    have aAB:=hP.rng (8+j) (.inr (.inr ⟨by omega,by omega⟩))
    refine⟨r,by rw[List.getElem?_set_ne (by omega)];exact h1,?_⟩
    rw[jE (show 5+j≠8+k by omega),jE (show 5+j≠5+k by omega),jE (show 8+j≠8+k by omega),jE (show 8+j≠5+k by omega)]
    refine h2.frame ?_ ?_
    ·rw[aA.aC (hq19 _ (.inr (.inl ⟨by omega,by omega⟩)) (by omega)),aA.aC (by omega),aA.aC (by omega),aA.aC (by omega)]
    ·rw[aA.aC (hq19 _ (.inr (.inr ⟨by omega,by omega⟩)) (by omega)),aA.aC (by omega),aA.aC (by omega),aA.aC (by omega)]
  ·dsimp only at h1 ⊢
   rw[List.getElem?_set_ne (by omega)];exact hR3 j (by omega) h2
 ·repeat' (first| (with_reducible first| (refine hK _ _ _ ?_;clear hK K)| (refine hB ?_;clear hA hB A B)|refine Z1 ?_|refine Z3 fun KB hKB=> ?_|refine Z5 (by omega) ?_|refine hKX _ _ _ ?_)| (with_reducible first|refine Y2 fun K hK=> ?_|refine Y3 fun A B hA hB=> ?_)<;>(simp only[go_sem,g0])| ((with_reducible refine Y9 ?_);try simp only[AQ.then,AQ.blk,reduceIte,Nat.reduceEqDiff])|fail)
  have hk3:k=3:=by omega
  subst hk3
  have g20:H1 (nx+20)=some ⟨3,m3,s.dD.map gF⟩:=by rw[hfr _ (by omega) (by omega)];exact c20
  (have hKY:=hKB;clear hKB)
  refine aM.gP (β:=Nat×(Nat→Nat)) (fun u=>en [(49,dI u.1),(48,dI 4),(47,dS (s.dD.map gF)),(3,.one (.c (.ptr 5 (nx+15) 0 0))),(2,.one (.c (.ptr 5 (nx+1) 0 0)))])
   (fun u H2 nx2=>u.1≤4∧(∀j,j<11→u.2 j=nm j)∧Part (fun j=>j<11∨(11≤j∧j<11+u.1)∨(15≤j∧j<15+u.1)) (nx+17) nx2 u.2∧(∀id,id<nx1→id≠nx+20→H2 id=H1 id)∧ ∃rv,H2 (nx+20)=some ⟨3,m3,rv⟩∧asP u.1 H2 u.2 s rv)
   (fun u=>4-u.1) (0,nm) ⟨noF,_,by repeat' (first| (with_reducible first|exact C1|refine C2 ?_ ?_)| ((with_reducible refine C0 ?_);first|exact CE (by omega) rfl| (exact CG (by(congr 2;omega)) rfl))| ((with_reducible refine D0 ?_);first|exact CA rfl|refine CJ ?_)|fail),aK,by dsimp only;omega,fun _ _=>rfl,⟨fun j k hj hk he=>hP.inj j k (by first|omega| (dsimp only at*;omega)) (by first|omega| (dsimp only at*;omega)) he,fun j hj=>by have:=hP.rng j (by first|omega| (dsimp only at*;omega));first|omega| (dsimp only at*;omega)⟩,fun _ _ _=>rfl,_,g20,by simpa using hsl,fun j hj=>by dsimp only at hj;omega,fun j _ hj=>by rw[List.getElem?_map];simp[aL,List.getD,show j<s.dD.length by omega]⟩ ?_
  rintro⟨k,nm2⟩ H2 nx2 hnx2 ⟨hk,hn11,hP2,hfr2,rv,f20,hV1,hV2,hV3⟩ KM hKM
  dsimp only at hk hn11 hP2 hV2 hV3
  have f15:H2 (nx+15)=some ⟨5,1,[[.osl 1 (nx+17) 0 s.words.length s.words.length,.osl 1 (nx+18) 0 s.holds.length s.holds.length,.osl 4 (nx+19) 0 3 3,.osl 3 (nx+20) 0 4 4,.osl 5 (nx+21) 0 s.told.length s.told.length]]⟩:=by rw[hfr2 _ (by omega) (by omega)];exact g15
  have f1:H2 (nx+1)=some ⟨5,1,[[.osl 0 0 0 0 0,.osl 0 0 0 0 0,.osl 0 0 0 0 0,.osl 0 0 0 0 0,.osl 0 0 0 0 0]]⟩:=by rw[hfr2 _ (by omega) (by omega),hfr _ (by omega) (by omega)];exact c1
  have hA2:bQ nx2 [nx,nx+1,nx+15,nx+19,nx+20]:=AM.apart (by simp) (by simp;omega)
  simp only[bQ,eZ] at hA2
  have hn3:nm2 3=nx+20:=by rw[hn11 3 (by omega),hn5 3 (by omega)]
  by_cases hlt:k<4
  ·obtain⟨v,hvd⟩: ∃v,v=aL s k:=⟨_,rfl⟩
   have hvd':s.dD.getD k default=v:=hvd.symm
   obtain⟨hq,ho,ho2⟩:=hs.slv k hlt
   rw[←hvd] at hq ho ho2
   have hgk: ∀r,(rv.set k r)[k]?=some r:=fun r=>by rw[List.getElem?_set_self (by omega)]
   have hrk:=hV3 k (Nat.le_refl _) hlt
   rw[←hvd] at hrk
   refine aM.BW fun hnm1=> ?_
   have hmk1: ∀k l,msk (nx2+k) l H2=H2:=fun k l=>BV hnm1 (by omega)
   repeat' (first| (with_reducible first| (refine hK _ _ _ ?_;clear hK K)| (refine hA ?_;clear hA hB A B)|refine Z1 ?_|refine Z2 ?_|refine Z3 fun KB hKB=> ?_|refine Z4 (by omega) ?_)| (first| (with_reducible first|refine Y2 fun K hK=> ?_|refine Y3 fun A B hA hB=> ?_)| (refine oD (l:=v.pipe) hq (fun mq hmq=> ?_))| (refine gY (l:=v.done) ho ho2 (fun mo hmo=> ?_)))<;>(simp only[go_sem,Nat.add_assoc,Nat.left_eq_add,Nat.add_eq_left,hmk1,umS (G:=H2),umD (G:=H2),umB,msk,List.map,List.mem_cons,List.not_mem_nil,or_false,hvd',hgk,hrk,List.set_set,f15,f20,hA2];try simp (disch:=omega) only[Iw])| ((with_reducible refine Y0 ?_);simp only[AQ.then,AQ.blk])|refine⟨by omega,?_⟩| (with_reducible refine hKB _ _ _ ?_)|fail)
   have hq20: ∀j,j<11∨(11≤j∧j<11+k)∨(15≤j∧j<15+k)→j≠3→nm2 j≠nx+20:=fun j hj h2 he=>h2 (hP2.inj j 3 hj (.inl (by omega)) (by rw[he,hn3]))
   refine hKM _ _ _ (k+1,put (put nm2 (11+k) (nx2+25)) (15+k) (nx2+26)) noF _ (by omega) (by dsimp only;omega) (by repeat' (first| (with_reducible first|exact C1|refine C2 ?_ ?_)| ((with_reducible refine C0 ?_);exact CE (by omega) rfl)| ((with_reducible refine D0 ?_);first|exact CA rfl|refine CJ ?_)|fail)) aK ⟨by dsimp only;omega,fun j hj=> ?_,?_,fun id e0 e1=> ?_,_,aA.bH,?_,fun j hj=> ?_,fun j h1 h2=> ?_⟩
   ·dsimp only;rw[jE (by omega),jE (by omega)];exact hn11 j hj
   ·exact(hP2.put (B:=fun j=>j<11∨(11≤j∧j<11+(k+1))∨(15≤j∧j<15+k)) (hi':=nx2+26) (by omega) (by omega) (by omega) (fun j hj=>by first|omega| (dsimp only at*;omega))).put (by omega) (by omega) (by omega) (fun j hj=>by first|omega| (dsimp only at*;omega))
   ·rw[aA.aC e1,aA.aC (by omega),aA.aC (by omega),aA.aC (by omega)];exact hfr2 id e0 e1
   ·rw[List.length_set];exact hV1
   ·dsimp only at hj ⊢
    by_cases hjk:j=k
    ·subst hjk
     refine⟨_,hgk _,⟨0,v.pipe.length,0,v.done.length,?_,?_,?_⟩⟩
     ·rw[jE (by omega),t8,t8,←hvd];rfl
     ·rw[jE (by omega),t8,←hvd]
      exact⟨mq,v.pipe.map eCJ,by rw[aA.aC (by omega),aA.aC (by omega)];exact aA.bH,rfl,by simp,by simp,Nat.le_refl _,by omega⟩
     ·rw[t8,←hvd]
      exact⟨mo,v.done.map aS,by rw[aA.aC (by omega)];exact aA.bH,rfl,by simp,by simp,Nat.le_refl _,by omega⟩
    ·obtain⟨r,h1,h2⟩:=hV2 j (by omega)
     have aAA:=hP2.rng (11+j) (.inr (.inl ⟨by omega,by omega⟩))
     have aAB:=hP2.rng (15+j) (.inr (.inr ⟨by omega,by omega⟩))
     refine⟨r,by rw[List.getElem?_set_ne (by omega)];exact h1,?_⟩
     rw[jE (show 11+j≠15+k by omega),jE (show 11+j≠11+k by omega),jE (show 15+j≠15+k by omega),jE (show 15+j≠11+k by omega)]
     refine h2.frame ?_ ?_
     ·rw[aA.aC (hq20 _ (.inr (.inl ⟨by omega,by omega⟩)) (by omega)),aA.aC (by omega),aA.aC (by omega),aA.aC (by omega)]
     ·rw[aA.aC (hq20 _ (.inr (.inr ⟨by omega,by omega⟩)) (by omega)),aA.aC (by omega),aA.aC (by omega),aA.aC (by omega)]
   ·dsimp only at h1 ⊢
    rw[List.getElem?_set_ne (by omega)];exact hV3 j (by omega) h2
  ·repeat' (first| (with_reducible first| (refine hK _ _ _ ?_;clear hK K)| (refine hB ?_;clear hA hB A B)|refine Z1 ?_|refine Z5 (by omega) ?_|refine hKY _ _ _ ?_)| (with_reducible first|refine Y2 fun K hK=> ?_|refine Y3 fun A B hA hB=> ?_)<;>(simp only[go_sem,f15,f1,hA2])| ((with_reducible first|refine Y8 ?_|refine Y9 ?_);try simp only[AQ.then,AQ.blk,reduceIte,Nat.reduceEqDiff])|fail)
   have hk4:k=4:=by omega
   subst hk4
   have e0: ∀j,j<5→nm2 j=nx+17+j:=fun j hj=>(hn11 j (by omega)).trans (hn5 j hj)
   have hrd: ∀id,id<nx+22→id≠nx+1→id≠nx+19→id≠nx+20→(H2.set (nx+1) ⟨5,1,[[.osl 1 (nx+17) 0 s.words.length s.words.length,.osl 1 (nx+18) 0 s.holds.length s.holds.length,.osl 4 (nx+19) 0 3 3,.osl 3 (nx+20) 0 4 4,.osl 5 (nx+21) 0 s.told.length s.told.length]]⟩) id=G0 id:=fun id h1 h2 h3 h4=>by
    rw[aA.aC h2,hfr2 id (by omega) h4,hfr id h1 h3]
   have hge: ∀j,j<19→nx+17≤nm2 j:=fun j hj=>(hP2.rng j (by first|omega| (dsimp only;omega))).1
   refine hQ _ _ _ _ _ (.inr rfl) (fZ rfl aA.bH rfl) (h _ _ nm2 _ (by omega) ⟨⟨s.words.length,s.holds.length,3,4,s.told.length,?_,?_,?_,?_,Nat.le_refl _,Nat.le_refl _⟩,⟨m2,rows,?_,hR1,fun j hj=> ?_⟩,⟨m3,rv,?_,hV1,fun j hj=> ?_⟩⟩ ⟨fun j k hj hk he=>hP2.inj j k (by first|omega| (dsimp only;omega)) (by first|omega| (dsimp only;omega)) he,fun j hj=>by have:=hP2.rng j (by first|omega| (dsimp only;omega));omega⟩ fun id hid=> ?_)
   ·rw[U2,e0 0 (by omega),e0 1 (by omega),e0 2 (by omega),e0 3 (by omega),e0 4 (by omega)]
   ·rw[e0 0 (by omega)]
    exact⟨m0,s.words.map aJ,(hrd _ (by omega) (by omega) (by omega) (by omega)).trans c17,rfl,by simp,by simp,Nat.le_refl _,by omega⟩
   ·rw[e0 1 (by omega)]
    exact⟨m1,s.holds.map aJ,(hrd _ (by omega) (by omega) (by omega) (by omega)).trans c18,rfl,by simp,by simp,Nat.le_refl _,by omega⟩
   ·rw[e0 4 (by omega)]
    exact⟨m4,s.told.map aS,(hrd _ (by omega) (by omega) (by omega) (by omega)).trans c21,rfl,by simp,by simp,Nat.le_refl _,by omega⟩
   ·rw[e0 2 (by omega),aA.aC (by omega),hfr2 _ (by omega) (by omega)];exact g19
   ·obtain⟨r,h1,h2⟩:=hR2 j hj
    have aAA:=hP.rng (5+j) (.inr (.inl ⟨by omega,by omega⟩))
    have aAB:=hP.rng (8+j) (.inr (.inr ⟨by omega,by omega⟩))
    have b5:nm2 (5+j)≠nx+20:=fun he=>by
     have:=hP2.inj (5+j) 3 (.inl (by omega)) (.inl (by omega)) (by rw[he,hn3]);omega
    have b8:nm2 (8+j)≠nx+20:=fun he=>by
     have:=hP2.inj (8+j) 3 (.inl (by omega)) (.inl (by omega)) (by rw[he,hn3]);omega
    rw[hn11 _ (by omega)] at b5 b8
    refine⟨r,h1,?_⟩
    rw[hn11 _ (by omega),hn11 _ (by omega)]
    exact h2.frame (by rw[aA.aC (by omega),hfr2 _ (by omega) b5]) (by rw[aA.aC (by omega),hfr2 _ (by omega) b8])
   ·rw[hn3,aA.aC (by omega)];exact f20
   ·obtain⟨r,h1,h2⟩:=hV2 j hj
    exact⟨r,h1,h2.frame (aA.aC (by have:=hge (11+j) (by omega);omega)) (aA.aC (by have:=hge (15+j) (by omega);omega))⟩
   ·rw[hrd id (by omega) (by omega) (by omega) (by omega)];exact cfr id hid
end
end Go.Proofs.YtegiblhkjfiooaaGreat
end
section
namespace Go.AM
theorem IW {p:Job→Bool}: ∀{A B:List Job},(∀a∈A,p a=false)→(∀b∈B,p b=true)→(A++B).findIdx p=A.length
 | [],[],_,_=>rfl
 | [],b::B,_,hB=>by
   rw[List.nil_append,List.findIdx_cons,hB b (by simp)];rfl
 |a::A,B,hA,hB=>by
  rw[List.cons_append,List.findIdx_cons,hA a (by simp)]
  simp only[cond_false,List.length_cons]
  rw[IW (fun x hx=>hA x (List.mem_cons_of_mem _ hx)) hB]
theorem abS {A B:List Job} {x:Job} (hA: ∀a∈A,uL x a=false) (hB: ∀b∈B,uL x b=true):BM (A++B) x=A++x::B:=by
 unfold BM
 rw[IW hA hB,List.take_left',List.drop_left']
 ·rfl
 ·rfl
def A5 (l:List Job) (k:Nat):List Job:=jX (l.take k)
theorem ahI {l:List Job} {k:Nat} (hk:k≤l.length):(A5 l k).length=k:=by
 unfold A5;rw[(fH _).length_eq,List.length_take];omega
theorem ac8 {l:List Job} {k:Nat} (hk:k<l.length):A5 l (k+1)=BM (A5 l k) (l.getD k default):=by
 unfold A5 jX
 rw[nK hk,List.foldl_append];rfl
theorem ah3 {l:List Job}:A5 l 1=l.take 1:=by
 cases l with
 |nil=>rfl
 |cons x l=>rfl
theorem aiE {l:List Job}:A5 l l.length=jX l:=by unfold A5;rw[List.take_length]
theorem XB {l:List Job} {k:Nat} (hn:(l.map key).Nodup):kW (A5 l k):=by
 refine J9 ?_
 rw[List.map_take]
 exact hn.sublist (List.take_sublist _ _)
def MS (S:List Job) (x:Job) (j:Nat):List Job:=S.take j++x::S.drop j
theorem amF {S:List Job} {x:Job} {j:Nat} (_:j≤S.length):(MS S x j).length=S.length+1:=by
 unfold MS;simp;omega
theorem akX {S:List Job} {x:Job} {j:Nat} (hj:j≤S.length) (hs:kW S) (h0:j=0∨uL x (S.getD (j-1) default)=false) (hB: ∀i,j≤i→i<S.length→uL x (S.getD i default)=true):MS S x j=BM S x:=by
 have hl:(S.take j).length=j:=by simp;omega
 conv=>rhs;rw[←List.take_append_drop j S]
 refine(abS (fun a ha=> ?_) fun b hb=> ?_).symm
 ·rcases h0 with rfl|h0
  ·simp at ha
  ·obtain⟨i,hi,rfl⟩:=List.mem_iff_getElem.1 ha
   rw[List.getElem_take]
   by_cases he:i=j-1
   ·subst he
    have:S.getD (j-1) default=S[j-1]:=by simp[List.getD,show j-1<S.length by omega]
    rw[this] at h0;exact h0
   ·have h1:=List.pairwise_iff_getElem.1 hs i (j-1) (by omega) (by omega) (by omega)
    have h2:S.getD (j-1) default=S[j-1]:=by simp[List.getD,show j-1<S.length by omega]
    rw[h2] at h0
    rw[←Bool.not_eq_true,qL] at h0
    rw[qL] at h1
    rw[←Bool.not_eq_true,qL]
    omega
 ·obtain⟨i,hi,rfl⟩:=List.mem_iff_getElem.1 hb
  rw[List.getElem_drop]
  have:=hB (j+i) (by omega) (by simp at hi;omega)
  simpa [List.getD,show j+i<S.length by simp at hi;omega] using this
end Go.AM
end
section
namespace Go.AM
theorem ah1 {S R:List Job} {x:Job} {j:Nat} (h0:0<j) (hj:j≤S.length):((MS S x j++R).set j (S.getD (j-1) default)).set (j-1) x=MS S x (j-1)++R:=by
 have h1:S.take j=S.take (j-1)++[S.getD (j-1) default]:=by
  have:=nK (l:=S) (k:=j-1) (by omega)
  rwa [show j-1+1=j by omega] at this
 have h2:S.drop (j-1)=S.getD (j-1) default::S.drop j:=by
  have:=List.drop_eq_getElem_cons (l:=S) (i:=j-1) (by omega)
  rw[this,show j-1+1=j by omega];simp[List.getD,show j-1<S.length by omega]
 have hl:(S.take (j-1)).length=j-1:=by simp;omega
 unfold MS
 rw[h1,h2]
 generalize S.take (j-1)=A at*
 generalize S.drop j=B
 generalize S.getD (j-1) default=y
 simp only[List.append_assoc,List.cons_append,List.nil_append,List.singleton_append]
 obtain rfl:j=A.length+1:=by omega
 rw[List.set_append_right _ _ (by omega)]
 simp
theorem anT {S R:List Job} {x:Job} {j:Nat} (hj:j≤S.length):(MS S x j++R).getD j default=x:=by
 have hl:(S.take j).length=j:=by simp;omega
 unfold MS
 simp[List.getD,hl,List.append_assoc,List.getElem?_append_right]
theorem adY {S R:List Job} {x:Job} {j:Nat} (h0:0<j) (hj:j≤S.length):(MS S x j++R).getD (j-1) default=S.getD (j-1) default:=by
 unfold MS
 simp only[List.getD,List.append_assoc]
 rw[List.getElem?_append_left (by simp;omega),List.getElem?_take_of_lt (by omega)]
end Go.AM
namespace Go.Proofs.YtegiblhkjfiooaaGreat
open Go Go.AM
set_option maxRecDepth 100000
set_option maxHeartbeats 8000000
theorem mY:cJ Tryz.prog cL Tryz.f216 dU gU:=cJ.mk Tryz.func216 (by kernel_rfl) m9
theorem tL:cJ Tryz.prog gL Tryz.f156 gA kJ:=cJ.mk Tryz.func156 (by kernel_rfl) sX
theorem mA:cJ Tryz.prog cG Tryz.f86 dF gD:=cJ.mk Tryz.func86 (by kernel_rfl) mB
section
variable {H : aA} {nx : Nat} {K : D → aA → Nat → Prop}
theorem nZ {l:List Job} {m cap i0:Nat} (hl:l.length<2^20) (hn:(l.map key).Nodup) (hi:i0<nx) (o0:H i0=some ⟨5,m,l.map aS⟩)
 (h: ∀H' nx',nx≤nx'→H' i0=some ⟨5,m,(jX l).map aS⟩→(∀id,id<nx→id≠i0→H' id=H id)→K (.tup []) H' nx'):
 aB Tryz.prog cL [.one (.c (.osl 5 i0 0 l.length cap)),dI 0,dI l.length,.one (.c (.clo bJ []))] H nx K:=by
 refine mY rfl fun Q hQ=> ?_
 unfold dU
 repeat' (first| (with_reducible first| (refine hK _ _ _ ?_;clear hK K)|refine Z1 ?_|refine Z3 fun KB hKB=> ?_)| (with_reducible refine Y2 fun K hK=> ?_)<;>(simp only[go_sem];try simp (disch:=omega) only[Iw])|fail)
 (have hKX:=hKB;clear hKB)
 refine aM.gP (β:=Nat) (fun k=>en [(8,dI k),(3,.one (.c (.clo bJ []))),(2,dI l.length),(1,dI 0),(0,.one (.c (.osl 5 i0 0 l.length cap)))])
  (fun k H1 _=>1≤k∧(k≤1∨k≤l.length)∧H1 i0=some ⟨5,m,(A5 l k++l.drop k).map aS⟩∧ ∀id,id<nx→id≠i0→H1 id=H id) (fun k=>l.length+1-k) 1
  ⟨noF,_,by repeat' (first| (with_reducible first|exact C1|refine C2 ?_ ?_)| ((with_reducible refine C0 ?_);first|exact CQ (by omega) rfl rfl (by rfl) rfl|exact CH (by rfl))| ((with_reducible refine D0 ?_);first|exact CA rfl|refine CJ ?_)|fail),aK,by omega,.inl (by omega),by rw[ah3,List.take_append_drop];exact o0,fun _ _ _=>rfl⟩ ?_
 rintro k H1 nx1 hnx ⟨hk1,hk2,g0,hfr⟩ KL hKL
 by_cases hlt:k<l.length
 ·repeat' (first| (with_reducible first| (refine hK _ _ _ ?_;clear hK K)| (refine hA ?_;clear hA hB A B)|refine Z1 ?_|refine Z2 ?_|refine Z3 fun KB hKB=> ?_|refine Z4 (by omega) ?_)| (with_reducible first|refine Y2 fun K hK=> ?_|refine Y3 fun A B hA hB=> ?_)<;>(simp only[go_sem])|fail)
  (have hKY:=hKB;clear hKB)
  obtain⟨S,hS⟩: ∃S,S=A5 l k:=⟨_,rfl⟩
  have hSl:S.length=k:=by rw[hS];exact ahI (by omega)
  obtain⟨x,hx⟩: ∃x,x=l.getD k default:=⟨_,rfl⟩
  have hd:l.drop k=x::l.drop (k+1):=by
   rw[List.drop_eq_getElem_cons hlt,hx];simp[List.getD,hlt]
  refine aM.gP (β:=Nat) (fun j=>en [(9,dI j),(8,dI k),(3,.one (.c (.clo bJ []))),(2,dI l.length),(1,dI 0),(0,.one (.c (.osl 5 i0 0 l.length cap)))])
   (fun j H2 _=>j≤k∧H2 i0=some ⟨5,m,(MS S x j++l.drop (k+1)).map aS⟩∧(∀i,j≤i→i<S.length→uL x (S.getD i default)=true)∧ ∀id,id<nx→id≠i0→H2 id=H id) (fun j=>j) k
   ⟨noF,_,by repeat' (first| (with_reducible first|exact C1|refine C2 ?_ ?_)| ((with_reducible refine C0 ?_);first|exact CQ (by omega) rfl rfl (by rfl) rfl|exact CH (by rfl))| ((with_reducible refine D0 ?_);first|exact CA rfl|refine CJ ?_)|fail),aK,Nat.le_refl _,?_,fun i h1 h2=>by omega,hfr⟩ ?_
  ·rw[g0,←hS,hd]
   unfold MS
   rw[List.take_of_length_le (show S.length≤k by omega),show S.drop k=[] from List.drop_of_length_le (by omega)];simp
  rintro j H2 nx2 hnx2 ⟨hj,f0,hB,hfr2⟩ KM hKM
  have hLl:(MS S x j++l.drop (k+1)).length=l.length:=by rw[List.length_append,amF (by omega),List.length_drop];omega
  have hk0: ∀b,(i0=nx2+b)=False:=fun b=>eq_false (by omega)
  have hk0': ∀b,(nx2+b=i0)=False:=fun b=>eq_false (by omega)
  have hback: ∀{e:Env} {H':aA} {n':Nat},nx2≤n'→(j=0∨uL x (S.getD (j-1) default)=false)→H'=H2→CvE H' noF id n' (en [(8,dI (k+1)),(3,.one (.c (.clo bJ []))),(2,dI l.length),(1,dI 0),(0,.one (.c (.osl 5 i0 0 l.length cap)))]) e→KL e H' n':=fun h1 h2 h3 h4=>by
   subst h3
   refine hKL _ _ _ (k+1) noF _ (by omega) (by omega) h4 aK ⟨by omega,.inr (by omega),?_,hfr2⟩
   rw[f0,akX (by omega) (by rw[hS];exact XB hn) h2 hB,hS,ac8 hlt,hx]
  by_cases hj0:0<j
  ·have hat:=anT (S:=S) (R:=l.drop (k+1)) (x:=x) (j:=j) (by omega)
   have hah:=adY (S:=S) (R:=l.drop (k+1)) (x:=x) hj0 (by omega)
   have hsw:=ah1 (S:=S) (R:=l.drop (k+1)) (x:=x) hj0 (by omega)
   have ej:((j:Int)-1).toNat=j-1:=by omega
   repeat' (first| (with_reducible first| (refine hK _ _ _ ?_;clear hK K)| (refine hA ?_;clear hA hB A B)| (refine hB ?_;clear hA hB A B)|refine Z1 ?_|refine Z2 ?_|refine Z3 fun KB hKB=> ?_|refine Z6 (fun h=> ?_) fun h=> ?_|refine hKY _ _ _ ?_)| (first| (with_reducible first|refine Y2 fun K hK=> ?_|refine Y3 fun A B hA hB=> ?_|refine Y4 (by omega) ?_)| (refine xM ?_))<;>(simp only[go_sem,f0,hat,hah,ej,hLl,hk0,hk0'];try simp (disch:=omega) only[Iw])| ((with_reducible refine Y9 ?_);try simp only[AQ.then,AQ.blk,reduceIte,Nat.reduceEqDiff])| ((with_reducible refine Y0 ?_);simp only[AQ.then,AQ.blk])|refine⟨by omega,?_⟩| (with_reducible refine hKB _ _ _ ?_)|fail)
   ·exact hKM _ _ _ (j-1) noF _ (by omega) (by omega) (by repeat' (first| (with_reducible first|exact C1|refine C2 ?_ ?_)| ((with_reducible refine C0 ?_);first|exact CQ (by omega) rfl rfl (by rfl) rfl|exact CH (by rfl)| (exact CG (by(congr 2;omega)) rfl))| ((with_reducible refine D0 ?_);first|exact CA rfl|refine CJ ?_)|fail)) aK ⟨by omega,by rw[hsw];exact aA.bH,fun i h1 h2=>by
     by_cases he:i=j-1
     ·subst he;exact E7.1 (by assumption)
     ·exact hB i (by omega) h2,fun id e0 e1=>by rw[aA.aC e1];exact hfr2 id e0 e1⟩
   ·exact hback (by omega) (.inr (by rw[←Bool.not_eq_true,←E7];assumption)) rfl (by repeat' (first| (with_reducible first|exact C1|refine C2 ?_ ?_)| ((with_reducible refine C0 ?_);first|exact CQ (by omega) rfl rfl (by rfl) rfl|exact CH (by rfl))| ((with_reducible refine D0 ?_);first|exact CA rfl|refine CJ ?_)|fail))
  ·repeat' (first| (with_reducible first| (refine hK _ _ _ ?_;clear hK K)| (refine hB ?_;clear hA hB A B)|refine Z1 ?_|refine hKY _ _ _ ?_)| (with_reducible first|refine Y2 fun K hK=> ?_|refine Y3 fun A B hA hB=> ?_|refine Y5 (by omega) ?_)<;>(simp only[go_sem];try simp (disch:=omega) only[Iw])| ((with_reducible refine Y9 ?_);try simp only[AQ.then,AQ.blk,reduceIte,Nat.reduceEqDiff])| ((with_reducible refine Y0 ?_);simp only[AQ.then,AQ.blk])| (with_reducible refine hKB _ _ _ ?_)|fail)
   exact hback (by omega) (.inl (by omega)) rfl (by repeat' (first| (with_reducible first|exact C1|refine C2 ?_ ?_)| ((with_reducible refine C0 ?_);first|exact CQ (by omega) rfl rfl (by rfl) rfl|exact CH (by rfl))| ((with_reducible refine D0 ?_);first|exact CA rfl|refine CJ ?_)|fail))
 ·repeat' (first| (with_reducible first| (refine hK _ _ _ ?_;clear hK K)| (refine hB ?_;clear hA hB A B)|refine Z1 ?_|refine Z5 (by omega) ?_|refine hKX _ _ _ ?_)| (with_reducible first|refine Y2 fun K hK=> ?_|refine Y3 fun A B hA hB=> ?_)<;>(simp only[go_sem])| ((with_reducible refine Y9 ?_);try simp only[AQ.then,AQ.blk,reduceIte,Nat.reduceEqDiff])| ((with_reducible refine Y0 ?_);simp only[AQ.then,AQ.blk])|fail)
  have hd:A5 l k++l.drop k=jX l:=by
   rw[List.drop_of_length_le (by omega),List.append_nil,←aiE]
   unfold A5
   rw[List.take_of_length_le (by omega),List.take_of_length_le (by omega)]
  rw[hd] at g0
  exact hQ _ _ _ _ _ (.inl rfl) rfl (h _ _ (by omega) g0 hfr)
theorem N6 {l:List Job} {m cap i0:Nat} (hl:l.length<20) (hn:(l.map key).Nodup) (hi:i0<nx) (o0:H i0=some ⟨5,m,l.map aS⟩)
 (h: ∀H' nx',nx≤nx'→H' i0=some ⟨5,m,(jX l).map aS⟩→(∀id,id<nx→id≠i0→H' id=H id)→K (.tup []) H' nx'):
 aB Tryz.prog gL [.one (.c (.osl 5 i0 0 l.length cap)),dI l.length,.one (.c (.clo bJ []))] H nx K:=by
 refine tL rfl fun Q hQ=> ?_
 unfold gA
 repeat' (first| (with_reducible first| (refine hK _ _ _ ?_;clear hK K)|refine Z1 ?_|refine Z3 fun KB hKB=> ?_)| (with_reducible refine Y2 fun K hK=> ?_)<;>(simp only[go_sem])|fail)
 (have hKX:=hKB;clear hKB)
 refine aM.gP (β:=Unit) (fun _=>en [(8,dI 20),(7,dI 0),(6,dI 20),(2,.one (.c (.clo bJ []))),(1,dI l.length),(0,.one (.c (.osl 5 i0 0 l.length cap)))]) (fun _ H1 _=>H1=H) (fun _=>0) () ⟨noF,_,by repeat' (first| (with_reducible first|exact C1|refine C2 ?_ ?_)| ((with_reducible refine C0 ?_);first|exact CQ (by omega) rfl rfl (by rfl) rfl|exact CH (by rfl))| ((with_reducible refine D0 ?_);first|exact CA rfl|refine CJ ?_)|fail),aK,rfl⟩ ?_
 rintro u H1 nx1 hnx rfl KL hKL
 repeat' (first| (with_reducible first| (refine hK _ _ _ ?_;clear hK K)| (refine hB ?_;clear hA hB A B)|refine Z1 ?_|refine Z3 fun KB hKB=> ?_|refine Z5 (by omega) ?_|refine hKX _ _ _ ?_)| (first| (with_reducible first|refine Y2 fun K hK=> ?_|refine Y3 fun A B hA hB=> ?_)| (refine nZ (by omega) hn (by omega) o0 (fun H' nx' hx' f0 ffr=> ?_)))<;>(simp only[go_sem])| ((with_reducible refine Y9 ?_);try simp only[AQ.then,AQ.blk,reduceIte,Nat.reduceEqDiff])|fail)
 clear hKX
 (have hKX:=hKB;clear hKB)
 refine aM.gP (β:=Unit) (fun _=>en [(6,dI 20),(2,.one (.c (.clo bJ []))),(1,dI l.length),(0,.one (.c (.osl 5 i0 0 l.length cap)))]) (fun _ H2 _=>H2=H') (fun _=>0) () ⟨noF,_,by repeat' (first| (with_reducible first|exact C1|refine C2 ?_ ?_)| ((with_reducible refine C0 ?_);first|exact CQ (by omega) rfl rfl (by rfl) rfl|exact CH (by rfl))| ((with_reducible refine D0 ?_);first|exact CA rfl|refine CJ ?_)|fail),aK,rfl⟩ ?_
 rintro u H2 nx2 hnx2 rfl KM hKM
 repeat' (first| (with_reducible first| (refine hK _ _ _ ?_;clear hK K)| (refine hB ?_;clear hA hB A B)|refine Z1 ?_|refine Z5 (by omega) ?_|refine hKX _ _ _ ?_)| (with_reducible first|refine Y2 fun K hK=> ?_|refine Y3 fun A B hA hB=> ?_)<;>(simp only[go_sem])| ((with_reducible refine Y9 ?_);try simp only[AQ.then,AQ.blk,reduceIte,Nat.reduceEqDiff])| ((with_reducible refine Y0 ?_);simp only[AQ.then,AQ.blk])|fail)
 exact hQ _ _ _ _ _ (.inl rfl) rfl (h _ _ (by omega) f0 fun id e0 e1=>ffr id (by omega) e1)
theorem vX {l:List Job} {m cap i0:Nat} (hl:l.length<20) (hn:(l.map key).Nodup) (hi:i0<nx) (o0:H i0=some ⟨5,m,l.map aS⟩)
 (h: ∀H' nx',nx≤nx'→H' i0=some ⟨5,m,(jX l).map aS⟩→(∀id,id<nx→id≠i0→H' id=H id)→K (.tup []) H' nx'):
 aB Tryz.prog cG [.one (.c (.osl 5 i0 0 l.length cap)),.one (.c (.clo bJ []))] H nx K:=by
 refine mA rfl fun Q hQ=> ?_
 unfold dF
 repeat' (first| (with_reducible (refine hK _ _ _ ?_;clear hK K))| (first| (with_reducible refine Y2 fun K hK=> ?_)| (refine N6 hl hn (by omega) o0 (fun H' nx' hx' f0 ffr=> ?_)))<;>(simp only[go_sem])| ((with_reducible refine Y0 ?_);simp only[AQ.then,AQ.blk])|fail)
 exact hQ _ _ _ _ _ (.inl rfl) rfl (h _ _ (by omega) f0 fun id e0 e1=>ffr id (by omega) e1)
end
end Go.Proofs.YtegiblhkjfiooaaGreat
end
