/- Texts laid together by a program: rules, contracts and the walk that leads to the law. -/
import Derived.Test.YtmccpdapaccnoaaGreatPD17
import Derived.Test.YtmccpdapaccnoaaGreatPD13
import Derived.Test.YtmccpdapaccnoaaGreatPD16
import Derived.Test.YtmccpdapaccnoaaGreatPD6
import Derived.Test.YtmccpdapaccnoaaGreatPD8
import Derived.Test.YtmccpdapaccnoaaGreatPD10
import Derived.Test.YtmccpdapaccnoaaGreatPD11
import Derived.Test.YtmccpdapaccnoaaGreatPD18
import Derived.Test.YtmccpdapaccnoaaGreatPD14
import Derived.Test.YtmccpdapaccnoaaGreatPD4
set_option linter.unusedVariables false
set_option linter.unusedSimpArgs false
set_option linter.unusedSectionVars false
set_option maxRecDepth 100000
set_option maxHeartbeats 8000000
namespace Go.Proofs.YtmccpdapaccnoaaGreat
open Go Go.AM
attribute [local irreducible] aM wv aB vd wvH
theorem EN:cJ Tryz.prog jF Tryz.f118 lK sL:=cJ.mk Tryz.func118 (by kernel_rfl) D7
theorem afN {c:Cfg} {s:CSt} {l:List Mic}:(iP c s l).length≤l.length:=by
 induction l generalizing s with
 |nil=>simp[iP]
 |cons m l ih=>
  have:=@ih (aR c s m);rw[iP,t2,List.length_cons];have h1:(y0 s m).length≤1:=by cases m<;>simp[y0]
  omega
theorem aaW {c:Cfg} {f:CSt→Nat→Option Mic} {l:List Nat} {s:CSt}:(vE c f s l).length≤l.length:=by
 induction l generalizing s with
 |nil=>simp[vE]
 |cons k l ih=>
  rw[vE];split;·have:=@ih s;rw[List.length_cons];omega
  ·rename_i m _;have:=@ih (aR c s m);rw[List.length_cons,List.length_cons];omega
theorem aqN {c:Cfg} {l:List Nat} {s s0:CSt} {u:List Bool}:iP c s0 (oP c s u l)=[]:=by
 induction l generalizing s u s0 with
 |nil=>simp[oP,iP]
 |cons k l ih=>
  rw[oP];split;·exact ih
  ·rw[iP,ih];rfl
theorem aoN {c:Cfg} {i:CIn} {s:CSt}:TK c i s=([]++iP c s (KQ c i s))++iP c (CW c i s) (xX c i (CW c i s))++iP c (OI c i s) (MV c i (OI c i s)):=by
 have e1:dR c s (KQ c i s++xX c i (CW c i s)++ad4 c (QD c i s))=OI c i s:=by rw[tB,tB];rfl
 have e2:dR c s (KQ c i s++xX c i (CW c i s))=QD c i s:=by rw[tB];rfl
 rw[TK,YC,G6,G6,G6,e1,e2,List.nil_append];rw[show iP c (QD c i s) (ad4 c (QD c i s))=[] from aqN,bq6];rfl
section
variable {H : aA} {nx : Nat} {K : D → aA → Nat → Prop}
theorem tX {X:Nat→Prop} {c:Cfg} {i:CIn} {s:CSt} {i0:Nat} {nm:Nat→Nat} (hb:aQ c) (hs:COk c s) (hi:i.ready.length=3∧i.n9.length=4∧i.send.length=3) (hR:Rep X H nx i0 nm s)
 (h: ∀H' nx' nm' a b d e,nx≤nx'→Rep X H' nx' i0 nm' (vF c i s)→(∀id,X id→H' id=H id)→K (boR [.isl ((TK c i s).map eEv),cI a,cI b,cI d,cI e]) H' nx'):
 aB Tryz.prog jF [.one (.c (.ptr 5 i0 0 0)),boR (cU c),boR (eIn i)] H nx K:=by
 apply aB.tW
 refine EN rfl fun Q hQ=> ?_
 unfold lK
 repeat' first|apply bn1<;>(simp only[go_sem,t1,bqT])|fail
 have hxi0:=hR.i0.1
 have hxX:=hR.x
 have hB0:l9 (fun id=>X id∨id=nx∨id=nx+1∨id=nx+2) ((((H.set nx ⟨3,1,[cU c]⟩).set (nx+1) ⟨3,1,[eIn i]⟩).set (nx+2) ⟨5,1,[[.osl 0 0 0 0 0,cI 0,cI 0,cI 0,cI 0]]⟩).set (nx+3) ⟨5,1,[[.osl 0 0 0 0 0,cI 0,cI 0,cI 0,cI 0]]⟩) (nx+7) i0 (nx+3) nm s []:=by
  have ho: ∀id,id<nx→((((H.set nx ⟨3,1,[cU c]⟩).set (nx+1) ⟨3,1,[eIn i]⟩).set (nx+2) ⟨5,1,[[.osl 0 0 0 0 0,cI 0,cI 0,cI 0,cI 0]]⟩).set (nx+3) ⟨5,1,[[.osl 0 0 0 0 0,cI 0,cI 0,cI 0,cI 0]]⟩) id=H id:=fun id hid=>by rw[aA.aC (by omega),aA.aC (by omega),aA.aC (by omega),aA.aC (by omega)]
  have hlt:=hR.names.lt;refine⟨hR.frame (by omega) (ho _ hxi0) (fun k hk=>ho _ (hlt k hk)) fun id hid=> ?_,⟨⟨_,0,0,0,0,aA.bH,.inl ⟨rfl,rfl⟩⟩,⟨by omega,?_⟩,?_⟩⟩
  ·rcases hid with(hid|hid)|hid;·have:=hxX id hid;exact⟨by omega,fun he=>hR.i0.2 (he▸hid),fun k hk he=>hR.names.av k hk (he▸hid)⟩
   ·exact⟨by omega,by omega,fun k hk=>by have:=hlt k hk;omega⟩
   ·exact⟨by omega,by omega,fun k hk=>by have:=hlt k hk;omega⟩
  ·rintro((hid|hid)|hid|⟨k,hk,hid⟩);·have:=hxX _ hid;omega
   ·omega
   ·omega
   ·have:=hlt k hk;omega
  ·rintro id ((hid|hid)|hid|⟨k,hk,hid⟩);·have:=hxX _ hid;omega
   ·omega
   ·omega
   ·have:=hlt k hk;omega
 have hX0: ∀{G:aA},(∀id,X id∨id=nx∨id=nx+1∨id=nx+2→G id=((((H.set nx ⟨3,1,[cU c]⟩).set (nx+1) ⟨3,1,[eIn i]⟩).set (nx+2) ⟨5,1,[[.osl 0 0 0 0 0,cI 0,cI 0,cI 0,cI 0]]⟩).set (nx+3) ⟨5,1,[[.osl 0 0 0 0 0,cI 0,cI 0,cI 0,cI 0]]⟩) id)→G nx=some ⟨3,1,[cU c]⟩∧G (nx+1)=some ⟨3,1,[eIn i]⟩∧G (nx+2)=some ⟨5,1,[[.osl 0 0 0 0 0,cI 0,cI 0,cI 0,cI 0]]⟩∧ ∀id,X id→G id=H id:=fun bqK=>by
  refine⟨?_,?_,?_,fun id hid=> ?_⟩;·rw[bqK _ (.inr (.inl rfl)),aA.aC (by omega),aA.aC (by omega),aA.aC (by omega)];exact aA.bH
  ·rw[bqK _ (.inr (.inr (.inl rfl))),aA.aC (by omega),aA.aC (by omega)];exact aA.bH
  ·rw[bqK _ (.inr (.inr (.inr rfl))),aA.aC (by omega)];exact aA.bH
  ·have:=hxX id hid;rw[bqK _ (.inl hid),aA.aC (by omega),aA.aC (by omega),aA.aC (by omega),aA.aC (by omega)]
 have hfT:(iP c s (KQ c i s)).length≤3:=CQ afN aaW
 have hfW:(iP c (CW c i s) (xX c i (CW c i s))).length≤4:=CQ afN aaW
 refine F8 hb hs hi.1 hB0 (by simp) fun H1 nx1 nm1 hx1 hB1 hX1=> ?_
 obtain⟨b1,b2,boX,boY⟩:=hX0 hX1
 simp only[go_sem]
 repeat' first|apply bn1<;>(simp only[go_sem,b1,b2,boX])|fail
 refine GF hb (PH hb hs) hi.2.1 (hB1.mono (by omega)) (by simp;omega) fun H2 nx2 nm2 hx2 hB2 hX2=> ?_
 obtain⟨c1,c2,c3,c4⟩:=hX0 fun id hid=>(hX2 id hid).trans (hX1 id hid)
 simp only[go_sem]
 repeat' first|apply bn1<;>(simp only[go_sem,c1,c2,c3])|fail
 refine HT hb (PV hb hs) (hB2.mono (by omega)) fun H3 nx3 nm3 hx3 hB3 hX3=> ?_
 obtain⟨d1,d2,d3,bkS⟩:=hX0 fun id hid=>(hX3 id hid).trans ((hX2 id hid).trans (hX1 id hid))
 simp only[go_sem]
 repeat' first|apply bn1<;>(simp only[go_sem,d1,d2,d3])|fail
 refine HN hb (afG hb hs) hi.2.2 (hB3.mono (by omega)) (by simp;omega) fun bqL nx4 nm4 hx4 hB4 hX4=> ?_
 obtain⟨e1,e2,e3,e4⟩:=hX0 fun id hid=>(hX4 id hid).trans ((hX3 id hid).trans ((hX2 id hid).trans (hX1 id hid)))
 obtain⟨dv,ha1,ha2,ha3,ha4,hi1,hdv⟩:=hB4.hap.ex
 rw[←aoN] at hdv
 simp only[go_sem]
 repeat' first|apply bn1<;>(simp only[go_sem,t1,bqT,e1,e2,e3,hi1])|fail
 have hav:=hB4.rep.names.av
 have hlt4:=hB4.rep.names.lt
 have hi04:=hB4.rep.i0
 have hn0:i0≠nx+2:=by omega
 have hnk: ∀k,k<19→nm4 k≠nx+2:=fun k hk he=>hav k hk (.inl (.inr (.inr (.inr he))))
 have hXk: ∀id,X id→id<nx4+2∧id≠i0∧ ∀k,k<19→id≠nm4 k:=fun id hid=>⟨by have:=hxX id hid;omega,fun he=>hi04.2 (.inl (.inl (he▸hid))),fun k hk he=>hav k hk (.inl (.inl (he▸hid)))⟩
 have hcS:vF c i s=dR c (OI c i s) (MV c i (OI c i s)):=rfl
 rcases hdv with⟨he,rfl⟩|⟨ev,cap,rfl,⟨m,rows,v1,v2,aXN,v4,aXO,v6⟩,blW,blX,bnA⟩
 ·refine hQ _ _ _ _ _ (.inr rfl) (fZ rfl aA.bH rfl) ⟨boR [.isl ((TK c i s).map eEv),cI ha1,cI ha2,cI ha3,cI ha4],_,noF,by rw[he];simp only[List.map];repeat' first|exact bo2| (with_reducible first|exact bo4|apply bo5)| ((with_reducible apply bo0);first|exact bo9 rfl|exact bpE)| ((with_reducible apply bo1);apply bo6)|fail,aK,h _ _ nm4 _ _ _ _ (by omega) (hcS▸hB4.rep.frame (by omega) (aA.aC hn0) (fun k hk=>aA.aC (hnk k hk)) hXk) fun id hid=> ?_⟩;have:=hxX id hid;rw[aA.aC (by omega)];exact e4 id hid
 ·have hev2:ev≠nx+2:=fun he=>blX (.inl (.inr (.inr (.inr he))));have hev0:i0≠ev:=fun he=>blX (.inr (.inl he.symm));have hevk: ∀k,k<19→nm4 k≠ev:=fun k hk he=>blX (.inr (.inr ⟨k,hk,he.symm⟩));rw[bq5] at v2;subst v2;refine hQ _ _ _ _ _ (.inr rfl) (fZ rfl aA.bH rfl) ⟨boR [.isl ((TK c i s).map eEv),cI ha1,cI ha2,cI ha3,cI ha4],_,fun j=>j=ev,lY (aH (bW (F:=fun j=>j=ev) (m:=m) aq2 ((aA.aC hev2).trans v1) rfl (by omega) rfl) (aH (bB rfl) (aH (bB rfl) (aH (bB rfl) (aH (bB rfl) eP))))),PU,h _ _ nm4 _ _ _ _ (by omega) (hcS▸hB4.rep.frame (by omega) ((aA.jG hev0).trans (aA.aC hn0)) (fun k hk=>(aA.jG (hevk k hk)).trans (aA.aC (hnk k hk))) hXk) fun id hid=> ?_⟩;have:=hxX id hid;have hne:id≠ev:=fun he=>blX (.inl (.inl (he▸hid)));rw[aA.jG hne,aA.aC (by omega)];exact e4 id hid
theorem t6 (l:List fC) (hl:l.length<2^21):aB Tryz.prog eE [dS (l.map eCJ)] (hp []) 0
 fun r H' n'=>∃cap,l.length≤cap∧n'=1∧H'=hp [(0,⟨3,cap,l.map eCJ⟩)]∧r=boQ 3 0 l.length cap:=by
 refine sN rfl fun Q hQ=> ?_
 unfold gB
 refine aM.seq (aM.EJ 3 ?_)
 repeat' first|apply bn1<;>(simp only[go_sem])|refine bpI (fun h=> ?_) fun h=> ?_| (with_reducible first|refine fun(cap:Nat) (hcap:_≤cap)=> ?_|refine fun(hcp:_≤cap)=> ?_|refine fun(b:Bool)=> ?_)| ((refine bnF (fun h=> ?_) (fun h=> ?_))<;>try subst h)|refine⟨by omega,?_⟩|fail
 all_goals first
  | (have hcap':=m5 cap
     (refine hQ _ _ _ _ _ 1 (boQ 3 0 l.length cap) (hp [(0,⟨3,cap,l.map eCJ⟩)]) _ _ (.inr rfl) rfl (fU [6] (by omega) (by repeat' first|exact bo2| ((with_reducible apply bo0);exact bpB (by omega) rfl rfl (by rfl) rfl)| ((with_reducible apply bo1);apply bo7)|fail) ⟨⟨by simp,by simp[sgL],_,rfl,bP (aG yK _) rfl rfl⟩,trivial⟩ (by simp[sgL])) ?_)
     exact⟨cap,by omega,rfl,rfl,rfl⟩)
  | (have h0:l=[]:=CE (by omega)
     subst h0
     (refine hQ _ _ _ _ _ 1 (boQ 3 0 0 0) (hp [(0,⟨3,0,([]:List fC).map eCJ⟩)]) _ _ (.inr rfl) rfl (fU [0] (by omega) (by repeat' first|exact bo2| ((with_reducible apply bo0);exact bpA)| ((with_reducible apply bo1);apply bo7)|fail) ⟨⟨by simp,by simp[sgL],_,rfl,bP (aG yK _) rfl rfl⟩,trivial⟩ (by simp[sgL])) ?_)
     exact⟨0,m5 _,rfl,rfl,rfl⟩)
theorem tY {l:List fC} (hl:l.length<2^21) (h: ∀cap,l.length≤cap→K (boQ 3 nx l.length cap) (H.set nx ⟨3,cap,l.map eCJ⟩) (nx+1)):aB Tryz.prog eE [dS (l.map eCJ)] H nx K:=by
 refine(t6 l hl).AF (l0:=[]) [] rfl ⟨aE rfl,trivial⟩ trivial (by simp) (by simp) (by simp) fun r H' n' _ ⟨cap,bqB,q1,q2,q3⟩=> ?_;have h:=h cap bqB;subst q1;subst q2;subst q3;have e1:back (tau 0 nx (nth [])) (hp [(0,⟨3,cap,l.map eCJ⟩)]) 1 H=H.set nx ⟨3,cap,l.map eCJ⟩:=by simp only[back,hp,aA.set,tau,bq2,if_true,if_false,Nat.sub_zero,Nat.add_zero,Option.map_some,XO,aA.eL]
 rw[←e1] at h;exact h
theorem uX (l:List fC) (cap m:Nat) (hl:l.length<2^21) (hc:l.length≤cap):aB Tryz.prog eQ [boQ 3 0 l.length cap] (hp [(0,⟨3,m,l.map eCJ⟩)]) 1
 fun r H' n'=>n'=1∧ ∃o',H'=hp [(0,o')]∧C7 o'∧o'=⟨3,m,l.map eCJ⟩∧r=boQ 3 0 l.length l.length:=by
 refine uS rfl fun Q hQ=> ?_
 unfold gK
 repeat' first|apply bn1<;>(simp only[go_sem])|refine⟨by omega,?_⟩|fail
 exact lA hQ (boQ 3 0 l.length l.length) _ _ rfl (by repeat' first|exact bo2| ((with_reducible apply bo0);exact bpB (by omega) rfl rfl (by rfl) rfl)| ((with_reducible apply bo1);apply bo7)|fail) rfl (oB yK _) ⟨rfl,rfl⟩
theorem vQ {l:List fC} {cap m i:Nat} (hl:l.length<2^21) (hc:l.length≤cap) (hi:i<nx) (ho:H i=some ⟨3,m,l.map eCJ⟩) (h:K (boQ 3 i l.length l.length) (H.set i ⟨3,m,l.map eCJ⟩) nx):
 aB Tryz.prog eQ [boQ 3 i l.length cap] H nx K:=
 (uX l cap m hl hc).OU i rfl (gW ⟨qS (by omega) rfl rfl rfl rfl,trivial⟩) hi ho (oB yK _) fun r o' ⟨h1,h2⟩=>by subst h1;subst h2;exact h
theorem AI (l:List fC) (hl:l.length<2^21):aB Tryz.prog eK [dS (l.map eCJ)] (hp []) 0
 fun r H' n'=>∃cap,l.length≤cap∧n'=1∧H'=hp [(0,⟨3,cap,l.map eCJ⟩)]∧r=boQ 3 0 l.length l.length:=by
 refine y7 rfl fun Q hQ=> ?_
 unfold i9
 repeat' first| (first|apply bn1|refine tY hl (fun cap hcap=> ?_)|refine vQ hl hcap (by omega) rfl ?_)<;>(simp only[go_sem])|fail
 (refine hQ _ _ _ _ _ 1 (boQ 3 0 l.length l.length) (hp [(0,⟨3,cap,l.map eCJ⟩)]) _ _ (.inr rfl) rfl (fU [5] (by omega) (by repeat' first|exact bo2| ((with_reducible apply bo0);exact bpB (by omega) rfl rfl (by rfl) rfl)| ((with_reducible apply bo1);apply bo7)|fail) ⟨⟨by simp,by simp[sgL],_,rfl,bP (aG yK _) rfl rfl⟩,trivial⟩ (by simp[sgL])) ?_)
 exact⟨cap,hcap,rfl,rfl,rfl⟩
theorem oD {l:List fC} (hl:l.length<2^21) (h: ∀m,l.length≤m→K (boQ 3 nx l.length l.length) (H.set nx ⟨3,m,l.map eCJ⟩) (nx+1)):aB Tryz.prog eK [dS (l.map eCJ)] H nx K:=by
 refine(AI l hl).AF (l0:=[]) [] rfl ⟨aE rfl,trivial⟩ trivial (by simp) (by simp) (by simp) fun r H' n' _ ⟨cap,bqB,q1,q2,q3⟩=> ?_;have h:=h cap bqB;subst q1;subst q2;subst q3;have e1:back (tau 0 nx (nth [])) (hp [(0,⟨3,cap,l.map eCJ⟩)]) 1 H=H.set nx ⟨3,cap,l.map eCJ⟩:=by simp only[back,hp,aA.set,tau,bq2,if_true,if_false,Nat.sub_zero,Nat.add_zero,Option.map_some,XO,aA.eL]
 rw[←e1] at h;exact h
theorem VV {τ:Nat→Nat} {n m:Nat} {l:List fR}:bA.rn τ ⟨n,m,l.map cD⟩=⟨n,m,l.map cD⟩:=by refine rF fun r hr x hx=> ?_;obtain⟨y,_,rfl⟩:=CF.1 hr;exact w2.1 (t7 y).2 x hx
theorem r7 (l:List fR) (hl:l.length<2^21):aB Tryz.prog dL [dS (l.map cD)] (hp []) 0
 fun r H' n'=>∃cap,l.length≤cap∧n'=1∧H'=hp [(0,⟨4,cap,l.map cD⟩)]∧r=boQ 4 0 l.length cap:=by
 refine qV rfl fun Q hQ=> ?_
 unfold fN
 refine aM.seq (aM.EJ 4 ?_)
 repeat' first|apply bn1<;>(simp only[go_sem])|refine bpI (fun h=> ?_) fun h=> ?_| (with_reducible first|refine fun(cap:Nat) (hcap:_≤cap)=> ?_|refine fun(hcp:_≤cap)=> ?_|refine fun(b:Bool)=> ?_)| ((refine bnF (fun h=> ?_) (fun h=> ?_))<;>try subst h)|refine⟨by omega,?_⟩|fail
 all_goals first
  | (have hcap':=m5 cap
     (refine hQ _ _ _ _ _ 1 (boQ 4 0 l.length cap) (hp [(0,⟨4,cap,l.map cD⟩)]) _ _ (.inr rfl) rfl (fU [6] (by omega) (by repeat' first|exact bo2| ((with_reducible apply bo0);exact bpB (by omega) rfl rfl (by rfl) rfl)| ((with_reducible apply bo1);apply bo7)|fail) ⟨⟨by simp,by simp[sgL],_,rfl,bP (aG t7 _) rfl rfl⟩,trivial⟩ (by simp[sgL])) ?_)
     exact⟨cap,by omega,rfl,rfl,rfl⟩)
  | (have h0:l=[]:=CE (by omega)
     subst h0
     (refine hQ _ _ _ _ _ 1 (boQ 4 0 0 0) (hp [(0,⟨4,0,([]:List fR).map cD⟩)]) _ _ (.inr rfl) rfl (fU [0] (by omega) (by repeat' first|exact bo2| ((with_reducible apply bo0);exact bpA)| ((with_reducible apply bo1);apply bo7)|fail) ⟨⟨by simp,by simp[sgL],_,rfl,bP (aG t7 _) rfl rfl⟩,trivial⟩ (by simp[sgL])) ?_)
     exact⟨0,m5 _,rfl,rfl,rfl⟩)
theorem sC {l:List fR} (hl:l.length<2^21) (h: ∀cap,l.length≤cap→K (boQ 4 nx l.length cap) (H.set nx ⟨4,cap,l.map cD⟩) (nx+1)):aB Tryz.prog dL [dS (l.map cD)] H nx K:=by
 refine(r7 l hl).AF (l0:=[]) [] rfl ⟨aE rfl,trivial⟩ trivial (by simp) (by simp) (by simp) fun r H' n' _ ⟨cap,bqB,q1,q2,q3⟩=> ?_;have h:=h cap bqB;subst q1;subst q2;subst q3;have e1:back (tau 0 nx (nth [])) (hp [(0,⟨4,cap,l.map cD⟩)]) 1 H=H.set nx ⟨4,cap,l.map cD⟩:=by simp only[back,hp,aA.set,tau,bq2,if_true,if_false,Nat.sub_zero,Nat.add_zero,Option.map_some,VV,aA.eL]
 rw[←e1] at h;exact h
theorem tJ (l:List fR) (cap m:Nat) (hl:l.length<2^21) (hc:l.length≤cap):aB Tryz.prog dV [boQ 4 0 l.length cap] (hp [(0,⟨4,m,l.map cD⟩)]) 1
 fun r H' n'=>n'=1∧ ∃o',H'=hp [(0,o')]∧C7 o'∧o'=⟨4,m,l.map cD⟩∧r=boQ 4 0 l.length l.length:=by
 refine r9 rfl fun Q hQ=> ?_
 unfold fV
 repeat' first|apply bn1<;>(simp only[go_sem])|refine⟨by omega,?_⟩|fail
 exact lA hQ (boQ 4 0 l.length l.length) _ _ rfl (by repeat' first|exact bo2| ((with_reducible apply bo0);exact bpB (by omega) rfl rfl (by rfl) rfl)| ((with_reducible apply bo1);apply bo7)|fail) rfl (oB t7 _) ⟨rfl,rfl⟩
theorem sT {l:List fR} {cap m i:Nat} (hl:l.length<2^21) (hc:l.length≤cap) (hi:i<nx) (ho:H i=some ⟨4,m,l.map cD⟩) (h:K (boQ 4 i l.length l.length) (H.set i ⟨4,m,l.map cD⟩) nx):
 aB Tryz.prog dV [boQ 4 i l.length cap] H nx K:=
 (tJ l cap m hl hc).OU i rfl (gW ⟨qS (by omega) rfl rfl rfl rfl,trivial⟩) hi ho (oB t7 _) fun r o' ⟨h1,h2⟩=>by subst h1;subst h2;exact h
theorem yZ (l:List fR) (hl:l.length<2^21):aB Tryz.prog fY [dS (l.map cD)] (hp []) 0
 fun r H' n'=>∃cap,l.length≤cap∧n'=1∧H'=hp [(0,⟨4,cap,l.map cD⟩)]∧r=boQ 4 0 l.length l.length:=by
 refine yL rfl fun Q hQ=> ?_
 unfold iV
 repeat' first| (first|apply bn1|refine sC hl (fun cap hcap=> ?_)|refine sT hl hcap (by omega) rfl ?_)<;>(simp only[go_sem])|fail
 (refine hQ _ _ _ _ _ 1 (boQ 4 0 l.length l.length) (hp [(0,⟨4,cap,l.map cD⟩)]) _ _ (.inr rfl) rfl (fU [5] (by omega) (by repeat' first|exact bo2| ((with_reducible apply bo0);exact bpB (by omega) rfl rfl (by rfl) rfl)| ((with_reducible apply bo1);apply bo7)|fail) ⟨⟨by simp,by simp[sgL],_,rfl,bP (aG t7 _) rfl rfl⟩,trivial⟩ (by simp[sgL])) ?_)
 exact⟨cap,hcap,rfl,rfl,rfl⟩
theorem yX {l:List fR} (hl:l.length<2^21) (h: ∀m,l.length≤m→K (boQ 4 nx l.length l.length) (H.set nx ⟨4,m,l.map cD⟩) (nx+1)):aB Tryz.prog fY [dS (l.map cD)] H nx K:=by
 refine(yZ l hl).AF (l0:=[]) [] rfl ⟨aE rfl,trivial⟩ trivial (by simp) (by simp) (by simp) fun r H' n' _ ⟨cap,bqB,q1,q2,q3⟩=> ?_;have h:=h cap bqB;subst q1;subst q2;subst q3;have e1:back (tau 0 nx (nth [])) (hp [(0,⟨4,cap,l.map cD⟩)]) 1 H=H.set nx ⟨4,cap,l.map cD⟩:=by simp only[back,hp,aA.set,tau,bq2,if_true,if_false,Nat.sub_zero,Nat.add_zero,Option.map_some,VV,aA.eL]
 rw[←e1] at h;exact h
theorem ZC {τ:Nat→Nat} {n m:Nat} {l:List nY}:bA.rn τ ⟨n,m,l.map gF⟩=⟨n,m,l.map gF⟩:=by refine rF fun r hr x hx=> ?_;obtain⟨y,_,rfl⟩:=CF.1 hr;exact w2.1 (zJ y).2 x hx
theorem qB (l:List nY) (hl:l.length<2^21):aB Tryz.prog cZ [dS (l.map gF)] (hp []) 0
 fun r H' n'=>∃cap,l.length≤cap∧n'=1∧H'=hp [(0,⟨3,cap,l.map gF⟩)]∧r=boQ 3 0 l.length cap:=by
 refine oY rfl fun Q hQ=> ?_
 unfold eW
 refine aM.seq (aM.EJ 3 ?_)
 repeat' first|apply bn1<;>(simp only[go_sem])|refine bpI (fun h=> ?_) fun h=> ?_| (with_reducible first|refine fun(cap:Nat) (hcap:_≤cap)=> ?_|refine fun(hcp:_≤cap)=> ?_|refine fun(b:Bool)=> ?_)| ((refine bnF (fun h=> ?_) (fun h=> ?_))<;>try subst h)|refine⟨by omega,?_⟩|fail
 all_goals first
  | (have hcap':=m5 cap
     (refine hQ _ _ _ _ _ 1 (boQ 3 0 l.length cap) (hp [(0,⟨3,cap,l.map gF⟩)]) _ _ (.inr rfl) rfl (fU [6] (by omega) (by repeat' first|exact bo2| ((with_reducible apply bo0);exact bpB (by omega) rfl rfl (by rfl) rfl)| ((with_reducible apply bo1);apply bo7)|fail) ⟨⟨by simp,by simp[sgL],_,rfl,bP (aG zJ _) rfl rfl⟩,trivial⟩ (by simp[sgL])) ?_)
     exact⟨cap,by omega,rfl,rfl,rfl⟩)
  | (have h0:l=[]:=CE (by omega)
     subst h0
     (refine hQ _ _ _ _ _ 1 (boQ 3 0 0 0) (hp [(0,⟨3,0,([]:List nY).map gF⟩)]) _ _ (.inr rfl) rfl (fU [0] (by omega) (by repeat' first|exact bo2| ((with_reducible apply bo0);exact bpA)| ((with_reducible apply bo1);apply bo7)|fail) ⟨⟨by simp,by simp[sgL],_,rfl,bP (aG zJ _) rfl rfl⟩,trivial⟩ (by simp[sgL])) ?_)
     exact⟨0,m5 _,rfl,rfl,rfl⟩)
theorem qG {l:List nY} (hl:l.length<2^21) (h: ∀cap,l.length≤cap→K (boQ 3 nx l.length cap) (H.set nx ⟨3,cap,l.map gF⟩) (nx+1)):aB Tryz.prog cZ [dS (l.map gF)] H nx K:=by
 refine(qB l hl).AF (l0:=[]) [] rfl ⟨aE rfl,trivial⟩ trivial (by simp) (by simp) (by simp) fun r H' n' _ ⟨cap,bqB,q1,q2,q3⟩=> ?_;have h:=h cap bqB;subst q1;subst q2;subst q3;have e1:back (tau 0 nx (nth [])) (hp [(0,⟨3,cap,l.map gF⟩)]) 1 H=H.set nx ⟨3,cap,l.map gF⟩:=by simp only[back,hp,aA.set,tau,bq2,if_true,if_false,Nat.sub_zero,Nat.add_zero,Option.map_some,ZC,aA.eL]
 rw[←e1] at h;exact h
theorem rJ (l:List nY) (cap m:Nat) (hl:l.length<2^21) (hc:l.length≤cap):aB Tryz.prog dE [boQ 3 0 l.length cap] (hp [(0,⟨3,m,l.map gF⟩)]) 1
 fun r H' n'=>n'=1∧ ∃o',H'=hp [(0,o')]∧C7 o'∧o'=⟨3,m,l.map gF⟩∧r=boQ 3 0 l.length l.length:=by
 refine qF rfl fun Q hQ=> ?_
 unfold fG
 repeat' first|apply bn1<;>(simp only[go_sem])|refine⟨by omega,?_⟩|fail
 exact lA hQ (boQ 3 0 l.length l.length) _ _ rfl (by repeat' first|exact bo2| ((with_reducible apply bo0);exact bpB (by omega) rfl rfl (by rfl) rfl)| ((with_reducible apply bo1);apply bo7)|fail) rfl (oB zJ _) ⟨rfl,rfl⟩
theorem qZ {l:List nY} {cap m i:Nat} (hl:l.length<2^21) (hc:l.length≤cap) (hi:i<nx) (ho:H i=some ⟨3,m,l.map gF⟩) (h:K (boQ 3 i l.length l.length) (H.set i ⟨3,m,l.map gF⟩) nx):
 aB Tryz.prog dE [boQ 3 i l.length cap] H nx K:=
 (rJ l cap m hl hc).OU i rfl (gW ⟨qS (by omega) rfl rfl rfl rfl,trivial⟩) hi ho (oB zJ _) fun r o' ⟨h1,h2⟩=>by subst h1;subst h2;exact h
theorem yJ (l:List nY) (hl:l.length<2^21):aB Tryz.prog fM [dS (l.map gF)] (hp []) 0
 fun r H' n'=>∃cap,l.length≤cap∧n'=1∧H'=hp [(0,⟨3,cap,l.map gF⟩)]∧r=boQ 3 0 l.length l.length:=by
 refine wE rfl fun Q hQ=> ?_
 unfold iB
 repeat' first| (first|apply bn1|refine qG hl (fun cap hcap=> ?_)|refine qZ hl hcap (by omega) rfl ?_)<;>(simp only[go_sem])|fail
 (refine hQ _ _ _ _ _ 1 (boQ 3 0 l.length l.length) (hp [(0,⟨3,cap,l.map gF⟩)]) _ _ (.inr rfl) rfl (fU [5] (by omega) (by repeat' first|exact bo2| ((with_reducible apply bo0);exact bpB (by omega) rfl rfl (by rfl) rfl)| ((with_reducible apply bo1);apply bo7)|fail) ⟨⟨by simp,by simp[sgL],_,rfl,bP (aG zJ _) rfl rfl⟩,trivial⟩ (by simp[sgL])) ?_)
 exact⟨cap,hcap,rfl,rfl,rfl⟩
theorem xA {l:List nY} (hl:l.length<2^21) (h: ∀m,l.length≤m→K (boQ 3 nx l.length l.length) (H.set nx ⟨3,m,l.map gF⟩) (nx+1)):aB Tryz.prog fM [dS (l.map gF)] H nx K:=by
 refine(yJ l hl).AF (l0:=[]) [] rfl ⟨aE rfl,trivial⟩ trivial (by simp) (by simp) (by simp) fun r H' n' _ ⟨cap,bqB,q1,q2,q3⟩=> ?_;have h:=h cap bqB;subst q1;subst q2;subst q3;have e1:back (tau 0 nx (nth [])) (hp [(0,⟨3,cap,l.map gF⟩)]) 1 H=H.set nx ⟨3,cap,l.map gF⟩:=by simp only[back,hp,aA.set,tau,bq2,if_true,if_false,Nat.sub_zero,Nat.add_zero,Option.map_some,ZC,aA.eL]
 rw[←e1] at h;exact h
end
theorem BJ:cJ Tryz.prog cV Tryz.f117 kM pR:=cJ.mk Tryz.func117 (by kernel_rfl) AZ
end Go.Proofs.YtmccpdapaccnoaaGreat
namespace Go.AM
structure Part (A:Nat→Prop) (lo hi:Nat) (nm:Nat→Nat):Prop where
 inj: ∀j k,A j→A k→nm j=nm k→j=k
 rng: ∀k,A k→lo≤nm k∧nm k<hi
theorem Part.mono {A:Nat→Prop} {lo hi hi':Nat} {nm:Nat→Nat} (h:Part A lo hi nm) (hh:hi≤hi'):Part A lo hi' nm:=⟨h.inj,fun k hk=>by have:=h.rng k hk;omega⟩
theorem Part.put {A B:Nat→Prop} {lo hi hi' k v:Nat} {nm:Nat→Nat} (h:Part A lo hi nm) (h0:lo≤hi) (h1:hi≤v) (h2:v<hi') (hB: ∀j,B j→A j∧j≠k∨j=k):Part B lo hi' (put nm k v):=by
 refine⟨fun i j hi hj he=> ?_,fun j hj=> ?_⟩
 ·rcases hB i hi with⟨az9,az2⟩|rfl<;>rcases hB j hj with⟨b1,b2⟩|rfl;·rw[jE az2,jE b2] at he;exact h.inj i j az9 b1 he
  ·rw[jE az2,t8] at he;have:=h.rng i az9;omega
  ·rw[jE b2,t8] at he;have:=h.rng j b1;omega
  ·rfl
 ·rcases hB j hj with⟨az9,az2⟩|rfl;·rw[jE az2];have:=h.rng j az9;omega
  ·rw[t8];omega
structure CSz (s:CSt):Prop where
 pl:s.bM.length=3
 sl:s.dD.length=4
 w:s.words.length<2^21
 h:s.holds.length<2^21
 t:s.told.length<2^21∧ ∀j∈s.told,j.rsp.data.length<2^21
 port: ∀k,k<3→(aF s k).queue.length<2^21∧(aF s k).out.length<2^21
 slv: ∀k,k<4→(aL s k).pipe.length<2^21∧(aL s k).done.length<2^21∧ ∀j∈(aL s k).done,j.rsp.data.length<2^21
theorem aM.TF {P:Program} {T:Nat} {e:Env} {H:aA} {nx:Nat} {Q:AQ} {zs:List AC} (h: ∀G,G=H→aM P T zs e G nx Q):aM P T zs e H nx Q:=h H rfl
def asA (k:Nat) (H:aA) (nm:Nat→Nat) (s:CSt) (rows:List (List D1)):Prop:=rows.length=3∧(∀j,j<k→∃r,rows[j]?=some r∧CX H (nm (5+j)) (nm (8+j)) (aF s j) r)∧ ∀j,k≤j→j<3→rows[j]?=some (cD (aF s j))
def asP (k:Nat) (H:aA) (nm:Nat→Nat) (s:CSt) (rows:List (List D1)):Prop:=rows.length=4∧(∀j,j<k→∃r,rows[j]?=some r∧LJ H (nm (11+j)) (nm (15+j)) (aL s j) r)∧ ∀j,k≤j→j<4→rows[j]?=some (gF (aL s j))
end Go.AM
namespace Go.Proofs.YtmccpdapaccnoaaGreat
open Go Go.AM
attribute [local irreducible] aM wv aB vd wvH
section
variable {H : aA} {nx : Nat} {K : D → aA → Nat → Prop}
theorem fJ {s:CSt} (hs:CSz s)
 (h: ∀H' nx' nm cells,nx≤nx'→abY H' nm s cells→Part (fun k=>k<19) nx nx' nm→(∀id,id<nx→H' id=H id)→K (.one (.agg cells)) H' nx'):
 aB Tryz.prog cV [boR (eI s)] H nx K:=by
 have hpl:=hs.pl
 have hsl:=hs.sl
 refine BJ rfl fun Q hQ=> ?_
 unfold kM
 refine aM.BW fun hnm=> ?_
 have hmk: ∀k l,msk (nx+k) l H=H:=fun k l=>BV hnm (by omega)
 repeat' first| (first|apply bn1|refine qN (w:=s.words) (u:=s.holds) hs.w hs.h (fun m0 m1 hm0 hm1=> ?_)|refine yX (l:=s.bM) (by omega) (fun bp3 hm2=> ?_)|refine xA (l:=s.dD) (by omega) (fun bqM hm3=> ?_)|refine gY (l:=s.told) hs.t.1 hs.t.2 (fun bqN hm4=> ?_))<;>(simp only[go_sem,boC,hmk,umS (G:=H),umD (G:=H),umB,msk,List.map,t3,bq7,or_false,hpl,hsl])|fail
 refine aM.TF fun bqO hG0=> ?_
 have c0:bqO nx=some ⟨5,1,[eI s]⟩:=by rw[hG0];simp only[aA.set,bqU,Nat.reduceEqDiff,bqV,bqT,if_false,if_true]
 have c1:bqO (nx+1)=some ⟨5,1,[[.osl 0 0 0 0 0,.osl 0 0 0 0 0,.osl 0 0 0 0 0,.osl 0 0 0 0 0,.osl 0 0 0 0 0]]⟩:=by rw[hG0];simp only[aA.set,bqU,Nat.reduceEqDiff,bqV,bqT,if_false,if_true]
 have c15:bqO (nx+15)=some ⟨5,1,[[.osl 1 (nx+17) 0 s.words.length s.words.length,.osl 1 (nx+18) 0 s.holds.length s.holds.length,.osl 4 (nx+19) 0 3 3,.osl 3 (nx+20) 0 4 4,.osl 5 (nx+21) 0 s.told.length s.told.length]]⟩:=by rw[hG0];simp only[aA.set,bqU,Nat.reduceEqDiff,bqV,bqT,if_false,if_true]
 have c17:bqO (nx+17)=some ⟨1,m0,s.words.map aJ⟩:=by rw[hG0];simp only[aA.set,bqU,Nat.reduceEqDiff,bqV,bqT,if_false,if_true]
 have c18:bqO (nx+18)=some ⟨1,m1,s.holds.map aJ⟩:=by rw[hG0];simp only[aA.set,bqU,Nat.reduceEqDiff,bqV,bqT,if_false,if_true]
 have c19:bqO (nx+19)=some ⟨4,bp3,s.bM.map cD⟩:=by rw[hG0];simp only[aA.set,bqU,Nat.reduceEqDiff,bqV,bqT,if_false,if_true]
 have c20:bqO (nx+20)=some ⟨3,bqM,s.dD.map gF⟩:=by rw[hG0];simp only[aA.set,bqU,Nat.reduceEqDiff,bqV,bqT,if_false,if_true]
 have c21:bqO (nx+21)=some ⟨5,bqN,s.told.map aS⟩:=by rw[hG0];simp only[aA.set,bqU,Nat.reduceEqDiff,bqV,bqT,if_false,if_true]
 have cfr: ∀id,id<nx→bqO id=H id:=fun id hid=>by rw[hG0];simp only[aA.set,show ¬id=nx by omega,show ¬id=nx+1 by omega,show ¬id=nx+15 by omega,show ¬id=nx+17 by omega,show ¬id=nx+18 by omega,show ¬id=nx+19 by omega,show ¬id=nx+20 by omega,show ¬id=nx+21 by omega,if_false]
 clear hG0
 refine aM.gP (β:=Nat×(Nat→Nat)) (fun u=>en [(24,boP u.1),(23,boP 3),(22,dS (s.bM.map cD)),(3,.one (.c (.ptr 5 (nx+15) 0 0))),(2,.one (.c (.ptr 5 (nx+1) 0 0))),(1,.one (.c (.ptr 5 nx 0 0)))])
  (fun u H1 nx1=>u.1≤3∧(∀j,j<5→u.2 j=nx+17+j)∧Part (fun j=>j<5∨(5≤j∧j<5+u.1)∨(8≤j∧j<8+u.1)) (nx+17) nx1 u.2∧(∀id,id<nx+22→id≠nx+19→H1 id=bqO id)∧ ∃rows,H1 (nx+19)=some ⟨4,bp3,rows⟩∧asA u.1 H1 u.2 s rows)
  (fun u=>3-u.1) (0,fun j=>nx+17+j) ⟨noF,_,by repeat' first|exact bo2|refine xqI rfl rfl ?_|refine xqP (by omega) rfl rfl ?_|fail,aK,by dsimp only;omega,fun _ _=>rfl,⟨fun j k _ _ he=>by dsimp only at he;omega,fun j hj=>by dsimp only at hj ⊢;omega⟩,fun _ _ _=>rfl,_,c19,by simpa using hpl,fun j hj=>by dsimp only at hj;omega,fun j _ hj=>by rw[p0];simp[aF,List.getD,show j<s.bM.length by omega]⟩ ?_
 rintro⟨k,nm⟩ H1 nx1 hnx ⟨hk,hn5,boS,hfr,rows,g19,hR1,hR2,hR3⟩ bpQ hKL
 dsimp only at hk hn5 boS hR2 hR3
 have bqC:H1 nx=some ⟨5,1,[eI s]⟩:=by rw[hfr _ (by omega) (by omega)];exact c0
 have g15:H1 (nx+15)=some ⟨5,1,[[.osl 1 (nx+17) 0 s.words.length s.words.length,.osl 1 (nx+18) 0 s.holds.length s.holds.length,.osl 4 (nx+19) 0 3 3,.osl 3 (nx+20) 0 4 4,.osl 5 (nx+21) 0 s.told.length s.told.length]]⟩:=by rw[hfr _ (by omega) (by omega)];exact c15
 have hA:bQ nx1 [nx,nx+1,nx+15,nx+19,nx+20]:=AM.apart (by simp) (by simp;omega)
 simp only[bQ,eZ] at hA
 by_cases hlt:k<3
 ·obtain⟨p,hpd⟩: ∃p,p=aF s k:=⟨_,rfl⟩
  have hpd':s.bM.getD k default=p:=hpd.symm;obtain⟨hq,ho⟩:=hs.port k hlt;rw[←hpd] at hq ho;have hgk: ∀r,(rows.set k r)[k]?=some r:=fun r=>by rw[bqZ (by omega)]
  have hrk:=hR3 k (m5 _) hlt;rw[←hpd] at hrk;refine aM.BW fun hnm1=> ?_;have hmk1: ∀k l,msk (nx1+k) l H1=H1:=fun k l=>BV hnm1 (by omega);repeat' first| (first|apply bn1|refine kH (l:=p.queue) hq (fun mq hmq=> ?_)|refine oD (l:=p.out) ho (fun mo hmo=> ?_))<;>(simp only[go_sem,boC,hmk1,umS (G:=H1),umD (G:=H1),umB,msk,List.map,t3,bq7,or_false,hpd',hgk,hrk,bq1,bqC,g15,g19,hA];try simp (disch:=omega) only[Iw])|apply bn2 (by omega)|refine⟨by omega,?_⟩|fail
  have hq19: ∀j,j<5∨(5≤j∧j<5+k)∨(8≤j∧j<8+k)→j≠2→nm j≠nx+19:=fun j hj h2 he=>h2 (boS.inj j 2 hj (.inl (by omega)) (by rw[he,hn5 2 (by omega)]));refine hKL _ _ _ (k+1,put (put nm (5+k) (nx1+25)) (8+k) (nx1+26)) noF _ (by omega) (by dsimp only;omega) (by repeat' first|exact bo2|refine xqI rfl rfl ?_|refine xqP (by omega) rfl rfl ?_|fail) aK ⟨by dsimp only;omega,fun j hj=> ?_,?_,fun id boU e1=> ?_,_,aA.bH,?_,fun j hj=> ?_,fun j h1 h2=> ?_⟩;·dsimp only;rw[jE (by omega),jE (by omega)];exact hn5 j hj
  ·exact(boS.put (B:=fun j=>j<5∨(5≤j∧j<5+(k+1))∨(8≤j∧j<8+k)) (hi':=nx1+26) (by omega) (by omega) (by omega) (fun j hj=>by first|omega| (dsimp only at*;omega))).put (by omega) (by omega) (by omega) (fun j hj=>by first|omega| (dsimp only at*;omega))
  ·rw[aA.aC e1,aA.aC (by omega),aA.aC (by omega),aA.aC (by omega)];exact hfr id boU e1
  ·rw[Y5];exact hR1
  ·dsimp only at hj ⊢;by_cases hjk:j=k
   ·subst hjk;refine⟨_,hgk _,⟨0,p.queue.length,p.out.length,?_,?_,?_⟩⟩;·rw[jE (by omega),t8,t8,←hpd];rfl
    ·rw[jE (by omega),t8,←hpd];exact⟨mq,p.queue.map aJ,by rw[aA.aC (by omega),aA.aC (by omega)];exact aA.bH,rfl,by simp,by simp,m5 _,by omega⟩
    ·rw[t8,←hpd];exact⟨mo,p.out.map eCJ,by rw[aA.aC (by omega)];exact aA.bH,rfl,by simp,by simp,m5 _,by omega⟩
   ·obtain⟨r,h1,h2⟩:=hR2 j (by omega);have aAA:=boS.rng (5+j) (.inr (.inl ⟨by omega,by omega⟩));have aAB:=boS.rng (8+j) (.inr (.inr ⟨by omega,by omega⟩));refine⟨r,by rw[bq0 (by omega)];exact h1,?_⟩;rw[jE (show 5+j≠8+k by omega),jE (show 5+j≠5+k by omega),jE (show 8+j≠8+k by omega),jE (show 8+j≠5+k by omega)];apply h2.frame;·rw[aA.aC (hq19 _ (.inr (.inl ⟨by omega,by omega⟩)) (by omega)),aA.aC (by omega),aA.aC (by omega),aA.aC (by omega)]
    ·rw[aA.aC (hq19 _ (.inr (.inr ⟨by omega,by omega⟩)) (by omega)),aA.aC (by omega),aA.aC (by omega),aA.aC (by omega)]
  ·dsimp only at h1 ⊢;rw[bq0 (by omega)];exact hR3 j (by omega) h2
 ·repeat' first|apply bn1<;>(simp only[go_sem,bqC])|apply bn3 (by omega)|fail
  have hk3:k=3:=by omega
  subst hk3;have g20:H1 (nx+20)=some ⟨3,bqM,s.dD.map gF⟩:=by rw[hfr _ (by omega) (by omega)];exact c20
  refine aM.gP (β:=Nat×(Nat→Nat)) (fun u=>en [(49,boP u.1),(48,boP 4),(47,dS (s.dD.map gF)),(3,.one (.c (.ptr 5 (nx+15) 0 0))),(2,.one (.c (.ptr 5 (nx+1) 0 0)))])
   (fun u H2 nx2=>u.1≤4∧(∀j,j<11→u.2 j=nm j)∧Part (fun j=>j<11∨(11≤j∧j<11+u.1)∨(15≤j∧j<15+u.1)) (nx+17) nx2 u.2∧(∀id,id<nx1→id≠nx+20→H2 id=H1 id)∧ ∃rv,H2 (nx+20)=some ⟨3,bqM,rv⟩∧asP u.1 H2 u.2 s rv)
   (fun u=>4-u.1) (0,nm) ⟨noF,_,by repeat' first|exact bo2|refine xqI rfl rfl ?_|refine xqP (by omega) rfl rfl ?_|refine xqV rfl (by omega) ?_|fail,aK,by dsimp only;omega,fun _ _=>rfl,⟨fun j k hj hk he=>boS.inj j k (by first|omega| (dsimp only at*;omega)) (by first|omega| (dsimp only at*;omega)) he,fun j hj=>by have:=boS.rng j (by first|omega| (dsimp only at*;omega));first|omega| (dsimp only at*;omega)⟩,fun _ _ _=>rfl,_,g20,by simpa using hsl,fun j hj=>by dsimp only at hj;omega,fun j _ hj=>by rw[p0];simp[aL,List.getD,show j<s.dD.length by omega]⟩ ?_
  rintro⟨k,nm2⟩ H2 nx2 hnx2 ⟨hk,hn11,hP2,hfr2,rv,f20,hV1,hV2,hV3⟩ bqG hKM;dsimp only at hk hn11 hP2 hV2 hV3;have f15:H2 (nx+15)=some ⟨5,1,[[.osl 1 (nx+17) 0 s.words.length s.words.length,.osl 1 (nx+18) 0 s.holds.length s.holds.length,.osl 4 (nx+19) 0 3 3,.osl 3 (nx+20) 0 4 4,.osl 5 (nx+21) 0 s.told.length s.told.length]]⟩:=by rw[hfr2 _ (by omega) (by omega)];exact g15
  have bpR:H2 (nx+1)=some ⟨5,1,[[.osl 0 0 0 0 0,.osl 0 0 0 0 0,.osl 0 0 0 0 0,.osl 0 0 0 0 0,.osl 0 0 0 0 0]]⟩:=by rw[hfr2 _ (by omega) (by omega),hfr _ (by omega) (by omega)];exact c1
  have hA2:bQ nx2 [nx,nx+1,nx+15,nx+19,nx+20]:=AM.apart (by simp) (by simp;omega);simp only[bQ,eZ] at hA2;have hn3:nm2 3=nx+20:=by rw[hn11 3 (by omega),hn5 3 (by omega)]
  by_cases hlt:k<4
  ·obtain⟨v,hvd⟩: ∃v,v=aL s k:=⟨_,rfl⟩
   have hvd':s.dD.getD k default=v:=hvd.symm;obtain⟨hq,ho,ho2⟩:=hs.slv k hlt;rw[←hvd] at hq ho ho2;have hgk: ∀r,(rv.set k r)[k]?=some r:=fun r=>by rw[bqZ (by omega)]
   have hrk:=hV3 k (m5 _) hlt;rw[←hvd] at hrk;refine aM.BW fun hnm1=> ?_;have hmk1: ∀k l,msk (nx2+k) l H2=H2:=fun k l=>BV hnm1 (by omega);repeat' first| (first|apply bn1|refine oD (l:=v.pipe) hq (fun mq hmq=> ?_)|refine gY (l:=v.done) ho ho2 (fun mo hmo=> ?_))<;>(simp only[go_sem,boC,hmk1,umS (G:=H2),umD (G:=H2),umB,msk,List.map,t3,bq7,or_false,hvd',hgk,hrk,bq1,f15,f20,hA2];try simp (disch:=omega) only[Iw])|apply bn2 (by omega)|refine⟨by omega,?_⟩|fail
   have hq20: ∀j,j<11∨(11≤j∧j<11+k)∨(15≤j∧j<15+k)→j≠3→nm2 j≠nx+20:=fun j hj h2 he=>h2 (hP2.inj j 3 hj (.inl (by omega)) (by rw[he,hn3]));refine hKM _ _ _ (k+1,put (put nm2 (11+k) (nx2+25)) (15+k) (nx2+26)) noF _ (by omega) (by dsimp only;omega) (by repeat' first|exact bo2|refine xqI rfl rfl ?_|refine xqP (by omega) rfl rfl ?_|fail) aK ⟨by dsimp only;omega,fun j hj=> ?_,?_,fun id boU e1=> ?_,_,aA.bH,?_,fun j hj=> ?_,fun j h1 h2=> ?_⟩;·dsimp only;rw[jE (by omega),jE (by omega)];exact hn11 j hj
   ·exact(hP2.put (B:=fun j=>j<11∨(11≤j∧j<11+(k+1))∨(15≤j∧j<15+k)) (hi':=nx2+26) (by omega) (by omega) (by omega) (fun j hj=>by first|omega| (dsimp only at*;omega))).put (by omega) (by omega) (by omega) (fun j hj=>by first|omega| (dsimp only at*;omega))
   ·rw[aA.aC e1,aA.aC (by omega),aA.aC (by omega),aA.aC (by omega)];exact hfr2 id boU e1
   ·rw[Y5];exact hV1
   ·dsimp only at hj ⊢;by_cases hjk:j=k
    ·subst hjk;refine⟨_,hgk _,⟨0,v.pipe.length,0,v.done.length,?_,?_,?_⟩⟩;·rw[jE (by omega),t8,t8,←hvd];rfl
     ·rw[jE (by omega),t8,←hvd];exact⟨mq,v.pipe.map eCJ,by rw[aA.aC (by omega),aA.aC (by omega)];exact aA.bH,rfl,by simp,by simp,m5 _,by omega⟩
     ·rw[t8,←hvd];exact⟨mo,v.done.map aS,by rw[aA.aC (by omega)];exact aA.bH,rfl,by simp,by simp,m5 _,by omega⟩
    ·obtain⟨r,h1,h2⟩:=hV2 j (by omega);have aAA:=hP2.rng (11+j) (.inr (.inl ⟨by omega,by omega⟩));have aAB:=hP2.rng (15+j) (.inr (.inr ⟨by omega,by omega⟩));refine⟨r,by rw[bq0 (by omega)];exact h1,?_⟩;rw[jE (show 11+j≠15+k by omega),jE (show 11+j≠11+k by omega),jE (show 15+j≠15+k by omega),jE (show 15+j≠11+k by omega)];apply h2.frame;·rw[aA.aC (hq20 _ (.inr (.inl ⟨by omega,by omega⟩)) (by omega)),aA.aC (by omega),aA.aC (by omega),aA.aC (by omega)]
     ·rw[aA.aC (hq20 _ (.inr (.inr ⟨by omega,by omega⟩)) (by omega)),aA.aC (by omega),aA.aC (by omega),aA.aC (by omega)]
   ·dsimp only at h1 ⊢;rw[bq0 (by omega)];exact hV3 j (by omega) h2
  ·repeat' first|apply bn1<;>(simp only[go_sem,f15,bpR,hA2])|apply bn3 (by omega)|fail
   have hk4:k=4:=(by omega);subst hk4;have boU: ∀j,j<5→nm2 j=nx+17+j:=fun j hj=>(hn11 j (by omega)).trans (hn5 j hj);have hrd: ∀id,id<nx+22→id≠nx+1→id≠nx+19→id≠nx+20→(H2.set (nx+1) ⟨5,1,[[.osl 1 (nx+17) 0 s.words.length s.words.length,.osl 1 (nx+18) 0 s.holds.length s.holds.length,.osl 4 (nx+19) 0 3 3,.osl 3 (nx+20) 0 4 4,.osl 5 (nx+21) 0 s.told.length s.told.length]]⟩) id=bqO id:=fun id h1 h2 h3 h4=>by rw[aA.aC h2,hfr2 id (by omega) h4,hfr id h1 h3]
   have hge: ∀j,j<19→nx+17≤nm2 j:=fun j hj=>(hP2.rng j (by first|omega| (dsimp only;omega))).1;refine hQ _ _ _ _ _ (.inr rfl) (fZ rfl aA.bH rfl) (h _ _ nm2 _ (by omega) ⟨⟨s.words.length,s.holds.length,3,4,s.told.length,?_,?_,?_,?_,m5 _,m5 _⟩,⟨bp3,rows,?_,hR1,fun j hj=> ?_⟩,⟨bqM,rv,?_,hV1,fun j hj=> ?_⟩⟩ ⟨fun j k hj hk he=>hP2.inj j k (by first|omega| (dsimp only;omega)) (by first|omega| (dsimp only;omega)) he,fun j hj=>by have:=hP2.rng j (by first|omega| (dsimp only;omega));omega⟩ fun id hid=> ?_);·rw[U2,boU 0 (by omega),boU 1 (by omega),boU 2 (by omega),boU 3 (by omega),boU 4 (by omega)]
   ·rw[boU 0 (by omega)];exact⟨m0,s.words.map aJ,(hrd _ (by omega) (by omega) (by omega) (by omega)).trans c17,rfl,by simp,by simp,m5 _,by omega⟩
   ·rw[boU 1 (by omega)];exact⟨m1,s.holds.map aJ,(hrd _ (by omega) (by omega) (by omega) (by omega)).trans c18,rfl,by simp,by simp,m5 _,by omega⟩
   ·rw[boU 4 (by omega)];exact⟨bqN,s.told.map aS,(hrd _ (by omega) (by omega) (by omega) (by omega)).trans c21,rfl,by simp,by simp,m5 _,by omega⟩
   ·rw[boU 2 (by omega),aA.aC (by omega),hfr2 _ (by omega) (by omega)];exact g19
   ·obtain⟨r,h1,h2⟩:=hR2 j hj;have aAA:=boS.rng (5+j) (.inr (.inl ⟨by omega,by omega⟩));have aAB:=boS.rng (8+j) (.inr (.inr ⟨by omega,by omega⟩));have boZ:nm2 (5+j)≠nx+20:=fun he=>by have:=hP2.inj (5+j) 3 (.inl (by omega)) (.inl (by omega)) (by rw[he,hn3]);omega
    have bnB:nm2 (8+j)≠nx+20:=fun he=>by have:=hP2.inj (8+j) 3 (.inl (by omega)) (.inl (by omega)) (by rw[he,hn3]);omega
    rw[hn11 _ (by omega)] at boZ bnB;refine⟨r,h1,?_⟩;rw[hn11 _ (by omega),hn11 _ (by omega)];exact h2.frame (by rw[aA.aC (by omega),hfr2 _ (by omega) boZ]) (by rw[aA.aC (by omega),hfr2 _ (by omega) bnB])
   ·rw[hn3,aA.aC (by omega)];exact f20
   ·obtain⟨r,h1,h2⟩:=hV2 j hj;exact⟨r,h1,h2.frame (aA.aC (by have:=hge (11+j) (by omega);omega)) (aA.aC (by have:=hge (15+j) (by omega);omega))⟩
   ·rw[hrd id (by omega) (by omega) (by omega) (by omega)];exact cfr id hid
end
theorem RA:cJ Tryz.prog zX Tryz.f44 yF GJ:=cJ.mk Tryz.func44 (by kernel_rfl) RY
end Go.Proofs.YtmccpdapaccnoaaGreat
namespace Go.AM
def IQ (H:aA) (lo hi t:Nat) (s:CSt) (A:List Int) (W D:List Job):Prop:=
 ∃ia iw id_ ca cw cd ma mw md,H t=some ⟨6,1,[[.isl (s.words.map aJ),.isl (s.holds.map aJ),.osl 1 ia 0 A.length ca,.osl 5 iw 0 W.length cw,.osl 5 id_ 0 D.length cd,.isl (s.told.map aS)]]⟩∧
  (H ia=some ⟨1,ma,A.map aJ⟩∧A.length≤ca∧ca≤ma)∧(H iw=some ⟨5,mw,W.map aS⟩∧W.length≤cw∧cw≤mw)∧(H id_=some ⟨5,md,D.map aS⟩∧D.length≤cd∧cd≤md)∧
  (lo≤ia∧ia<hi∧lo≤iw∧iw<hi∧lo≤id_∧id_<hi)∧ia≠iw∧ia≠id_∧iw≠id_
theorem IQ.frame {H H':aA} {lo hi hi' t:Nat} {s:CSt} {A:List Int} {W D:List Job} (h:IQ H lo hi t s A W D) (ht:t<lo) (hh:hi≤hi') (hf: ∀id,id<hi→(id=t∨lo≤id)→H' id=H id):IQ H' lo hi' t s A W D:=by obtain⟨ia,iw,id_,ca,cw,cd,ma,mw,md,h0,⟨h1,h2⟩,⟨h3,h4⟩,⟨h5,h6⟩,h7,h8⟩:=h;exact⟨ia,iw,id_,ca,cw,cd,ma,mw,md,by rw[hf t (by omega) (.inl rfl)];exact h0,⟨by rw[hf _ (by omega) (.inr (by omega))];exact h1,h2⟩,⟨by rw[hf _ (by omega) (.inr (by omega))];exact h3,h4⟩,⟨by rw[hf _ (by omega) (.inr (by omega))];exact h5,h6⟩,by omega,h8⟩
theorem KO {H:aA} {nx i:Nat} {o o':bA} (ho:H i=some o) (h:CvO H noF id nx o' o):CvX noF nx H (H.set i o'):=fun j x hj=>by
 by_cases he:j=i;·subst he;rw[aA.bH] at hj;cases hj;exact⟨fun h=>h,o,ho,.inr h⟩
 ·rw[aA.aC he] at hj;exact⟨fun h=>h,x,hj,.inl rfl⟩
theorem CL {β:Type} {f:Nat→List β} {k:Nat}:(List.range (k+1)).flatMap f=(List.range k).flatMap f++f k:=by rw[brP,List.flatMap_append];simp
theorem QU {β:Type} {f:Nat→List β} {m:Nat} (n:Nat) (h: ∀k,k<n→(f k).length≤m):((List.range n).flatMap f).length≤m*n:=by
 induction n with
 |zero=>simp
 |succ n ih=>rw[CL,t2];have h1:=ih fun k hk=>h k (by omega);have h2:=h n (by omega);rw[Nat.mul_succ];omega
theorem af0 {K:Env→aA→Nat→Prop} {e:Env} {G:aA} {n:Nat} (h: ∀G',G'=G→K e G' n):K e G n:=h G rfl
theorem as2 {H2 G:aA} {lo hi t:Nat} {s:CSt} {A:List Int} {W D:List Job} {ia iw id_ ca cd ma md bpZ cap nx':Nat} {k n:Int}
 (az9:H2 ia=some ⟨1,ma,A.map aJ⟩) (az2:A.length≤ca∧ca≤ma) (aAC:H2 id_=some ⟨5,md,D.map aS⟩) (aAB:D.length≤cd∧cd≤md) (aa:lo≤ia∧ia<hi∧lo≤iw∧iw<hi∧lo≤id_∧id_<hi) (ab:ia≠iw) (ac:ia≠id_) (ad:iw≠id_) (ht:t<lo) (hx:hi≤bpZ∧bpZ<nx') (hcap:W.length+1≤cap)
 (g1:G t=some ⟨6,1,[[.isl (s.words.map aJ),.isl (s.holds.map aJ),.osl 1 ia 0 A.length ca,.osl 5 bpZ 0 (W.length+1) cap,.osl 5 id_ 0 D.length cd,.isl (s.told.map aS)]]⟩) (g2:G bpZ=some ⟨5,cap,W.map aS++[[cI k,cI n,cI 0,cI 0,.osl 0 0 0 0 0]]⟩) (g3: ∀id,id<hi→id≠iw→id≠t→G id=H2 id):
 ∃H',CvX noF nx' G H'∧IQ H' lo nx' t s A (W++[(⟨k,n,oW⟩:Job)]) D∧ ∀id,id≠bpZ→H' id=G id:=by
 refine⟨_,KO (i:=bpZ) (o':=⟨5,cap,(W++[(⟨k,n,oW⟩:Job)]).map aS⟩) g2 (uO (R:=W.map aS) (r':=aS (⟨k,n,oW⟩:Job)) (by rw[bqX];rfl) rfl (fun r hr=>(aG dZ _ r hr).2) rfl (aH (bB rfl) (aH (bB rfl) (aH (bB rfl) (aH (bB rfl) (aH (.frz (.nil ..)) eP)))))),?_,fun id boU=>aA.aC boU⟩
 refine⟨ia,bpZ,id_,ca,cap,cd,ma,cap,md,?_,⟨?_,az2⟩,⟨aA.bH,by simpa using hcap,m5 _⟩,⟨?_,aAB⟩,by omega,by omega,by omega,by omega⟩
 ·rw[aA.aC (by omega),g1,t2];rfl
 ·rw[aA.aC (by omega),g3 _ (by omega) ab (by omega)];exact az9
 ·rw[aA.aC (by omega),g3 _ (by omega) ad.symm (by omega)];exact aAC
theorem apO {F:Nat→Prop} {H H':aA} {nx t:Nat} {o o':bA} (h1: ∀j,F j→H' j=none) (h2:H' t=some o') (h3:H t=some o) (h4: ¬F t) (h5:CvO H F id nx o' o) (h6: ∀j,j≠t→¬F j→H' j=H j):CvX F nx H H':=fun j x hj=>by
 have hF: ¬F j:=fun h=>by rw[h1 j h] at hj;cases hj
 by_cases he:j=t;·subst he;rw[h2] at hj;cases hj;exact⟨hF,o,h3,.inr h5⟩
 ·rw[h6 j he hF] at hj;exact⟨hF,x,hj,.inl rfl⟩
def aq5 (b n:Nat) (H:aA):aA:=fun j=>if b≤j∧j<b+n then none else H j
theorem acA {b n j:Nat} {H:aA} (h: ¬(b≤j∧j<b+n)):aq5 b n H j=H j:=if_neg h
theorem ZW {b n nx:Nat} {H:aA}:CvX (fun j=>b≤j∧j<b+n) nx H (aq5 b n H):=fun j x hj=>by
 unfold aq5 at hj;split at hj;·cases hj
 ·exact⟨by assumption,x,hj,.inl rfl⟩
end Go.AM
namespace Go.Proofs.YtmccpdapaccnoaaGreat
open Go Go.AM
attribute [local irreducible] aM wv aB vd wvH
section
variable {H : aA} {nx : Nat} {K : D → aA → Nat → Prop}
end
end Go.Proofs.YtmccpdapaccnoaaGreat
namespace Go.AM
def jS (f:Nat→Int):Nat→Int
 |0=>0
 |n+1=>jS f n+f n
theorem KF {f:Nat→Int} {m:Int} (h0:0≤m): ∀n,(∀k,k<n→0≤f k∧f k≤m)→0≤jS f n∧jS f n≤m*n
 |0,_=>by simp[jS]
 |n+1,h=>by
  have h1:=KF h0 n fun k hk=>h k (by omega);have h2:=h n (by omega);have h3:m*((n+1:Nat):Int)=m*n+m:=by push_cast;rw[Int.mul_add,Int.mul_one]
  simp only[jS];omega
def vZ (i:CIn):Prop:=i.ready.length=3∧i.n9.length=4∧i.send.length=3
end Go.AM
namespace Go.Proofs.YtmccpdapaccnoaaGreat
open Go Go.AM
attribute [local irreducible] aM wv aB vd wvH
theorem VM:cJ Tryz.prog mW Tryz.f35 AN IC:=cJ.mk Tryz.func35 (by kernel_rfl) UM
section
variable {H : aA} {nx : Nat} {K : D → aA → Nat → Prop}
end
end Go.Proofs.YtmccpdapaccnoaaGreat
namespace Go.AM
theorem abY.frame {H H':aA} {nm:Nat→Nat} {s:CSt} {cells:List D1} (h:abY H nm s cells) (hf: ∀k,k<19→H' (nm k)=H (nm k)):abY H' nm s cells:=by
 obtain⟨⟨wc,hc,pc,vc,tc,q1,q2,q3,q4,q5⟩,⟨m,rows,j1,j2,j3⟩,⟨m',rows',j4,j5,j6⟩⟩:=h;refine⟨⟨wc,hc,pc,vc,tc,q1,q2.frame (hf _ (by omega)),q3.frame (hf _ (by omega)),q4.frame (hf _ (by omega)),q5⟩,⟨m,rows,by rw[hf 2 (by omega)];exact j1,j2,fun k hk=> ?_⟩,⟨m',rows',by rw[hf 3 (by omega)];exact j4,j5,fun k hk=> ?_⟩⟩;·obtain⟨r,k1,k2⟩:=j3 k hk;exact⟨r,k1,k2.frame (hf _ (by omega)) (hf _ (by omega))⟩
 ·obtain⟨r,k1,k2⟩:=j6 k hk;exact⟨r,k1,k2.frame (hf _ (by omega)) (hf _ (by omega))⟩
theorem COk.sz {c:Cfg} {s:CSt} (hb:aQ c) (h:COk c s):CSz s:=by
 obtain⟨hwl,_,hhl,_⟩:=h.atm;have htl:s.told.length≤36:=by have:=h.st.lens hb;simp only[cX] at this;omega
 have hd: ∀j∈s.told,j.rsp.data.length<2^21:=fun j hj=>by have:=(h.st.R8 j (brH _ hj)).1;unfold pA at this;omega
 refine⟨h.pl,h.sl,by omega,by omega,⟨by omega,hd⟩,fun k hk=> ?_,fun k hk=> ?_⟩;·have h1:=(h.port k hk).ql;have h2:=(h.port k hk).ol;omega
 ·have h1:=(h.slv k hk).pl;have h2:=(h.slv k hk).dl;refine⟨by omega,by omega,fun j hj=> ?_⟩;have:=((h.slv k hk).rsp j hj).1;unfold pA at this;omega
end Go.AM
namespace Go.Proofs.YtmccpdapaccnoaaGreat
open Go Go.AM
attribute [local irreducible] aM wv aB vd wvH
section
variable {H : aA} {nx : Nat} {K : D → aA → Nat → Prop}
end
end Go.Proofs.YtmccpdapaccnoaaGreat
namespace Go.AM
theorem aB.ao4 {P:Program} {f:FuncId} {args args':List D} {H:aA} {nx:Nat} {K:D→aA→Nat→Prop} (H':aA) (F:Nat→Prop) (hl:args.length=args'.length) (hA: ∀(i:Nat) (d0 d:D),args'[i]?=some d0→args[i]?=some d→CvD H F id nx d0 d) (hH:CvX F nx H H') (h:aB P f args' H' nx K):aB P f args H nx K:=by
 refine⟨h.1,fun c vs hs hN hlen hrel=> ?_⟩;obtain⟨k1,k2⟩:=YO hs (Step.refl c H) hN hH;refine(h.2 (c.conv nx nx id (c.frI H F)) vs k1 (fun i hi=> ?_) (by omega) fun i d v h1 h2=> ?_).mono ?_
 ·rcases hi with⟨_,hi⟩|⟨h1,h2,h3⟩
  ·exact hN i hi
  ·omega
 ·have hi:i<args.length:=by have:=(m3.1 h1).1;omega
  exact zD hs (fun b h=>.inl h) (fun id o h1 h2 h3=>.inr ⟨id,o,h1,h2,h3,rfl⟩) (fun _ _=>rfl) (hA i d _ h1 (n1 hi)) (hrel i _ v (n1 hi) h2)
 ·rintro x w' ⟨v,c2,r,H2,n2,rfl,rfl,p1,p2,p3,p4,p5,p6⟩;refine⟨v,c2,r,H2,n2,rfl,rfl,p1,k2.trans p2,fun i hi=> ?_,p4,p5,p6⟩;rcases p3 i hi with h|h
  ·rcases h with⟨_,hi⟩|⟨h1,h2,h3⟩
   ·exact .inl hi
   ·omega
  ·exact .inr h
open Classical in
noncomputable def without (F:Nat→Prop) (H:aA):aA:=fun j=>if F j then none else H j
theorem iI {F:Nat→Prop} {H:aA} {j:Nat} (h: ¬F j):without F H j=H j:=by unfold without;rw[if_neg h]
theorem kS {F:Nat→Prop} {H:aA} {nx:Nat}:CvX F nx H (without F H):=fun j x hj=>by
 by_cases h:F j;·unfold without at hj;rw[if_pos h] at hj;cases hj
 ·rw[iI h] at hj;exact⟨h,x,hj,.inl rfl⟩
end Go.AM
namespace Go.Proofs.YtmccpdapaccnoaaGreat
open Go Go.AM
attribute [local irreducible] aM wv aB vd wvH
section
variable {H : aA} {nx : Nat} {K : D → aA → Nat → Prop}
end
end Go.Proofs.YtmccpdapaccnoaaGreat
namespace Go.AM
theorem aM.aTJ {P:Program} {T:Nat} {e:Env} {H:aA} {nx:Nat} {Q:AQ} {zs:List AC} (h: ∀G,G=H→aM P T zs e G nx Q):aM P T zs e H nx Q:=h H rfl
def Own {α:Type} (enc:α→List D1) (n:Nat) (H:aA) (b cap:Nat) (l:List α):Prop:=∃m,H b=some ⟨n,m,l.map enc⟩∧l.length≤cap∧cap≤m
theorem Own.of {α:Type} {enc:α→List D1} {n b cap:Nat} {l:List α} {H H':aA} (h:Own enc n H b cap l) (he:H' b=H b):Own enc n H' b cap l:=by obtain⟨m,h1,h2⟩:=h;exact⟨m,he.trans h1,h2⟩
theorem Own.frz {α:Type} {enc:α→List D1} {n b cap nh:Nat} {l:List α} {H:aA} {F:Nat→Prop} {σ:Nat→Nat} (h:Own enc n H b cap l) (he: ∀x,(enc x).length=n∧(enc x).all D1.dQ=true) (hF:F b):Cv1 H F σ nh (.isl (l.map enc)) (.osl n b 0 l.length cap):=by obtain⟨m,h1,h2,h3⟩:=h;exact bW he h1 rfl h2 hF
theorem um1 {b k i:Nat} {A B:aA} (h:i≠b+k):dT b [k] A B i=B i:=by unfold dT;rw[if_neg (by simp;omega)]
theorem aH6 {b k:Nat} {A B:aA}:dT b [k] A B (b+k)=A (b+k):=by unfold dT;rw[if_pos (by simp)]
theorem mk1 {b k i:Nat} {A:aA} (h:i≠b+k):msk b [k] A i=A i:=by unfold msk;rw[if_neg (by simp;omega)]
theorem aTY {H:aA} {F:Nat→Prop} {σ:Nat→Nat} {nh:Nat} {rows:List (List D1)} {n id off len cap:Nat} {o:bA} (hi:alR n rows) (hl:len=rows.length) (hF:F id) (ho:H id=some o) (hn:o.n=n) (hlen:off+rows.length≤o.rows.length) (hr:(o.rows.drop off).take rows.length=rows) (hc:rows.length≤cap):Cv1 H F σ nh (.isl rows) (.osl n id off len cap):=by
 subst hl
 have hg: ∀i:Nat,∀r',rows[i]?=some r'→o.rows[off+i]?=some r':=by
  intro i r' h;rw[←hr,s4] at h;split at h;·rw[s5] at h;exact h
  ·cases h
 refine .frz (.frz rows n id off cap o (fun i j=>((rows[i]?.getD [])[j]?).getD .dead) hF ho hn hlen hc (fun i r' h=>(hi r' (s3 h)).1) (fun i j r' d' h1 h2=>⟨r',hg i r' h1,by rw[h1];simp[h2]⟩) fun i j r' d' h1 h2=> ?_);rw[h1];simp only[Option.getD_some,h2];exact .same d' ((hi r' (s3 h1)).2 d' (s3 h2))
end Go.AM
namespace Go.Proofs.YtmccpdapaccnoaaGreat
open Go Go.AM
attribute [local irreducible] aM wv aB vd wvH
section
variable {H : aA} {nx : Nat} {K : D → aA → Nat → Prop}
theorem aQ5:cJ Tryz.prog aIM Tryz.f158 aJF aJZ:=cJ.mk Tryz.func158 (by kernel_rfl) aLH
theorem aNQ {l:List Job} (hl:l.length<2^21) (hd: ∀j∈l,j.rsp.data.length<2^21)
 (h: ∀H' nx' b cap,nx≤b→b<nx'→Own aS 5 H' b cap l→(∀id,id<nx→H' id=H id)→K (.one (.c (.osl 5 b 0 l.length cap))) H' nx'):aB Tryz.prog aIM [dS (l.map aS)] H nx K:=by
 refine aQ5 rfl fun Q hQ=> ?_
 unfold aJF
 repeat' first|apply bn1<;>(simp only[go_sem,boC])|fail
 refine aM.gP (β:=Nat×Nat×Nat) (fun u=>en [(4,boP u.1),(3,.one (.c (.osl 5 u.2.1 0 u.1 u.2.2))),(0,dS (l.map aS))])
  (fun u H1 nx1=>u.1≤l.length∧(∃m,H1 u.2.1=some ⟨5,m,(l.take u.1).map aS⟩∧u.1≤u.2.2∧u.2.2≤m)∧(nx≤u.2.1∧u.2.1<nx1)∧ ∀id,id<nx→H1 id=H id)
  (fun u=>l.length-u.1) (0,nx+1,0) ⟨noF,_,by repeat' first|exact bo2|refine xqI rfl rfl ?_| (with_reducible apply bo3)| ((with_reducible apply bo0);exact bpA)| ((with_reducible apply bo1);apply bo7)|fail,aK,by dsimp only;omega,⟨0,by simp only[aA.set,if_true];rfl,by dsimp only;omega,by dsimp only;omega⟩,by dsimp only;omega,fun id hid=>by simp only[aA.set,show ¬id=nx+1 by omega,if_false]⟩ ?_
 rintro⟨k,b,cap⟩ H1 nx1 hnx ⟨hk,⟨m,g1,g2,g3⟩,⟨hb1,hb2⟩,hfr⟩ bpQ hKL
 dsimp only at hk g1 g2 g3 hb1 hb2
 have htt:(l.take k).take k=l.take k:=boL (by simp;omega)
 have hA:bQ nx1 [b]:=AM.apart (by simp) (by simp;omega)
 simp only[bQ,eZ] at hA
 by_cases hlt:k<l.length
 ·have hm:=hd _ (cC hlt);have hb3:b<nx1+(4+2):=by omega
  repeat' first| (first|apply bn1|apply aMW hm)<;>(simp only[go_sem,htt,aM8,g1,hA,boC];try simp (disch:=omega) only[Iw])|apply bn2 (by omega)| (with_reducible first|refine fun(cap:Nat) (hcap:_≤cap)=> ?_|refine fun(hcp:_≤cap)=> ?_)|refine⟨by omega,?_⟩| (refine⟨by(rw[CG];omega),?_⟩)|fail
  refine hKL _ _ _ (k+1,nx1+23,cap) noF _ (by omega) (by dsimp only;omega) (by dsimp only;repeat' first|exact bo2|refine xqI rfl rfl ?_|refine xqO (by omega) rfl rfl (by rfl) ?_|fail) aK ⟨by dsimp only;omega,⟨cap,by rw[nK hlt];exact aA.bH,by dsimp only;omega,m5 _⟩,by dsimp only;omega,fun id hid=> ?_⟩;rw[aA.aC (by omega),aA.aC (by omega),aA.jG (by omega)];exact hfr id hid
 ·repeat' first|apply bn1<;>(simp only[go_sem])|apply bn3 (by omega)|fail
  have hk2:k=l.length:=by omega
  subst hk2;refine hQ _ _ _ _ _ (.inr rfl) rfl (h _ _ b cap hb1 (by omega) ⟨m,?_,g2,g3⟩ hfr);rw[g1,bq4]
theorem aQ3:cJ Tryz.prog aIW Tryz.f243 aJE aJ3:=cJ.mk Tryz.func243 (by kernel_rfl) aK8
theorem aRC {w:List Int} (hl:w.length<2^21) (h: ∀H' nx' b cap,nx≤b→b<nx'→Own aJ 1 H' b cap w→(∀id,id<nx→H' id=H id)→K (boR [.osl 1 b 0 w.length cap]) H' nx'):aB Tryz.prog aIW [boR [.isl (w.map aJ)]] H nx K:=by
 refine aQ3 rfl fun Q hQ=> ?_;unfold aJE;repeat' first|apply bn1<;>(simp only[go_sem,boC])| (with_reducible first|refine fun(cap:Nat) (hcap:_≤cap)=> ?_|refine fun(hcp:_≤cap)=> ?_)|refine⟨by omega,?_⟩|fail
 refine hQ _ _ _ _ _ (.inr rfl) (fZ (m:=1) rfl (by simp only[aA.set,bqU,Nat.reduceEqDiff,if_false,if_true]) rfl) (h _ _ (nx+2+3) cap (by omega) (by omega) ⟨cap,by simp only[aA.set,t1,bqU,Nat.reduceEqDiff,Nat.reduceAdd,if_false,if_true],by assumption,m5 _⟩ fun id hid=> ?_);rw[aA.aC (by omega),aA.aC (by omega),aA.aC (by omega),aA.jG (by omega)]
theorem aQS:cJ Tryz.prog aIR Tryz.f157 aJH aJ4:=cJ.mk Tryz.func157 (by kernel_rfl) aLG
theorem aQE {w u:List Int} (hl:w.length<2^21) (hu:u.length<2^21) (h: ∀H' nx' boW b1 c0 c1,nx≤b1→b1<boW→boW<nx'→Own aJ 1 H' boW c0 w→Own aJ 1 H' b1 c1 u→(∀id,id<nx→H' id=H id)→K (boR [.osl 1 boW 0 w.length c0,.osl 1 b1 0 u.length c1]) H' nx'):aB Tryz.prog aIR [boR [.isl (w.map aJ),.isl (u.map aJ)]] H nx K:=by
 refine aQS rfl fun Q hQ=> ?_;unfold aJH;repeat' first| (first|apply bn1|refine aRC hl (fun H1 nx1 boW c0 hb1 hb2 ho hfr=> ?_))<;>(simp only[go_sem,boC])|fail
 obtain⟨G,bqK⟩: ∃G,G=dT (nx+2) [3] (((H.set nx ⟨2,1,[[.isl (w.map aJ),.isl (u.map aJ)]]⟩).set (nx+1) ⟨2,1,[[.osl 0 0 0 0 0,.osl 0 0 0 0 0]]⟩).set (nx+5) ⟨1,0,[]⟩) H1:=⟨_,rfl⟩
 rw[←bqK];have bqC:G nx=some ⟨2,1,[[.isl (w.map aJ),.isl (u.map aJ)]]⟩:=by rw[bqK,um1 (by omega),hfr _ (by omega),aA.aC (by omega)];exact aA.bH
 have g1:G (nx+1)=some ⟨2,1,[[.osl 0 0 0 0 0,.osl 0 0 0 0 0]]⟩:=by rw[bqK,um1 (by omega),hfr _ (by omega)];exact aA.bH
 have g5:G (nx+5)=some ⟨1,0,[]⟩:=by rw[bqK,aH6];exact aA.bH
 have gb:Own aJ 1 G boW c0 w:=ho.of (by rw[bqK,um1 (by omega)]);have gf: ∀id,id<nx→G id=H id:=fun id hid=>by rw[bqK,um1 (by omega),hfr _ (by omega),aA.aC (by omega),aA.aC (by omega),mk1 (by omega)]
 clear bqK;have m0: ∀G:aA,msk (nx+2) [3] G nx=G nx:=fun G=>mk1 (by omega);refine⟨fun _=>by rw[m0,bqC];rfl,?_⟩;simp only[go_sem,bqC,g1,g5,m0,boC];repeat' first|apply bn1<;>(simp only[go_sem,bqC,g1,g5,m0,boC])| (with_reducible first|refine fun(cap:Nat) (hcap:_≤cap)=> ?_|refine fun(hcp:_≤cap)=> ?_)|refine⟨by omega,?_⟩|fail
 exact hQ _ _ _ _ _ (.inr rfl) (fZ (m:=1) rfl aA.bH rfl) (h _ _ boW (nx+8) c0 cap (by omega) (by omega) (by omega) (gb.of (by rw[aA.aC (by omega),aA.aC (by omega),aA.jG (by omega)])) ⟨cap,by rw[aA.aC (by omega)];exact aA.bH,by assumption,m5 _⟩ fun id hid=>by rw[aA.aC (by omega),aA.aC (by omega),aA.jG (by omega)];exact gf id hid)
theorem aRU:cJ Tryz.prog aI0 Tryz.f74 aJB aJW:=cJ.mk Tryz.func74 (by kernel_rfl) aLD
theorem aQR {s:TSt} (hf:aTQ s) (h: ∀H' nx' boW b1 b2 boX boY boZ c0 c1 c2 c3 c4 c5,nx≤b2→b2<b1→b1<boW→boW<boX→boX<boY→boY<boZ→boZ<nx'→Own aJ 1 H' boW c0 s.words→Own aJ 1 H' b1 c1 s.holds→Own aJ 1 H' b2 c2 s.asked→Own aS 5 H' boX c3 s.wait→Own aS 5 H' boY c4 s.done→Own aS 5 H' boZ c5 s.told→(∀id,id<nx→H' id=H id)→
 K (boR [.osl 1 boW 0 s.words.length c0,.osl 1 b1 0 s.holds.length c1,.osl 1 b2 0 s.asked.length c2,.osl 5 boX 0 s.wait.length c3,.osl 5 boY 0 s.done.length c4,.osl 5 boZ 0 s.told.length c5]) H' nx'):aB Tryz.prog aI0 [boR (eSt s)] H nx K:=by
 have hd3: ∀j∈s.wait,j.rsp.data.length<2^21:=fun j hj=>hf.data j (by simp[hj])
 have hd4: ∀j∈s.done,j.rsp.data.length<2^21:=fun j hj=>hf.data j (by simp[hj])
 have hd5: ∀j∈s.told,j.rsp.data.length<2^21:=fun j hj=>hf.data j (by simp[hj])
 have haf:=hf.asked
 refine aRU rfl fun Q hQ=> ?_
 unfold aJB
 repeat' first| (first|apply bn1|refine aQE hf.words hf.holds (fun H1 nx1 boW b1 c0 c1 hb1 hb2 hb3 ho0 ho1 hfr=> ?_))<;>(simp only[go_sem,boC])|fail
 obtain⟨G,bqK⟩: ∃G,G=dT (nx+2) [3] (((H.set nx ⟨6,1,[eSt s]⟩).set (nx+1) ⟨6,1,[[.osl 0 0 0 0 0,.osl 0 0 0 0 0,.osl 0 0 0 0 0,.osl 0 0 0 0 0,.osl 0 0 0 0 0,.osl 0 0 0 0 0]]⟩).set (nx+5) ⟨1,0,[]⟩) H1:=⟨_,rfl⟩
 rw[←bqK]
 have bqC:G nx=some ⟨6,1,[eSt s]⟩:=by rw[bqK,um1 (by omega),hfr _ (by omega),aA.aC (by omega)];exact aA.bH
 have g1:G (nx+1)=some ⟨6,1,[[.osl 0 0 0 0 0,.osl 0 0 0 0 0,.osl 0 0 0 0 0,.osl 0 0 0 0 0,.osl 0 0 0 0 0,.osl 0 0 0 0 0]]⟩:=by rw[bqK,um1 (by omega),hfr _ (by omega)];exact aA.bH
 have g5:G (nx+5)=some ⟨1,0,[]⟩:=by rw[bqK,aH6];exact aA.bH
 have go0:Own aJ 1 G boW c0 s.words:=ho0.of (by rw[bqK,um1 (by omega)])
 have go1:Own aJ 1 G b1 c1 s.holds:=ho1.of (by rw[bqK,um1 (by omega)])
 have gf: ∀id,id<nx→G id=H id:=fun id hid=>by rw[bqK,um1 (by omega),hfr _ (by omega),aA.aC (by omega),aA.aC (by omega),mk1 (by omega)]
 clear bqK ho0 ho1 hfr
 have m0: ∀G:aA,msk (nx+2) [3] G nx=G nx:=fun G=>mk1 (by omega)
 simp only[m0,bqC]
 refine⟨⟨fun _=>rfl,fun _=>rfl,fun _=>rfl,fun _=>rfl⟩,?_⟩
 simp only[go_sem,bqC,g1,g5,boC]
 refine⟨by omega,fun c2 hc2 _=> ?_⟩
 refine aNQ hf.wait hd3 fun H2 nx2 boX c3 p1 p2 bqD fr3=> ?_
 have k0:H2 nx=some ⟨6,1,[eSt s]⟩:=by rw[fr3 _ (by omega),aA.aC (by omega),aA.jG (by omega)];exact bqC
 have k1:H2 (nx+1)=some ⟨6,1,[[.osl 0 0 0 0 0,.osl 0 0 0 0 0,.osl 0 0 0 0 0,.osl 0 0 0 0 0,.osl 0 0 0 0 0,.osl 0 0 0 0 0]]⟩:=by rw[fr3 _ (by omega),aA.aC (by omega),aA.jG (by omega)];exact g1
 have ko0:Own aJ 1 H2 boW c0 s.words:=go0.of (by rw[fr3 _ (by omega),aA.aC (by omega),aA.jG (by omega)])
 have ko1:Own aJ 1 H2 b1 c1 s.holds:=go1.of (by rw[fr3 _ (by omega),aA.aC (by omega),aA.jG (by omega)])
 have ko2:Own aJ 1 H2 (nx+8) c2 s.asked:=⟨c2,by rw[fr3 _ (by omega)];exact aA.bH,hc2,m5 _⟩
 have kf: ∀id,id<nx→H2 id=H id:=fun id hid=>by rw[fr3 _ (by omega),aA.aC (by omega),aA.jG (by omega)];exact gf id hid
 clear bqC g1 g5 go0 go1 gf fr3
 simp only[go_sem,k0]
 refine aNQ hf.done hd4 fun H3 nx3 boY c4 p3 p4 bqE fr4=> ?_
 have l0:H3 nx=some ⟨6,1,[eSt s]⟩:=by rw[fr4 _ (by omega)];exact k0
 simp only[go_sem,l0]
 refine aNQ hf.told hd5 fun bqL nx4 boZ c5 p5 p6 bqF fr5=> ?_
 have n0:bqL nx=some ⟨6,1,[eSt s]⟩:=by rw[fr5 _ (by omega)];exact l0
 have bp0:bqL (nx+1)=some ⟨6,1,[[.osl 0 0 0 0 0,.osl 0 0 0 0 0,.osl 0 0 0 0 0,.osl 0 0 0 0 0,.osl 0 0 0 0 0,.osl 0 0 0 0 0]]⟩:=by rw[fr5 _ (by omega),fr4 _ (by omega)];exact k1
 have fr: ∀id,id<nx2→bqL id=H2 id:=fun id hid=>by rw[fr5 _ (by omega),fr4 _ (by omega)]
 simp only[go_sem,n0,bp0]
 repeat' first|apply bn1<;>(simp only[go_sem,n0,bp0])|fail
 exact hQ _ _ _ _ _ (.inr rfl) (fZ (m:=1) rfl aA.bH rfl) (h _ _ boW b1 (nx+8) boX boY boZ c0 c1 c2 c3 c4 c5 (by omega) (by omega) (by omega) (by omega) (by omega) (by omega) (by omega)
  (ko0.of (by rw[aA.aC (by omega),fr _ (by omega)])) (ko1.of (by rw[aA.aC (by omega),fr _ (by omega)])) (ko2.of (by rw[aA.aC (by omega),fr _ (by omega)])) (bqD.of (by rw[aA.aC (by omega),fr _ (by omega)])) (bqE.of (by rw[aA.aC (by omega),fr5 _ (by omega)])) (bqF.of (by rw[aA.aC (by omega)])) fun id hid=>by rw[aA.aC (by omega),fr _ (by omega)];exact kf id hid)
end
theorem umM {b:Nat} {l:List Nat} {H:aA}:dT b l H (msk b l H)=H:=by funext j;simp only[dT,msk];split<;>rfl
theorem muM {b:Nat} {l:List Nat} {H G:aA}:msk b l (dT b l H G)=msk b l G:=by funext j;simp only[dT,msk];split<;>rfl
section
variable {H : aA} {nx : Nat} {K : D → aA → Nat → Prop}
theorem apY (h:K (dB true) H nx):aB Tryz.prog E2 [] H nx K:=by
 refine aB.pure (args0:=[]) (R:=fun rr=>rr=dB true) ?_ rfl (aI trivial) (fun r hr=>hr▸h);clear h;refine XX rfl fun Q hQ=> ?_;unfold CP;repeat' first| (first|apply bn1|apply wS)<;>(simp only[go_sem])|fail
 all_goals first|with_reducible refine aZ hQ _ rfl rfl ?_|skip
 all_goals exact(q9 (by decide)).symm
end
end Go.Proofs.YtmccpdapaccnoaaGreat
