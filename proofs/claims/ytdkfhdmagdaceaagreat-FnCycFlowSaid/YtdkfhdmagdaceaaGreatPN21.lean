/- Texts laid together by a program: rules, contracts and the walk that leads to the law. -/
import Derived.Test.YtdkfhdmagdaceaaGreatPN18
import Derived.Test.YtdkfhdmagdaceaaGreatPN19
import Derived.Test.YtdkfhdmagdaceaaGreatPN16
import Derived.Test.YtdkfhdmagdaceaaGreatPN6
import Derived.Test.YtdkfhdmagdaceaaGreatPN7
import Derived.Test.YtdkfhdmagdaceaaGreatPN11
import Derived.Test.YtdkfhdmagdaceaaGreatPN10
import Derived.Test.YtdkfhdmagdaceaaGreatPN17
set_option linter.unusedVariables false
set_option linter.unusedSimpArgs false
set_option linter.unusedSectionVars false
set_option maxRecDepth 100000
set_option maxHeartbeats 8000000
namespace Go.Proofs.YtdkfhdmagdaceaaGreat
open Go Go.AM
attribute [local irreducible] aM wv aB vd wvH
theorem EN:cJ Tryz.prog jF Tryz.f97 lK sL:=cJ.mk Tryz.func97 (by kernel_rfl) D7
theorem afN {c:Cfg} {s:CSt} {l:List Mic}:(iP c s l).length≤l.length:=by
 induction l generalizing s with
 |nil=>simp[iP]
 |cons m l a=>
  have:=@a (aR c s m);rw[iP,t2,List.length_cons];have b:(y0 s m).length≤1:=by cases m<;>simp[y0]
  omega
theorem aaW {c:Cfg} {f:CSt→Nat→Option Mic} {l:List Nat} {s:CSt}:(vE c f s l).length≤l.length:=by
 induction l generalizing s with
 |nil=>simp[vE]
 |cons k l a=>
  rw[vE];split;·have:=@a s;rw[List.length_cons];omega
  ·rename_i m _;have:=@a (aR c s m);rw[List.length_cons,List.length_cons];omega
theorem aqN {c:Cfg} {l:List Nat} {s a:CSt} {u:List Bool}:iP c a (oP c s u l)=[]:=by
 induction l generalizing s u a with
 |nil=>simp[oP,iP]
 |cons k l b=>
  rw[oP];split;·exact b
  ·rw[iP,b];rfl
theorem aoN {c:Cfg} {i:CIn} {s:CSt}:TK c i s=([]++iP c s (KQ c i s))++iP c (CW c i s) (xX c i (CW c i s))++iP c (OI c i s) (MV c i (OI c i s)):=by
 have a:dR c s (KQ c i s++xX c i (CW c i s)++ad4 c (QD c i s))=OI c i s:=by rw[tB,tB];rfl
 have b:dR c s (KQ c i s++xX c i (CW c i s))=QD c i s:=by rw[tB];rfl
 rw[TK,YC,G6,G6,G6,a,b,List.nil_append];rw[show iP c (QD c i s) (ad4 c (QD c i s))=[] from aqN,bq6];rfl
section
variable {H : aA} {nx : Nat} {K : D → aA → Nat → Prop}
theorem tX {X:Nat→Prop} {c:Cfg} {i:CIn} {s:CSt} {i0:Nat} {nm:Nat→Nat} (t:aQ c) (hs:COk c s) (hi:i.ready.length=3∧i.n9.length=4∧i.send.length=3) (v:Rep X H nx i0 nm s)
 (h: ∀H' nx' S a b d e,nx≤nx'→Rep X H' nx' i0 S (vF c i s)→(∀id,X id→H' id=H id)→K (boR [.isl ((TK c i s).map eEv),cI a,cI b,cI d,cI e]) H' nx'):
 aB Tryz.prog jF [.one (.c (.ptr 5 i0 0 0)),boR (cU c),boR (eIn i)] H nx K:=by
 apply aB.tW
 refine EN rfl fun Q hQ=> ?_
 unfold lK
 repeat' first|apply bn1<;>(simp only[go_sem,t1,bqT])|fail
 have w:=v.i0.1
 have l:=v.x
 have T:l9 (fun id=>X id∨id=nx∨id=nx+1∨id=nx+2) ((((H.set nx ⟨3,1,[cU c]⟩).set (nx+1) ⟨3,1,[eIn i]⟩).set (nx+2) ⟨5,1,[[.osl 0 0 0 0 0,cI 0,cI 0,cI 0,cI 0]]⟩).set (nx+3) ⟨5,1,[[.osl 0 0 0 0 0,cI 0,cI 0,cI 0,cI 0]]⟩) (nx+7) i0 (nx+3) nm s []:=by
  have ho: ∀id,id<nx→((((H.set nx ⟨3,1,[cU c]⟩).set (nx+1) ⟨3,1,[eIn i]⟩).set (nx+2) ⟨5,1,[[.osl 0 0 0 0 0,cI 0,cI 0,cI 0,cI 0]]⟩).set (nx+3) ⟨5,1,[[.osl 0 0 0 0 0,cI 0,cI 0,cI 0,cI 0]]⟩) id=H id:=fun id f=>by rw[aA.aC (by omega),aA.aC (by omega),aA.aC (by omega),aA.aC (by omega)]
  have o:=v.names.lt;refine⟨v.frame (by omega) (ho _ w) (fun k g=>ho _ (o k g)) fun id f=> ?_,⟨⟨_,0,0,0,0,aA.bH,.inl ⟨rfl,rfl⟩⟩,⟨by omega,?_⟩,?_⟩⟩
  ·rcases f with(f|f)|f;·have:=l id f;exact⟨by omega,fun he=>v.i0.2 (he▸f),fun k g he=>v.names.av k g (he▸f)⟩
   ·exact⟨by omega,by omega,fun k g=>by have:=o k g;omega⟩
   ·exact⟨by omega,by omega,fun k g=>by have:=o k g;omega⟩
  ·rintro((f|f)|f|⟨k,g,f⟩);·have:=l _ f;omega
   ·omega
   ·omega
   ·have:=o k g;omega
  ·rintro id ((f|f)|f|⟨k,g,f⟩);·have:=l _ f;omega
   ·omega
   ·omega
   ·have:=o k g;omega
 have q: ∀{G:aA},(∀id,X id∨id=nx∨id=nx+1∨id=nx+2→G id=((((H.set nx ⟨3,1,[cU c]⟩).set (nx+1) ⟨3,1,[eIn i]⟩).set (nx+2) ⟨5,1,[[.osl 0 0 0 0 0,cI 0,cI 0,cI 0,cI 0]]⟩).set (nx+3) ⟨5,1,[[.osl 0 0 0 0 0,cI 0,cI 0,cI 0,cI 0]]⟩) id)→G nx=some ⟨3,1,[cU c]⟩∧G (nx+1)=some ⟨3,1,[eIn i]⟩∧G (nx+2)=some ⟨5,1,[[.osl 0 0 0 0 0,cI 0,cI 0,cI 0,cI 0]]⟩∧ ∀id,X id→G id=H id:=fun bqK=>by
  refine⟨?_,?_,?_,fun id f=> ?_⟩;·rw[bqK _ (.inr (.inl rfl)),aA.aC (by omega),aA.aC (by omega),aA.aC (by omega)];exact aA.bH
  ·rw[bqK _ (.inr (.inr (.inl rfl))),aA.aC (by omega),aA.aC (by omega)];exact aA.bH
  ·rw[bqK _ (.inr (.inr (.inr rfl))),aA.aC (by omega)];exact aA.bH
  ·have:=l id f;rw[bqK _ (.inl f),aA.aC (by omega),aA.aC (by omega),aA.aC (by omega),aA.aC (by omega)]
 have ae:(iP c s (KQ c i s)).length≤3:=CQ afN aaW
 have af:(iP c (CW c i s) (xX c i (CW c i s))).length≤4:=CQ afN aaW
 refine F8 t hs hi.1 T (by simp) fun H1 ag ah ai U r=> ?_
 obtain⟨b1,b2,boX,boY⟩:=q r
 simp only[go_sem]
 repeat' first|apply bn1<;>(simp only[go_sem,b1,b2,boX])|fail
 refine GF t (PH t hs) hi.2.1 (U.mono (by omega)) (by simp;omega) fun H2 aj ak al V u=> ?_
 obtain⟨c1,c2,c3,c4⟩:=q fun id f=>(u id f).trans (r id f)
 simp only[go_sem]
 repeat' first|apply bn1<;>(simp only[go_sem,c1,c2,c3])|fail
 refine HT t (PV t hs) (V.mono (by omega)) fun H3 an ao aq W y=> ?_
 obtain⟨d1,d2,d3,bkS⟩:=q fun id f=>(y id f).trans ((u id f).trans (r id f))
 simp only[go_sem]
 repeat' first|apply bn1<;>(simp only[go_sem,d1,d2,d3])|fail
 refine HN t (afG t hs) hi.2.2 (W.mono (by omega)) (by simp;omega) fun bqL Y p ar n Z=> ?_
 obtain⟨e1,e2,e3,e4⟩:=q fun id f=>(Z id f).trans ((y id f).trans ((u id f).trans (r id f)))
 obtain⟨dv,z,A,B,C,aa,D⟩:=n.hap.ex
 rw[←aoN] at D
 simp only[go_sem]
 repeat' first|apply bn1<;>(simp only[go_sem,t1,bqT,e1,e2,e3,aa])|fail
 have E:=n.rep.names.av
 have ab:=n.rep.names.lt
 have I:=n.rep.i0
 have J:i0≠nx+2:=by omega
 have L: ∀k,k<19→p k≠nx+2:=fun k g he=>E k g (.inl (.inr (.inr (.inr he))))
 have M: ∀id,X id→id<Y+2∧id≠i0∧ ∀k,k<19→id≠p k:=fun id f=>⟨by have:=l id f;omega,fun he=>I.2 (.inl (.inl (he▸f))),fun k g he=>E k g (.inl (.inl (he▸f)))⟩
 have N:vF c i s=dR c (OI c i s) (MV c i (OI c i s)):=rfl
 rcases D with⟨he,rfl⟩|⟨ev,cap,rfl,⟨m,rows,v1,v2,aXN,v4,aXO,v6⟩,blW,blX,bnA⟩
 ·refine hQ _ _ _ _ _ (.inr rfl) (fZ rfl aA.bH rfl) ⟨boR [.isl ((TK c i s).map eEv),cI z,cI A,cI B,cI C],_,noF,by rw[he];simp only[List.map];repeat' first|exact bo2| (with_reducible first|exact bo4|apply bo5)| ((with_reducible apply bo0);first|exact bo9 rfl|exact bpE)| ((with_reducible apply bo1);apply bo6)|fail,aK,h _ _ p _ _ _ _ (by omega) (N▸n.rep.frame (by omega) (aA.aC J) (fun k g=>aA.aC (L k g)) M) fun id f=> ?_⟩;have:=l id f;rw[aA.aC (by omega)];exact e4 id f
 ·have O:ev≠nx+2:=fun he=>blX (.inl (.inr (.inr (.inr he))));have P:i0≠ev:=fun he=>blX (.inr (.inl he.symm));have R: ∀k,k<19→p k≠ev:=fun k g he=>blX (.inr (.inr ⟨k,g,he.symm⟩));rw[bq5] at v2;subst v2;refine hQ _ _ _ _ _ (.inr rfl) (fZ rfl aA.bH rfl) ⟨boR [.isl ((TK c i s).map eEv),cI z,cI A,cI B,cI C],_,fun j=>j=ev,lY (aH (bW (F:=fun j=>j=ev) (m:=m) aq2 ((aA.aC O).trans v1) rfl (by omega) rfl) (aH (bB rfl) (aH (bB rfl) (aH (bB rfl) (aH (bB rfl) eP))))),PU,h _ _ p _ _ _ _ (by omega) (N▸n.rep.frame (by omega) ((aA.jG P).trans (aA.aC J)) (fun k g=>(aA.jG (R k g)).trans (aA.aC (L k g))) M) fun id f=> ?_⟩;have:=l id f;have ad:id≠ev:=fun he=>blX (.inl (.inl (he▸f)));rw[aA.jG ad,aA.aC (by omega)];exact e4 id f
theorem t6 (l:List fC) (hl:l.length<2^21):aB Tryz.prog eE [dS (l.map eCJ)] (hp []) 0
 fun r H' e=>∃cap,l.length≤cap∧e=1∧H'=hp [(0,⟨3,cap,l.map eCJ⟩)]∧r=boQ 3 0 l.length cap:=by
 refine sN rfl fun Q c=> ?_
 unfold gB
 refine aM.seq (aM.EJ 3 ?_)
 repeat' first|apply bn1<;>(simp only[go_sem])|refine bpI (fun h=> ?_) fun h=> ?_| (with_reducible first|refine fun(cap:Nat) (d:_≤cap)=> ?_|refine fun(f:_≤cap)=> ?_|refine fun(b:Bool)=> ?_)| ((refine bnF (fun h=> ?_) (fun h=> ?_))<;>try subst h)|refine⟨by omega,?_⟩|fail
 all_goals first
  | (have a:=m5 cap
     (refine c _ _ _ _ _ 1 (boQ 3 0 l.length cap) (hp [(0,⟨3,cap,l.map eCJ⟩)]) _ _ (.inr rfl) rfl (fU [6] (by omega) (by repeat' first|exact bo2| ((with_reducible apply bo0);exact bpB (by omega) rfl rfl (by rfl) rfl)| ((with_reducible apply bo1);apply bo7)|fail) ⟨⟨by simp,by simp[sgL],_,rfl,bP (aG yK _) rfl rfl⟩,trivial⟩ (by simp[sgL])) ?_)
     exact⟨cap,by omega,rfl,rfl,rfl⟩)
  | (have g:l=[]:=CE (by omega)
     subst g
     (refine c _ _ _ _ _ 1 (boQ 3 0 0 0) (hp [(0,⟨3,0,([]:List fC).map eCJ⟩)]) _ _ (.inr rfl) rfl (fU [0] (by omega) (by repeat' first|exact bo2| ((with_reducible apply bo0);exact bpA)| ((with_reducible apply bo1);apply bo7)|fail) ⟨⟨by simp,by simp[sgL],_,rfl,bP (aG yK _) rfl rfl⟩,trivial⟩ (by simp[sgL])) ?_)
     exact⟨0,m5 _,rfl,rfl,rfl⟩)
theorem tY {l:List fC} (hl:l.length<2^21) (h: ∀cap,l.length≤cap→K (boQ 3 nx l.length cap) (H.set nx ⟨3,cap,l.map eCJ⟩) (nx+1)):aB Tryz.prog eE [dS (l.map eCJ)] H nx K:=by
 refine(t6 l hl).AF (l0:=[]) [] rfl ⟨aE rfl,trivial⟩ trivial (by simp) (by simp) (by simp) fun r H' e _ ⟨cap,bqB,a,b,c⟩=> ?_;have h:=h cap bqB;subst a;subst b;subst c;have d:back (tau 0 nx (nth [])) (hp [(0,⟨3,cap,l.map eCJ⟩)]) 1 H=H.set nx ⟨3,cap,l.map eCJ⟩:=by simp only[back,hp,aA.set,tau,bq2,if_true,if_false,Nat.sub_zero,Nat.add_zero,Option.map_some,XO,aA.eL]
 rw[←d] at h;exact h
theorem uX (l:List fC) (cap m:Nat) (hl:l.length<2^21) (hc:l.length≤cap):aB Tryz.prog eQ [boQ 3 0 l.length cap] (hp [(0,⟨3,m,l.map eCJ⟩)]) 1
 fun r H' a=>a=1∧ ∃o',H'=hp [(0,o')]∧C7 o'∧o'=⟨3,m,l.map eCJ⟩∧r=boQ 3 0 l.length l.length:=by
 refine uS rfl fun Q b=> ?_
 unfold gK
 repeat' first|apply bn1<;>(simp only[go_sem])|refine⟨by omega,?_⟩|fail
 exact lA b (boQ 3 0 l.length l.length) _ _ rfl (by repeat' first|exact bo2| ((with_reducible apply bo0);exact bpB (by omega) rfl rfl (by rfl) rfl)| ((with_reducible apply bo1);apply bo7)|fail) rfl (oB yK _) ⟨rfl,rfl⟩
theorem vQ {l:List fC} {cap m i:Nat} (hl:l.length<2^21) (hc:l.length≤cap) (hi:i<nx) (a:H i=some ⟨3,m,l.map eCJ⟩) (h:K (boQ 3 i l.length l.length) (H.set i ⟨3,m,l.map eCJ⟩) nx):
 aB Tryz.prog eQ [boQ 3 i l.length cap] H nx K:=
 (uX l cap m hl hc).OU i rfl (gW ⟨qS (by omega) rfl rfl rfl rfl,trivial⟩) hi a (oB yK _) fun r o' ⟨b,c⟩=>by subst b;subst c;exact h
theorem AI (l:List fC) (hl:l.length<2^21):aB Tryz.prog eK [dS (l.map eCJ)] (hp []) 0
 fun r H' b=>∃cap,l.length≤cap∧b=1∧H'=hp [(0,⟨3,cap,l.map eCJ⟩)]∧r=boQ 3 0 l.length l.length:=by
 refine y7 rfl fun Q c=> ?_
 unfold i9
 repeat' first| (first|apply bn1|refine tY hl (fun cap a=> ?_)|refine vQ hl a (by omega) rfl ?_)<;>(simp only[go_sem])|fail
 (refine c _ _ _ _ _ 1 (boQ 3 0 l.length l.length) (hp [(0,⟨3,cap,l.map eCJ⟩)]) _ _ (.inr rfl) rfl (fU [5] (by omega) (by repeat' first|exact bo2| ((with_reducible apply bo0);exact bpB (by omega) rfl rfl (by rfl) rfl)| ((with_reducible apply bo1);apply bo7)|fail) ⟨⟨by simp,by simp[sgL],_,rfl,bP (aG yK _) rfl rfl⟩,trivial⟩ (by simp[sgL])) ?_)
 exact⟨cap,a,rfl,rfl,rfl⟩
theorem oD {l:List fC} (hl:l.length<2^21) (h: ∀m,l.length≤m→K (boQ 3 nx l.length l.length) (H.set nx ⟨3,m,l.map eCJ⟩) (nx+1)):aB Tryz.prog eK [dS (l.map eCJ)] H nx K:=by
 refine(AI l hl).AF (l0:=[]) [] rfl ⟨aE rfl,trivial⟩ trivial (by simp) (by simp) (by simp) fun r H' e _ ⟨cap,bqB,a,b,c⟩=> ?_;have h:=h cap bqB;subst a;subst b;subst c;have d:back (tau 0 nx (nth [])) (hp [(0,⟨3,cap,l.map eCJ⟩)]) 1 H=H.set nx ⟨3,cap,l.map eCJ⟩:=by simp only[back,hp,aA.set,tau,bq2,if_true,if_false,Nat.sub_zero,Nat.add_zero,Option.map_some,XO,aA.eL]
 rw[←d] at h;exact h
theorem VV {τ:Nat→Nat} {n m:Nat} {l:List fR}:bA.rn τ ⟨n,m,l.map cD⟩=⟨n,m,l.map cD⟩:=by refine rF fun r hr x a=> ?_;obtain⟨y,_,rfl⟩:=CF.1 hr;exact w2.1 (t7 y).2 x a
theorem r7 (l:List fR) (hl:l.length<2^21):aB Tryz.prog dL [dS (l.map cD)] (hp []) 0
 fun r H' e=>∃cap,l.length≤cap∧e=1∧H'=hp [(0,⟨4,cap,l.map cD⟩)]∧r=boQ 4 0 l.length cap:=by
 refine qV rfl fun Q c=> ?_
 unfold fN
 refine aM.seq (aM.EJ 4 ?_)
 repeat' first|apply bn1<;>(simp only[go_sem])|refine bpI (fun h=> ?_) fun h=> ?_| (with_reducible first|refine fun(cap:Nat) (d:_≤cap)=> ?_|refine fun(f:_≤cap)=> ?_|refine fun(b:Bool)=> ?_)| ((refine bnF (fun h=> ?_) (fun h=> ?_))<;>try subst h)|refine⟨by omega,?_⟩|fail
 all_goals first
  | (have a:=m5 cap
     (refine c _ _ _ _ _ 1 (boQ 4 0 l.length cap) (hp [(0,⟨4,cap,l.map cD⟩)]) _ _ (.inr rfl) rfl (fU [6] (by omega) (by repeat' first|exact bo2| ((with_reducible apply bo0);exact bpB (by omega) rfl rfl (by rfl) rfl)| ((with_reducible apply bo1);apply bo7)|fail) ⟨⟨by simp,by simp[sgL],_,rfl,bP (aG t7 _) rfl rfl⟩,trivial⟩ (by simp[sgL])) ?_)
     exact⟨cap,by omega,rfl,rfl,rfl⟩)
  | (have g:l=[]:=CE (by omega)
     subst g
     (refine c _ _ _ _ _ 1 (boQ 4 0 0 0) (hp [(0,⟨4,0,([]:List fR).map cD⟩)]) _ _ (.inr rfl) rfl (fU [0] (by omega) (by repeat' first|exact bo2| ((with_reducible apply bo0);exact bpA)| ((with_reducible apply bo1);apply bo7)|fail) ⟨⟨by simp,by simp[sgL],_,rfl,bP (aG t7 _) rfl rfl⟩,trivial⟩ (by simp[sgL])) ?_)
     exact⟨0,m5 _,rfl,rfl,rfl⟩)
theorem sC {l:List fR} (hl:l.length<2^21) (h: ∀cap,l.length≤cap→K (boQ 4 nx l.length cap) (H.set nx ⟨4,cap,l.map cD⟩) (nx+1)):aB Tryz.prog dL [dS (l.map cD)] H nx K:=by
 refine(r7 l hl).AF (l0:=[]) [] rfl ⟨aE rfl,trivial⟩ trivial (by simp) (by simp) (by simp) fun r H' e _ ⟨cap,bqB,a,b,c⟩=> ?_;have h:=h cap bqB;subst a;subst b;subst c;have d:back (tau 0 nx (nth [])) (hp [(0,⟨4,cap,l.map cD⟩)]) 1 H=H.set nx ⟨4,cap,l.map cD⟩:=by simp only[back,hp,aA.set,tau,bq2,if_true,if_false,Nat.sub_zero,Nat.add_zero,Option.map_some,VV,aA.eL]
 rw[←d] at h;exact h
theorem tJ (l:List fR) (cap m:Nat) (hl:l.length<2^21) (hc:l.length≤cap):aB Tryz.prog dV [boQ 4 0 l.length cap] (hp [(0,⟨4,m,l.map cD⟩)]) 1
 fun r H' a=>a=1∧ ∃o',H'=hp [(0,o')]∧C7 o'∧o'=⟨4,m,l.map cD⟩∧r=boQ 4 0 l.length l.length:=by
 refine r9 rfl fun Q b=> ?_
 unfold fV
 repeat' first|apply bn1<;>(simp only[go_sem])|refine⟨by omega,?_⟩|fail
 exact lA b (boQ 4 0 l.length l.length) _ _ rfl (by repeat' first|exact bo2| ((with_reducible apply bo0);exact bpB (by omega) rfl rfl (by rfl) rfl)| ((with_reducible apply bo1);apply bo7)|fail) rfl (oB t7 _) ⟨rfl,rfl⟩
theorem sT {l:List fR} {cap m i:Nat} (hl:l.length<2^21) (hc:l.length≤cap) (hi:i<nx) (a:H i=some ⟨4,m,l.map cD⟩) (h:K (boQ 4 i l.length l.length) (H.set i ⟨4,m,l.map cD⟩) nx):
 aB Tryz.prog dV [boQ 4 i l.length cap] H nx K:=
 (tJ l cap m hl hc).OU i rfl (gW ⟨qS (by omega) rfl rfl rfl rfl,trivial⟩) hi a (oB t7 _) fun r o' ⟨b,c⟩=>by subst b;subst c;exact h
theorem yZ (l:List fR) (hl:l.length<2^21):aB Tryz.prog fY [dS (l.map cD)] (hp []) 0
 fun r H' b=>∃cap,l.length≤cap∧b=1∧H'=hp [(0,⟨4,cap,l.map cD⟩)]∧r=boQ 4 0 l.length l.length:=by
 refine yL rfl fun Q c=> ?_
 unfold iV
 repeat' first| (first|apply bn1|refine sC hl (fun cap a=> ?_)|refine sT hl a (by omega) rfl ?_)<;>(simp only[go_sem])|fail
 (refine c _ _ _ _ _ 1 (boQ 4 0 l.length l.length) (hp [(0,⟨4,cap,l.map cD⟩)]) _ _ (.inr rfl) rfl (fU [5] (by omega) (by repeat' first|exact bo2| ((with_reducible apply bo0);exact bpB (by omega) rfl rfl (by rfl) rfl)| ((with_reducible apply bo1);apply bo7)|fail) ⟨⟨by simp,by simp[sgL],_,rfl,bP (aG t7 _) rfl rfl⟩,trivial⟩ (by simp[sgL])) ?_)
 exact⟨cap,a,rfl,rfl,rfl⟩
theorem yX {l:List fR} (hl:l.length<2^21) (h: ∀m,l.length≤m→K (boQ 4 nx l.length l.length) (H.set nx ⟨4,m,l.map cD⟩) (nx+1)):aB Tryz.prog fY [dS (l.map cD)] H nx K:=by
 refine(yZ l hl).AF (l0:=[]) [] rfl ⟨aE rfl,trivial⟩ trivial (by simp) (by simp) (by simp) fun r H' e _ ⟨cap,bqB,a,b,c⟩=> ?_;have h:=h cap bqB;subst a;subst b;subst c;have d:back (tau 0 nx (nth [])) (hp [(0,⟨4,cap,l.map cD⟩)]) 1 H=H.set nx ⟨4,cap,l.map cD⟩:=by simp only[back,hp,aA.set,tau,bq2,if_true,if_false,Nat.sub_zero,Nat.add_zero,Option.map_some,VV,aA.eL]
 rw[←d] at h;exact h
theorem ZC {τ:Nat→Nat} {n m:Nat} {l:List nY}:bA.rn τ ⟨n,m,l.map gF⟩=⟨n,m,l.map gF⟩:=by refine rF fun r hr x a=> ?_;obtain⟨y,_,rfl⟩:=CF.1 hr;exact w2.1 (zJ y).2 x a
theorem qB (l:List nY) (hl:l.length<2^21):aB Tryz.prog cZ [dS (l.map gF)] (hp []) 0
 fun r H' e=>∃cap,l.length≤cap∧e=1∧H'=hp [(0,⟨3,cap,l.map gF⟩)]∧r=boQ 3 0 l.length cap:=by
 refine oY rfl fun Q c=> ?_
 unfold eW
 refine aM.seq (aM.EJ 3 ?_)
 repeat' first|apply bn1<;>(simp only[go_sem])|refine bpI (fun h=> ?_) fun h=> ?_| (with_reducible first|refine fun(cap:Nat) (d:_≤cap)=> ?_|refine fun(f:_≤cap)=> ?_|refine fun(b:Bool)=> ?_)| ((refine bnF (fun h=> ?_) (fun h=> ?_))<;>try subst h)|refine⟨by omega,?_⟩|fail
 all_goals first
  | (have a:=m5 cap
     (refine c _ _ _ _ _ 1 (boQ 3 0 l.length cap) (hp [(0,⟨3,cap,l.map gF⟩)]) _ _ (.inr rfl) rfl (fU [6] (by omega) (by repeat' first|exact bo2| ((with_reducible apply bo0);exact bpB (by omega) rfl rfl (by rfl) rfl)| ((with_reducible apply bo1);apply bo7)|fail) ⟨⟨by simp,by simp[sgL],_,rfl,bP (aG zJ _) rfl rfl⟩,trivial⟩ (by simp[sgL])) ?_)
     exact⟨cap,by omega,rfl,rfl,rfl⟩)
  | (have g:l=[]:=CE (by omega)
     subst g
     (refine c _ _ _ _ _ 1 (boQ 3 0 0 0) (hp [(0,⟨3,0,([]:List nY).map gF⟩)]) _ _ (.inr rfl) rfl (fU [0] (by omega) (by repeat' first|exact bo2| ((with_reducible apply bo0);exact bpA)| ((with_reducible apply bo1);apply bo7)|fail) ⟨⟨by simp,by simp[sgL],_,rfl,bP (aG zJ _) rfl rfl⟩,trivial⟩ (by simp[sgL])) ?_)
     exact⟨0,m5 _,rfl,rfl,rfl⟩)
theorem qG {l:List nY} (hl:l.length<2^21) (h: ∀cap,l.length≤cap→K (boQ 3 nx l.length cap) (H.set nx ⟨3,cap,l.map gF⟩) (nx+1)):aB Tryz.prog cZ [dS (l.map gF)] H nx K:=by
 refine(qB l hl).AF (l0:=[]) [] rfl ⟨aE rfl,trivial⟩ trivial (by simp) (by simp) (by simp) fun r H' e _ ⟨cap,bqB,a,b,c⟩=> ?_;have h:=h cap bqB;subst a;subst b;subst c;have d:back (tau 0 nx (nth [])) (hp [(0,⟨3,cap,l.map gF⟩)]) 1 H=H.set nx ⟨3,cap,l.map gF⟩:=by simp only[back,hp,aA.set,tau,bq2,if_true,if_false,Nat.sub_zero,Nat.add_zero,Option.map_some,ZC,aA.eL]
 rw[←d] at h;exact h
theorem rJ (l:List nY) (cap m:Nat) (hl:l.length<2^21) (hc:l.length≤cap):aB Tryz.prog dE [boQ 3 0 l.length cap] (hp [(0,⟨3,m,l.map gF⟩)]) 1
 fun r H' a=>a=1∧ ∃o',H'=hp [(0,o')]∧C7 o'∧o'=⟨3,m,l.map gF⟩∧r=boQ 3 0 l.length l.length:=by
 refine qF rfl fun Q b=> ?_
 unfold fG
 repeat' first|apply bn1<;>(simp only[go_sem])|refine⟨by omega,?_⟩|fail
 exact lA b (boQ 3 0 l.length l.length) _ _ rfl (by repeat' first|exact bo2| ((with_reducible apply bo0);exact bpB (by omega) rfl rfl (by rfl) rfl)| ((with_reducible apply bo1);apply bo7)|fail) rfl (oB zJ _) ⟨rfl,rfl⟩
theorem qZ {l:List nY} {cap m i:Nat} (hl:l.length<2^21) (hc:l.length≤cap) (hi:i<nx) (a:H i=some ⟨3,m,l.map gF⟩) (h:K (boQ 3 i l.length l.length) (H.set i ⟨3,m,l.map gF⟩) nx):
 aB Tryz.prog dE [boQ 3 i l.length cap] H nx K:=
 (rJ l cap m hl hc).OU i rfl (gW ⟨qS (by omega) rfl rfl rfl rfl,trivial⟩) hi a (oB zJ _) fun r o' ⟨b,c⟩=>by subst b;subst c;exact h
theorem yJ (l:List nY) (hl:l.length<2^21):aB Tryz.prog fM [dS (l.map gF)] (hp []) 0
 fun r H' b=>∃cap,l.length≤cap∧b=1∧H'=hp [(0,⟨3,cap,l.map gF⟩)]∧r=boQ 3 0 l.length l.length:=by
 refine wE rfl fun Q c=> ?_
 unfold iB
 repeat' first| (first|apply bn1|refine qG hl (fun cap a=> ?_)|refine qZ hl a (by omega) rfl ?_)<;>(simp only[go_sem])|fail
 (refine c _ _ _ _ _ 1 (boQ 3 0 l.length l.length) (hp [(0,⟨3,cap,l.map gF⟩)]) _ _ (.inr rfl) rfl (fU [5] (by omega) (by repeat' first|exact bo2| ((with_reducible apply bo0);exact bpB (by omega) rfl rfl (by rfl) rfl)| ((with_reducible apply bo1);apply bo7)|fail) ⟨⟨by simp,by simp[sgL],_,rfl,bP (aG zJ _) rfl rfl⟩,trivial⟩ (by simp[sgL])) ?_)
 exact⟨cap,a,rfl,rfl,rfl⟩
theorem xA {l:List nY} (hl:l.length<2^21) (h: ∀m,l.length≤m→K (boQ 3 nx l.length l.length) (H.set nx ⟨3,m,l.map gF⟩) (nx+1)):aB Tryz.prog fM [dS (l.map gF)] H nx K:=by
 refine(yJ l hl).AF (l0:=[]) [] rfl ⟨aE rfl,trivial⟩ trivial (by simp) (by simp) (by simp) fun r H' e _ ⟨cap,bqB,a,b,c⟩=> ?_;have h:=h cap bqB;subst a;subst b;subst c;have d:back (tau 0 nx (nth [])) (hp [(0,⟨3,cap,l.map gF⟩)]) 1 H=H.set nx ⟨3,cap,l.map gF⟩:=by simp only[back,hp,aA.set,tau,bq2,if_true,if_false,Nat.sub_zero,Nat.add_zero,Option.map_some,ZC,aA.eL]
 rw[←d] at h;exact h
end
theorem BJ:cJ Tryz.prog cV Tryz.f95 kM pR:=cJ.mk Tryz.func95 (by kernel_rfl) AZ
end Go.Proofs.YtdkfhdmagdaceaaGreat
namespace Go.AM
structure Part (A:Nat→Prop) (lo hi:Nat) (nm:Nat→Nat):Prop where
 inj: ∀j k,A j→A k→nm j=nm k→j=k
 rng: ∀k,A k→lo≤nm k∧nm k<hi
theorem Part.mono {A:Nat→Prop} {lo hi hi':Nat} {nm:Nat→Nat} (h:Part A lo hi nm) (b:hi≤hi'):Part A lo hi' nm:=⟨h.inj,fun k a=>by have:=h.rng k a;omega⟩
theorem Part.put {A B:Nat→Prop} {lo hi hi' k v:Nat} {nm:Nat→Nat} (h:Part A lo hi nm) (d:lo≤hi) (e:hi≤v) (f:v<hi') (hB: ∀j,B j→A j∧j≠k∨j=k):Part B lo hi' (put nm k v):=by
 refine⟨fun i j hi a he=> ?_,fun j a=> ?_⟩
 ·rcases hB i hi with⟨az9,az2⟩|rfl<;>rcases hB j a with⟨b,c⟩|rfl;·rw[jE az2,jE c] at he;exact h.inj i j az9 b he
  ·rw[jE az2,t8] at he;have:=h.rng i az9;omega
  ·rw[jE c,t8] at he;have:=h.rng j b;omega
  ·rfl
 ·rcases hB j a with⟨az9,az2⟩|rfl;·rw[jE az2];have:=h.rng j az9;omega
  ·rw[t8];omega
structure CSz (s:CSt):Prop where
 pl:s.bM.length=3
 sl:s.dD.length=4
 w:s.words.length<2^21
 h:s.holds.length<2^21
 t:s.told.length<2^21∧ ∀j∈s.told,j.rsp.data.length<2^21
 port: ∀k,k<3→(aF s k).queue.length<2^21∧(aF s k).out.length<2^21
 slv: ∀k,k<4→(aL s k).pipe.length<2^21∧(aL s k).done.length<2^21∧ ∀j∈(aL s k).done,j.rsp.data.length<2^21
theorem aM.TF {P:Program} {T:Nat} {e:Env} {H:aA} {nx:Nat} {Q:AQ} {zs:List AC} (h: ∀G,G=H→aM P T zs e G nx Q):aM P T zs e H nx Q:=h H rfl
def asA (k:Nat) (H:aA) (nm:Nat→Nat) (s:CSt) (rows:List (List D1)):Prop:=rows.length=3∧(∀j,j<k→∃r,rows[j]?=some r∧CX H (nm (5+j)) (nm (8+j)) (aF s j) r)∧ ∀j,k≤j→j<3→rows[j]?=some (cD (aF s j))
def asP (k:Nat) (H:aA) (nm:Nat→Nat) (s:CSt) (rows:List (List D1)):Prop:=rows.length=4∧(∀j,j<k→∃r,rows[j]?=some r∧LJ H (nm (11+j)) (nm (15+j)) (aL s j) r)∧ ∀j,k≤j→j<4→rows[j]?=some (gF (aL s j))
end Go.AM
namespace Go.Proofs.YtdkfhdmagdaceaaGreat
open Go Go.AM
attribute [local irreducible] aM wv aB vd wvH
section
variable {H : aA} {nx : Nat} {K : D → aA → Nat → Prop}
theorem fJ {s:CSt} (hs:CSz s)
 (h: ∀H' nx' nm cells,nx≤nx'→abY H' nm s cells→Part (fun k=>k<19) nx nx' nm→(∀id,id<nx→H' id=H id)→K (.one (.agg cells)) H' nx'):
 aB Tryz.prog cV [boR (eI s)] H nx K:=by
 have U:=hs.pl
 have V:=hs.sl
 refine BJ rfl fun Q hQ=> ?_
 unfold kM
 refine aM.BW fun aj=> ?_
 have ak: ∀k l,msk (nx+k) l H=H:=fun k l=>BV aj (by omega)
 repeat' first| (first|apply bn1|refine qN (w:=s.words) (u:=s.holds) hs.w hs.h (fun m0 m1 bg bh=> ?_)|refine yX (l:=s.bM) (by omega) (fun bp3 bj=> ?_)|refine xA (l:=s.dD) (by omega) (fun bqM bk=> ?_)|refine gY (l:=s.told) hs.t.1 hs.t.2 (fun bqN bm=> ?_))<;>(simp only[go_sem,boC,ak,umS (G:=H),umD (G:=H),umB,msk,List.map,t3,bq7,or_false,U,V])|fail
 refine aM.TF fun bqO e=> ?_
 have c0:bqO nx=some ⟨5,1,[eI s]⟩:=by rw[e];simp only[aA.set,bqU,Nat.reduceEqDiff,bqV,bqT,if_false,if_true]
 have c1:bqO (nx+1)=some ⟨5,1,[[.osl 0 0 0 0 0,.osl 0 0 0 0 0,.osl 0 0 0 0 0,.osl 0 0 0 0 0,.osl 0 0 0 0 0]]⟩:=by rw[e];simp only[aA.set,bqU,Nat.reduceEqDiff,bqV,bqT,if_false,if_true]
 have al:bqO (nx+15)=some ⟨5,1,[[.osl 1 (nx+17) 0 s.words.length s.words.length,.osl 1 (nx+18) 0 s.holds.length s.holds.length,.osl 4 (nx+19) 0 3 3,.osl 3 (nx+20) 0 4 4,.osl 5 (nx+21) 0 s.told.length s.told.length]]⟩:=by rw[e];simp only[aA.set,bqU,Nat.reduceEqDiff,bqV,bqT,if_false,if_true]
 have an:bqO (nx+17)=some ⟨1,m0,s.words.map aJ⟩:=by rw[e];simp only[aA.set,bqU,Nat.reduceEqDiff,bqV,bqT,if_false,if_true]
 have ao:bqO (nx+18)=some ⟨1,m1,s.holds.map aJ⟩:=by rw[e];simp only[aA.set,bqU,Nat.reduceEqDiff,bqV,bqT,if_false,if_true]
 have aq:bqO (nx+19)=some ⟨4,bp3,s.bM.map cD⟩:=by rw[e];simp only[aA.set,bqU,Nat.reduceEqDiff,bqV,bqT,if_false,if_true]
 have ar:bqO (nx+20)=some ⟨3,bqM,s.dD.map gF⟩:=by rw[e];simp only[aA.set,bqU,Nat.reduceEqDiff,bqV,bqT,if_false,if_true]
 have au:bqO (nx+21)=some ⟨5,bqN,s.told.map aS⟩:=by rw[e];simp only[aA.set,bqU,Nat.reduceEqDiff,bqV,bqT,if_false,if_true]
 have aw: ∀id,id<nx→bqO id=H id:=fun id W=>by rw[e];simp only[aA.set,show ¬id=nx by omega,show ¬id=nx+1 by omega,show ¬id=nx+15 by omega,show ¬id=nx+17 by omega,show ¬id=nx+18 by omega,show ¬id=nx+19 by omega,show ¬id=nx+20 by omega,show ¬id=nx+21 by omega,if_false]
 clear e
 refine aM.gP (β:=Nat×(Nat→Nat)) (fun u=>en [(24,boP u.1),(23,boP 3),(22,dS (s.bM.map cD)),(3,.one (.c (.ptr 5 (nx+15) 0 0))),(2,.one (.c (.ptr 5 (nx+1) 0 0))),(1,.one (.c (.ptr 5 nx 0 0)))])
  (fun u H1 g=>u.1≤3∧(∀j,j<5→u.2 j=nx+17+j)∧Part (fun j=>j<5∨(5≤j∧j<5+u.1)∨(8≤j∧j<8+u.1)) (nx+17) g u.2∧(∀id,id<nx+22→id≠nx+19→H1 id=bqO id)∧ ∃rows,H1 (nx+19)=some ⟨4,bp3,rows⟩∧asA u.1 H1 u.2 s rows)
  (fun u=>3-u.1) (0,fun j=>nx+17+j) ⟨noF,_,by repeat' first|exact bo2|refine xqI rfl rfl ?_|refine xqP (by omega) rfl rfl ?_|fail,aK,by dsimp only;omega,fun _ _=>rfl,⟨fun j k _ _ he=>by dsimp only at he;omega,fun j a=>by dsimp only at a ⊢;omega⟩,fun _ _ _=>rfl,_,aq,by simpa using U,fun j a=>by dsimp only at a;omega,fun j _ a=>by rw[p0];simp[aF,List.getD,show j<s.bM.length by omega]⟩ ?_
 rintro⟨k,nm⟩ H1 g bn ⟨X,z,boS,o,rows,Y,Z,N,O⟩ bpQ ax
 dsimp only at X z boS N O
 have bqC:H1 nx=some ⟨5,1,[eI s]⟩:=by rw[o _ (by omega) (by omega)];exact c0
 have ad:H1 (nx+15)=some ⟨5,1,[[.osl 1 (nx+17) 0 s.words.length s.words.length,.osl 1 (nx+18) 0 s.holds.length s.holds.length,.osl 4 (nx+19) 0 3 3,.osl 3 (nx+20) 0 4 4,.osl 5 (nx+21) 0 s.told.length s.told.length]]⟩:=by rw[o _ (by omega) (by omega)];exact al
 have hA:bQ g [nx,nx+1,nx+15,nx+19,nx+20]:=AM.apart (by simp) (by simp;omega)
 simp only[bQ,eZ] at hA
 by_cases A:k<3
 ·obtain⟨p,q⟩: ∃p,p=aF s k:=⟨_,rfl⟩
  have aa:s.bM.getD k default=p:=q.symm;obtain⟨hq,ho⟩:=hs.port k A;rw[←q] at hq ho;have C: ∀r,(rows.set k r)[k]?=some r:=fun r=>by rw[bqZ (by omega)]
  have D:=O k (m5 _) A;rw[←q] at D;refine aM.BW fun E=> ?_;have F: ∀k l,msk (g+k) l H1=H1:=fun k l=>BV E (by omega);repeat' first| (first|apply bn1|refine kH (l:=p.queue) hq (fun mq ay=> ?_)|refine oD (l:=p.out) ho (fun mo az=> ?_))<;>(simp only[go_sem,boC,F,umS (G:=H1),umD (G:=H1),umB,msk,List.map,t3,bq7,or_false,aa,C,D,bq1,bqC,ad,Y,hA];try simp (disch:=omega) only[Iw])|apply bn2 (by omega)|refine⟨by omega,?_⟩|fail
  have L: ∀j,j<5∨(5≤j∧j<5+k)∨(8≤j∧j<8+k)→j≠2→nm j≠nx+19:=fun j a i he=>i (boS.inj j 2 a (.inl (by omega)) (by rw[he,z 2 (by omega)]));refine ax _ _ _ (k+1,put (put nm (5+k) (g+25)) (8+k) (g+26)) noF _ (by omega) (by dsimp only;omega) (by repeat' first|exact bo2|refine xqI rfl rfl ?_|refine xqP (by omega) rfl rfl ?_|fail) aK ⟨by dsimp only;omega,fun j a=> ?_,?_,fun id boU e1=> ?_,_,aA.bH,?_,fun j a=> ?_,fun j x i=> ?_⟩;·dsimp only;rw[jE (by omega),jE (by omega)];exact z j a
  ·exact(boS.put (B:=fun j=>j<5∨(5≤j∧j<5+(k+1))∨(8≤j∧j<8+k)) (hi':=g+26) (by omega) (by omega) (by omega) (fun j a=>by first|omega| (dsimp only at*;omega))).put (by omega) (by omega) (by omega) (fun j a=>by first|omega| (dsimp only at*;omega))
  ·rw[aA.aC e1,aA.aC (by omega),aA.aC (by omega),aA.aC (by omega)];exact o id boU e1
  ·rw[Y5];exact Z
  ·dsimp only at a ⊢;by_cases P:j=k
   ·subst P;refine⟨_,C _,⟨0,p.queue.length,p.out.length,?_,?_,?_⟩⟩;·rw[jE (by omega),t8,t8,←q];rfl
    ·rw[jE (by omega),t8,←q];exact⟨mq,p.queue.map aJ,by rw[aA.aC (by omega),aA.aC (by omega)];exact aA.bH,rfl,by simp,by simp,m5 _,by omega⟩
    ·rw[t8,←q];exact⟨mo,p.out.map eCJ,by rw[aA.aC (by omega)];exact aA.bH,rfl,by simp,by simp,m5 _,by omega⟩
   ·obtain⟨r,x,i⟩:=N j (by omega);have aAA:=boS.rng (5+j) (.inr (.inl ⟨by omega,by omega⟩));have aAB:=boS.rng (8+j) (.inr (.inr ⟨by omega,by omega⟩));refine⟨r,by rw[bq0 (by omega)];exact x,?_⟩;rw[jE (show 5+j≠8+k by omega),jE (show 5+j≠5+k by omega),jE (show 8+j≠8+k by omega),jE (show 8+j≠5+k by omega)];apply i.frame;·rw[aA.aC (L _ (.inr (.inl ⟨by omega,by omega⟩)) (by omega)),aA.aC (by omega),aA.aC (by omega),aA.aC (by omega)]
    ·rw[aA.aC (L _ (.inr (.inr ⟨by omega,by omega⟩)) (by omega)),aA.aC (by omega),aA.aC (by omega),aA.aC (by omega)]
  ·dsimp only at x ⊢;rw[bq0 (by omega)];exact O j (by omega) i
 ·repeat' first|apply bn1<;>(simp only[go_sem,bqC])|apply bn3 (by omega)|fail
  have ba:k=3:=by omega
  subst ba;have bb:H1 (nx+20)=some ⟨3,bqM,s.dD.map gF⟩:=by rw[o _ (by omega) (by omega)];exact ar
  refine aM.gP (β:=Nat×(Nat→Nat)) (fun u=>en [(49,boP u.1),(48,boP 4),(47,dS (s.dD.map gF)),(3,.one (.c (.ptr 5 (nx+15) 0 0))),(2,.one (.c (.ptr 5 (nx+1) 0 0)))])
   (fun u H2 n=>u.1≤4∧(∀j,j<11→u.2 j=nm j)∧Part (fun j=>j<11∨(11≤j∧j<11+u.1)∨(15≤j∧j<15+u.1)) (nx+17) n u.2∧(∀id,id<g→id≠nx+20→H2 id=H1 id)∧ ∃rv,H2 (nx+20)=some ⟨3,bqM,rv⟩∧asP u.1 H2 u.2 s rv)
   (fun u=>4-u.1) (0,nm) ⟨noF,_,by repeat' first|exact bo2|refine xqI rfl rfl ?_|refine xqP (by omega) rfl rfl ?_|refine xqV rfl (by omega) ?_|fail,aK,by dsimp only;omega,fun _ _=>rfl,⟨fun j k a X he=>boS.inj j k (by first|omega| (dsimp only at*;omega)) (by first|omega| (dsimp only at*;omega)) he,fun j a=>by have:=boS.rng j (by first|omega| (dsimp only at*;omega));first|omega| (dsimp only at*;omega)⟩,fun _ _ _=>rfl,_,bb,by simpa using V,fun j a=>by dsimp only at a;omega,fun j _ a=>by rw[p0];simp[aL,List.getD,show j<s.dD.length by omega]⟩ ?_
  rintro⟨k,m⟩ H2 n bc ⟨X,b,f,d,rv,ae,af,R,S⟩ bqG bd;dsimp only at X b f R S;have ag:H2 (nx+15)=some ⟨5,1,[[.osl 1 (nx+17) 0 s.words.length s.words.length,.osl 1 (nx+18) 0 s.holds.length s.holds.length,.osl 4 (nx+19) 0 3 3,.osl 3 (nx+20) 0 4 4,.osl 5 (nx+21) 0 s.told.length s.told.length]]⟩:=by rw[d _ (by omega) (by omega)];exact ad
  have bpR:H2 (nx+1)=some ⟨5,1,[[.osl 0 0 0 0 0,.osl 0 0 0 0 0,.osl 0 0 0 0 0,.osl 0 0 0 0 0,.osl 0 0 0 0 0]]⟩:=by rw[d _ (by omega) (by omega),o _ (by omega) (by omega)];exact c1
  have T:bQ n [nx,nx+1,nx+15,nx+19,nx+20]:=AM.apart (by simp) (by simp;omega);simp only[bQ,eZ] at T;have I:m 3=nx+20:=by rw[b 3 (by omega),z 3 (by omega)]
  by_cases A:k<4
  ·obtain⟨v,y⟩: ∃v,v=aL s k:=⟨_,rfl⟩
   have ab:s.dD.getD k default=v:=y.symm;obtain⟨hq,ho,ah⟩:=hs.slv k A;rw[←y] at hq ho ah;have C: ∀r,(rv.set k r)[k]?=some r:=fun r=>by rw[bqZ (by omega)]
   have D:=S k (m5 _) A;rw[←y] at D;refine aM.BW fun E=> ?_;have F: ∀k l,msk (n+k) l H2=H2:=fun k l=>BV E (by omega);repeat' first| (first|apply bn1|refine oD (l:=v.pipe) hq (fun mq ay=> ?_)|refine gY (l:=v.done) ho ah (fun mo az=> ?_))<;>(simp only[go_sem,boC,F,umS (G:=H2),umD (G:=H2),umB,msk,List.map,t3,bq7,or_false,ab,C,D,bq1,ag,ae,T];try simp (disch:=omega) only[Iw])|apply bn2 (by omega)|refine⟨by omega,?_⟩|fail
   have M: ∀j,j<11∨(11≤j∧j<11+k)∨(15≤j∧j<15+k)→j≠3→m j≠nx+20:=fun j a i he=>i (f.inj j 3 a (.inl (by omega)) (by rw[he,I]));refine bd _ _ _ (k+1,put (put m (11+k) (n+25)) (15+k) (n+26)) noF _ (by omega) (by dsimp only;omega) (by repeat' first|exact bo2|refine xqI rfl rfl ?_|refine xqP (by omega) rfl rfl ?_|fail) aK ⟨by dsimp only;omega,fun j a=> ?_,?_,fun id boU e1=> ?_,_,aA.bH,?_,fun j a=> ?_,fun j x i=> ?_⟩;·dsimp only;rw[jE (by omega),jE (by omega)];exact b j a
   ·exact(f.put (B:=fun j=>j<11∨(11≤j∧j<11+(k+1))∨(15≤j∧j<15+k)) (hi':=n+26) (by omega) (by omega) (by omega) (fun j a=>by first|omega| (dsimp only at*;omega))).put (by omega) (by omega) (by omega) (fun j a=>by first|omega| (dsimp only at*;omega))
   ·rw[aA.aC e1,aA.aC (by omega),aA.aC (by omega),aA.aC (by omega)];exact d id boU e1
   ·rw[Y5];exact af
   ·dsimp only at a ⊢;by_cases P:j=k
    ·subst P;refine⟨_,C _,⟨0,v.pipe.length,0,v.done.length,?_,?_,?_⟩⟩;·rw[jE (by omega),t8,t8,←y];rfl
     ·rw[jE (by omega),t8,←y];exact⟨mq,v.pipe.map eCJ,by rw[aA.aC (by omega),aA.aC (by omega)];exact aA.bH,rfl,by simp,by simp,m5 _,by omega⟩
     ·rw[t8,←y];exact⟨mo,v.done.map aS,by rw[aA.aC (by omega)];exact aA.bH,rfl,by simp,by simp,m5 _,by omega⟩
    ·obtain⟨r,x,i⟩:=R j (by omega);have aAA:=f.rng (11+j) (.inr (.inl ⟨by omega,by omega⟩));have aAB:=f.rng (15+j) (.inr (.inr ⟨by omega,by omega⟩));refine⟨r,by rw[bq0 (by omega)];exact x,?_⟩;rw[jE (show 11+j≠15+k by omega),jE (show 11+j≠11+k by omega),jE (show 15+j≠15+k by omega),jE (show 15+j≠11+k by omega)];apply i.frame;·rw[aA.aC (M _ (.inr (.inl ⟨by omega,by omega⟩)) (by omega)),aA.aC (by omega),aA.aC (by omega),aA.aC (by omega)]
     ·rw[aA.aC (M _ (.inr (.inr ⟨by omega,by omega⟩)) (by omega)),aA.aC (by omega),aA.aC (by omega),aA.aC (by omega)]
   ·dsimp only at x ⊢;rw[bq0 (by omega)];exact S j (by omega) i
  ·repeat' first|apply bn1<;>(simp only[go_sem,ag,bpR,T])|apply bn3 (by omega)|fail
   have bf:k=4:=(by omega);subst bf;have boU: ∀j,j<5→m j=nx+17+j:=fun j a=>(b j (by omega)).trans (z j a);have J: ∀id,id<nx+22→id≠nx+1→id≠nx+19→id≠nx+20→(H2.set (nx+1) ⟨5,1,[[.osl 1 (nx+17) 0 s.words.length s.words.length,.osl 1 (nx+18) 0 s.holds.length s.holds.length,.osl 4 (nx+19) 0 3 3,.osl 3 (nx+20) 0 4 4,.osl 5 (nx+21) 0 s.told.length s.told.length]]⟩) id=bqO id:=fun id x i h3 h4=>by rw[aA.aC i,d id (by omega) h4,o id x h3]
   have ai: ∀j,j<19→nx+17≤m j:=fun j a=>(f.rng j (by first|omega| (dsimp only;omega))).1;refine hQ _ _ _ _ _ (.inr rfl) (fZ rfl aA.bH rfl) (h _ _ m _ (by omega) ⟨⟨s.words.length,s.holds.length,3,4,s.told.length,?_,?_,?_,?_,m5 _,m5 _⟩,⟨bp3,rows,?_,Z,fun j a=> ?_⟩,⟨bqM,rv,?_,af,fun j a=> ?_⟩⟩ ⟨fun j k a X he=>f.inj j k (by first|omega| (dsimp only;omega)) (by first|omega| (dsimp only;omega)) he,fun j a=>by have:=f.rng j (by first|omega| (dsimp only;omega));omega⟩ fun id W=> ?_);·rw[U2,boU 0 (by omega),boU 1 (by omega),boU 2 (by omega),boU 3 (by omega),boU 4 (by omega)]
   ·rw[boU 0 (by omega)];exact⟨m0,s.words.map aJ,(J _ (by omega) (by omega) (by omega) (by omega)).trans an,rfl,by simp,by simp,m5 _,by omega⟩
   ·rw[boU 1 (by omega)];exact⟨m1,s.holds.map aJ,(J _ (by omega) (by omega) (by omega) (by omega)).trans ao,rfl,by simp,by simp,m5 _,by omega⟩
   ·rw[boU 4 (by omega)];exact⟨bqN,s.told.map aS,(J _ (by omega) (by omega) (by omega) (by omega)).trans au,rfl,by simp,by simp,m5 _,by omega⟩
   ·rw[boU 2 (by omega),aA.aC (by omega),d _ (by omega) (by omega)];exact Y
   ·obtain⟨r,x,i⟩:=N j a;have aAA:=boS.rng (5+j) (.inr (.inl ⟨by omega,by omega⟩));have aAB:=boS.rng (8+j) (.inr (.inr ⟨by omega,by omega⟩));have boZ:m (5+j)≠nx+20:=fun he=>by have:=f.inj (5+j) 3 (.inl (by omega)) (.inl (by omega)) (by rw[he,I]);omega
    have bnB:m (8+j)≠nx+20:=fun he=>by have:=f.inj (8+j) 3 (.inl (by omega)) (.inl (by omega)) (by rw[he,I]);omega
    rw[b _ (by omega)] at boZ bnB;refine⟨r,x,?_⟩;rw[b _ (by omega),b _ (by omega)];exact i.frame (by rw[aA.aC (by omega),d _ (by omega) boZ]) (by rw[aA.aC (by omega),d _ (by omega) bnB])
   ·rw[I,aA.aC (by omega)];exact ae
   ·obtain⟨r,x,i⟩:=R j a;exact⟨r,x,i.frame (aA.aC (by have:=ai (11+j) (by omega);omega)) (aA.aC (by have:=ai (15+j) (by omega);omega))⟩
   ·rw[J id (by omega) (by omega) (by omega) (by omega)];exact aw id W
end
theorem RA:cJ Tryz.prog zX Tryz.f47 yF GJ:=cJ.mk Tryz.func47 (by kernel_rfl) RY
end Go.Proofs.YtdkfhdmagdaceaaGreat
namespace Go.AM
def IQ (H:aA) (lo hi t:Nat) (s:CSt) (A:List Int) (W D:List Job):Prop:=
 ∃a b id_ c d e f g md,H t=some ⟨6,1,[[.isl (s.words.map aJ),.isl (s.holds.map aJ),.osl 1 a 0 A.length c,.osl 5 b 0 W.length d,.osl 5 id_ 0 D.length e,.isl (s.told.map aS)]]⟩∧
  (H a=some ⟨1,f,A.map aJ⟩∧A.length≤c∧c≤f)∧(H b=some ⟨5,g,W.map aS⟩∧W.length≤d∧d≤g)∧(H id_=some ⟨5,md,D.map aS⟩∧D.length≤e∧e≤md)∧
  (lo≤a∧a<hi∧lo≤b∧b<hi∧lo≤id_∧id_<hi)∧a≠b∧a≠id_∧b≠id_
theorem IQ.frame {H H':aA} {lo hi hi' t:Nat} {s:CSt} {A:List Int} {W D:List Job} (h:IQ H lo hi t s A W D) (r:t<lo) (u:hi≤hi') (a: ∀id,id<hi→(id=t∨lo≤id)→H' id=H id):IQ H' lo hi' t s A W D:=by obtain⟨b,c,id_,d,e,f,g,i,md,j,⟨k,l⟩,⟨m,n⟩,⟨o,p⟩,v,q⟩:=h;exact⟨b,c,id_,d,e,f,g,i,md,by rw[a t (by omega) (.inl rfl)];exact j,⟨by rw[a _ (by omega) (.inr (by omega))];exact k,l⟩,⟨by rw[a _ (by omega) (.inr (by omega))];exact m,n⟩,⟨by rw[a _ (by omega) (.inr (by omega))];exact o,p⟩,by omega,q⟩
theorem KO {H:aA} {nx i:Nat} {o o':bA} (b:H i=some o) (h:CvO H noF id nx o' o):CvX noF nx H (H.set i o'):=fun j x a=>by
 by_cases he:j=i;·subst he;rw[aA.bH] at a;cases a;exact⟨fun h=>h,o,b,.inr h⟩
 ·rw[aA.aC he] at a;exact⟨fun h=>h,x,a,.inl rfl⟩
theorem CL {β:Type} {f:Nat→List β} {k:Nat}:(List.range (k+1)).flatMap f=(List.range k).flatMap f++f k:=by rw[brP,List.flatMap_append];simp
theorem QU {β:Type} {f:Nat→List β} {m:Nat} (n:Nat) (h: ∀k,k<n→(f k).length≤m):((List.range n).flatMap f).length≤m*n:=by
 induction n with
 |zero=>simp
 |succ n a=>rw[CL,t2];have b:=a fun k c=>h k (by omega);have d:=h n (by omega);rw[Nat.mul_succ];omega
theorem af0 {K:Env→aA→Nat→Prop} {e:Env} {G:aA} {n:Nat} (h: ∀a,a=G→K e a n):K e G n:=h G rfl
theorem as2 {H2 G:aA} {lo hi t:Nat} {s:CSt} {A:List Int} {W D:List Job} {a b id_ d e f md bpZ cap nx':Nat} {k n:Int}
 (az9:H2 a=some ⟨1,f,A.map aJ⟩) (az2:A.length≤d∧d≤f) (aAC:H2 id_=some ⟨5,md,D.map aS⟩) (aAB:D.length≤e∧e≤md) (o:lo≤a∧a<hi∧lo≤b∧b<hi∧lo≤id_∧id_<hi) (h:a≠b) (ac:a≠id_) (j:b≠id_) (p:t<lo) (q:hi≤bpZ∧bpZ<nx') (c:W.length+1≤cap)
 (l:G t=some ⟨6,1,[[.isl (s.words.map aJ),.isl (s.holds.map aJ),.osl 1 a 0 A.length d,.osl 5 bpZ 0 (W.length+1) cap,.osl 5 id_ 0 D.length e,.isl (s.told.map aS)]]⟩) (m:G bpZ=some ⟨5,cap,W.map aS++[[cI k,cI n,cI 0,cI 0,.osl 0 0 0 0 0]]⟩) (g: ∀id,id<hi→id≠b→id≠t→G id=H2 id):
 ∃H',CvX noF nx' G H'∧IQ H' lo nx' t s A (W++[(⟨k,n,oW⟩:Job)]) D∧ ∀id,id≠bpZ→H' id=G id:=by
 refine⟨_,KO (i:=bpZ) (o':=⟨5,cap,(W++[(⟨k,n,oW⟩:Job)]).map aS⟩) m (uO (R:=W.map aS) (r':=aS (⟨k,n,oW⟩:Job)) (by rw[bqX];rfl) rfl (fun r hr=>(aG dZ _ r hr).2) rfl (aH (bB rfl) (aH (bB rfl) (aH (bB rfl) (aH (bB rfl) (aH (.frz (.nil ..)) eP)))))),?_,fun id boU=>aA.aC boU⟩
 refine⟨a,bpZ,id_,d,cap,e,f,cap,md,?_,⟨?_,az2⟩,⟨aA.bH,by simpa using c,m5 _⟩,⟨?_,aAB⟩,by omega,by omega,by omega,by omega⟩
 ·rw[aA.aC (by omega),l,t2];rfl
 ·rw[aA.aC (by omega),g _ (by omega) h (by omega)];exact az9
 ·rw[aA.aC (by omega),g _ (by omega) j.symm (by omega)];exact aAC
theorem apO {F:Nat→Prop} {H H':aA} {nx t:Nat} {o o':bA} (c: ∀j,F j→H' j=none) (d:H' t=some o') (e:H t=some o) (i: ¬F t) (f:CvO H F id nx o' o) (g: ∀j,j≠t→¬F j→H' j=H j):CvX F nx H H':=fun j x a=>by
 have b: ¬F j:=fun h=>by rw[c j h] at a;cases a
 by_cases he:j=t;·subst he;rw[d] at a;cases a;exact⟨b,o,e,.inr f⟩
 ·rw[g j he b] at a;exact⟨b,x,a,.inl rfl⟩
def aq5 (b n:Nat) (H:aA):aA:=fun j=>if b≤j∧j<b+n then none else H j
theorem acA {b n j:Nat} {H:aA} (h: ¬(b≤j∧j<b+n)):aq5 b n H j=H j:=if_neg h
theorem ZW {b n nx:Nat} {H:aA}:CvX (fun j=>b≤j∧j<b+n) nx H (aq5 b n H):=fun j x a=>by
 unfold aq5 at a;split at a;·cases a
 ·exact⟨by assumption,x,a,.inl rfl⟩
end Go.AM
namespace Go.Proofs.YtdkfhdmagdaceaaGreat
open Go Go.AM
attribute [local irreducible] aM wv aB vd wvH
section
variable {H : aA} {nx : Nat} {K : D → aA → Nat → Prop}
end
end Go.Proofs.YtdkfhdmagdaceaaGreat
namespace Go.AM
def jS (f:Nat→Int):Nat→Int
 |0=>0
 |n+1=>jS f n+f n
theorem KF {f:Nat→Int} {m:Int} (a:0≤m): ∀n,(∀k,k<n→0≤f k∧f k≤m)→0≤jS f n∧jS f n≤m*n
 |0,_=>by simp[jS]
 |n+1,h=>by
  have b:=KF a n fun k c=>h k (by omega);have d:=h n (by omega);have e:m*((n+1:Nat):Int)=m*n+m:=by push_cast;rw[Int.mul_add,Int.mul_one]
  simp only[jS];omega
def vZ (i:CIn):Prop:=i.ready.length=3∧i.n9.length=4∧i.send.length=3
end Go.AM
namespace Go.Proofs.YtdkfhdmagdaceaaGreat
open Go Go.AM
attribute [local irreducible] aM wv aB vd wvH
theorem VM:cJ Tryz.prog mW Tryz.f93 AN IC:=cJ.mk Tryz.func93 (by kernel_rfl) UM
section
variable {H : aA} {nx : Nat} {K : D → aA → Nat → Prop}
theorem NV {i:CIn} (hi:vZ i) (h:K (dB true) H nx):aB Tryz.prog uJ [boR (eIn i)] H nx K:=by
 refine aB.pure (args0:=[boR (eIn i)]) (R:=fun b=>b=dB true) ?_ rfl (aI ⟨aE rfl,trivial⟩) (fun r hr=>hr▸h);clear h;refine XL rfl fun Q c=> ?_;unfold CT;obtain⟨g,j,k⟩:=hi;have d:((i.ready.length:Int)=3)=True:=eq_true (by omega);have e:((i.n9.length:Int)=4)=True:=eq_true (by omega);have a:((i.send.length:Int)=3)=True:=eq_true (by omega);have f:decide ((i.send.length:Int)=3)=true:=by simp only[a,decide_true]
 repeat' first|apply bn1<;>(simp only[go_sem,d,e,a,f])|fail
 all_goals first|with_reducible refine aZ c _ rfl rfl ?_|skip
 all_goals first|exact pD (by omega)|exact q9 (by omega)|exact j7 (by omega)|rfl
theorem rY (l:List CIn) (f:FuncId) (caps:List D1) (p:CIn→Bool) (hl:l.length<2^40) (hc:caps.all D1.dQ=true) (j: ∀x∈l,∀(H:aA) (nx:Nat) (K:D→aA→Nat→Prop),K (dB (p x)) H nx→aB Tryz.prog f (boR (eIn x)::caps.map fun d=>.one (.c d)) H nx K):
 aB Tryz.prog dK [dS (l.map eIn),.one (.c (.clo f caps))] .nil 0 fun r _ _=>r.plain=true∧r=boP (bK p l):=by
 refine q8 rfl fun Q g=> ?_
 unfold fI
 repeat' first|apply bn1<;>(simp only[go_sem])|fail
 (refine aM.loop (α:={k:Nat//k≤l.length∧(∀i,i<k→p (l.getD i default)=false)}) (fun u=>en [(8,boP u.1),(7,boP l.length),(1,.one (.c (.clo f caps))),(0,dS (l.map eIn))]) (fun _=>.nil) _ (fun u=>l.length-u.1) ⟨0,by omega,(by intros;first|trivial|omega)⟩ (bU (m5 _) (by repeat' first|exact bo2|refine xqI rfl rfl ?_| (with_reducible apply bo3)| ((with_reducible apply bo0);exact bpG (by assumption))| ((with_reducible apply bo1);apply bo7)|fail)) ?_);(rintro⟨k,m,hinv⟩ bpQ b)
 by_cases e:k<l.length
 ·have a:l.getD k default∈l:=by simp[List.getD,e]
  repeat' first| (first|apply bn1|apply j _ a _ _ _)<;>(simp only[go_sem];try simp (disch:=omega) only[Iw])|apply bn2 (by omega)| ((refine bnF (fun h=> ?_) (fun h=> ?_))<;>try subst h)|refine⟨by omega,?_⟩|fail
  ·refine aZ g _ rfl rfl (qA (bq3 (CU (by omega) (by assumption) hinv)))
  · (refine b _ _ _ ⟨k+1,by omega,iS hinv (by assumption)⟩ (by omega) (by(try dsimp only);omega) (bU (m5 _) (by repeat' first|exact bo2|refine xqI rfl rfl ?_| (with_reducible apply bo3)| ((with_reducible apply bo0);exact bpG (by assumption))| ((with_reducible apply bo1);apply bo7)|fail)))
 ·repeat' first|apply bn1<;>(simp only[go_sem])|apply bn3 (by omega)|fail
  ·refine aZ g _ rfl rfl (qA (bq3 (tI fun i hi=>hinv i (by omega))))
theorem rX {l:List CIn} {f:FuncId} {caps a:List D1} {p:CIn→Bool} {d:D} (hl:l.length<2^40) (hc:caps.all D1.dQ=true) (b:CvD H (fun _=>True) id 0 (dS (l.map eIn)) d) (e:CvD H (fun _=>True) id 0 (.one (.c (.clo f caps))) (.one (.c (.clo f a)))) (g: ∀x∈l,∀(H:aA) (nx:Nat) (K:D→aA→Nat→Prop),K (dB (p x)) H nx→aB Tryz.prog f (boR (eIn x)::caps.map fun d=>.one (.c d)) H nx K)
 (h:K (boP (bK p l)) H nx):aB Tryz.prog dK [d,.one (.c (.clo f a))] H nx K:=
 (rY l f caps p hl hc g).pure rfl (aI ⟨b,e,trivial⟩) fun r hr=>hr▸h
theorem pC (l:List CIn) (f:FuncId) (caps:List D1) (p:CIn→Bool) (hl:l.length<2^40) (hc:caps.all D1.dQ=true) (a: ∀x∈l,∀(H:aA) (nx:Nat) (K:D→aA→Nat→Prop),K (dB (p x)) H nx→aB Tryz.prog f (boR (eIn x)::caps.map fun d=>.one (.c d)) H nx K):
 aB Tryz.prog cW [dS (l.map eIn),.one (.c (.clo f caps))] .nil 0 fun r _ _=>r.plain=true∧r=dB (decide (0≤bK p l)):=by
 refine oM rfl fun Q b=> ?_
 unfold eM
 repeat' first| (first|apply bn1|refine rX hl hc (aE rfl) (kC hc) a ?_)<;>(simp only[go_sem])|fail
 all_goals exact aZ b _ rfl rfl rfl
theorem pP {l:List CIn} {f:FuncId} {caps a:List D1} {p:CIn→Bool} {d:D} (hl:l.length<2^40) (hc:caps.all D1.dQ=true) (b:CvD H (fun _=>True) id 0 (dS (l.map eIn)) d) (e:CvD H (fun _=>True) id 0 (.one (.c (.clo f caps))) (.one (.c (.clo f a)))) (g: ∀x∈l,∀(H:aA) (nx:Nat) (K:D→aA→Nat→Prop),K (dB (p x)) H nx→aB Tryz.prog f (boR (eIn x)::caps.map fun d=>.one (.c d)) H nx K)
 (h:K (dB (decide (0≤bK p l))) H nx):aB Tryz.prog cW [d,.one (.c (.clo f a))] H nx K:=
 (pC l f caps p hl hc g).pure rfl (aI ⟨b,e,trivial⟩) fun r hr=>hr▸h
theorem TR {i:CIn} (hi:vZ i) (h:K (dB false) H nx):aB Tryz.prog tQ [boR (eIn i)] H nx K:=by
 refine aB.pure (args0:=[boR (eIn i)]) (R:=fun a=>a=dB false) ?_ rfl (aI ⟨aE rfl,trivial⟩) (fun r hr=>hr▸h);clear h;refine RR rfl fun Q b=> ?_;unfold yG;repeat' first| (first|apply bn1|apply NV hi)<;>(simp only[go_sem])|fail
 all_goals first|with_reducible refine aZ b _ rfl rfl ?_|skip
 all_goals first|exact pD (by omega)|exact q9 (by omega)|exact j7 (by omega)|rfl
end
end Go.Proofs.YtdkfhdmagdaceaaGreat
namespace Go.AM
theorem abY.frame {H H':aA} {nm:Nat→Nat} {s:CSt} {cells:List D1} (h:abY H nm s cells) (a: ∀k,k<19→H' (nm k)=H (nm k)):abY H' nm s cells:=by
 obtain⟨⟨wc,hc,f,vc,g,i,j,l,n,o⟩,⟨m,rows,p,q,t⟩,⟨u,b,v,w,x⟩⟩:=h;refine⟨⟨wc,hc,f,vc,g,i,j.frame (a _ (by omega)),l.frame (a _ (by omega)),n.frame (a _ (by omega)),o⟩,⟨m,rows,by rw[a 2 (by omega)];exact p,q,fun k c=> ?_⟩,⟨u,b,by rw[a 3 (by omega)];exact v,w,fun k c=> ?_⟩⟩;·obtain⟨r,d,e⟩:=t k c;exact⟨r,d,e.frame (a _ (by omega)) (a _ (by omega))⟩
 ·obtain⟨r,d,e⟩:=x k c;exact⟨r,d,e.frame (a _ (by omega)) (a _ (by omega))⟩
theorem agA {c:Cfg} {s:CSt} {l:List CIn} {k:Nat} (a:k<l.length):sQ c s (l.take (k+1))=vF c (l.getD k default) (sQ c s (l.take k)):=by rw[nK a,anC];rfl
theorem COk.sz {c:Cfg} {s:CSt} (d:aQ c) (h:COk c s):CSz s:=by
 obtain⟨e,_,f,_⟩:=h.atm;have g:s.told.length≤36:=by have:=h.st.lens d;simp only[cX] at this;omega
 have i: ∀j∈s.told,j.rsp.data.length<2^21:=fun j b=>by have:=(h.st.R8 j (brH _ b)).1;unfold pA at this;omega
 refine⟨h.pl,h.sl,by omega,by omega,⟨by omega,i⟩,fun k a=> ?_,fun k a=> ?_⟩;·have l:=(h.port k a).ql;have m:=(h.port k a).ol;omega
 ·have l:=(h.slv k a).pl;have m:=(h.slv k a).dl;refine⟨by omega,by omega,fun j b=> ?_⟩;have:=((h.slv k a).rsp j b).1;unfold pA at this;omega
end Go.AM
namespace Go.Proofs.YtdkfhdmagdaceaaGreat
open Go Go.AM
attribute [local irreducible] aM wv aB vd wvH
section
variable {H : aA} {nx : Nat} {K : D → aA → Nat → Prop}
end
end Go.Proofs.YtdkfhdmagdaceaaGreat
namespace Go.AM
theorem aB.ao4 {P:Program} {f:FuncId} {args args':List D} {H:aA} {nx:Nat} {K:D→aA→Nat→Prop} (H':aA) (F:Nat→Prop) (hl:args.length=args'.length) (m: ∀(i:Nat) (k d:D),args'[i]?=some k→args[i]?=some d→CvD H F id nx k d) (n:CvX F nx H H') (h:aB P f args' H' nx K):aB P f args H nx K:=by
 refine⟨h.1,fun c vs hs l hlen e=> ?_⟩;obtain⟨p,q⟩:=YO hs (Step.refl c H) l n;refine(h.2 (c.conv nx nx id (c.frI H F)) vs p (fun i hi=> ?_) (by omega) fun i d v a g=> ?_).mono ?_
 ·rcases hi with⟨_,hi⟩|⟨a,g,j⟩
  ·exact l i hi
  ·omega
 ·have hi:i<args.length:=by have:=(m3.1 a).1;omega
  exact zD hs (fun b h=>.inl h) (fun id o a g j=>.inr ⟨id,o,a,g,j,rfl⟩) (fun _ _=>rfl) (m i d _ a (n1 hi)) (e i _ v (n1 hi) g)
 ·rintro x B ⟨v,c2,r,H2,s,rfl,rfl,t,u,w,y,z,A⟩;refine⟨v,c2,r,H2,s,rfl,rfl,t,q.trans u,fun i hi=> ?_,y,z,A⟩;rcases w i hi with h|h
  ·rcases h with⟨_,hi⟩|⟨a,g,j⟩
   ·exact .inl hi
   ·omega
  ·exact .inr h
open Classical in
noncomputable def without (F:Nat→Prop) (H:aA):aA:=fun j=>if F j then none else H j
theorem iI {F:Nat→Prop} {H:aA} {j:Nat} (h: ¬F j):without F H j=H j:=by unfold without;rw[if_neg h]
theorem kS {F:Nat→Prop} {H:aA} {nx:Nat}:CvX F nx H (without F H):=fun j x a=>by
 by_cases h:F j;·unfold without at a;rw[if_pos h] at a;cases a
 ·rw[iI h] at a;exact⟨h,x,a,.inl rfl⟩
end Go.AM
namespace Go.Proofs.YtdkfhdmagdaceaaGreat
open Go Go.AM
attribute [local irreducible] aM wv aB vd wvH
theorem QC:cJ Tryz.prog tV Tryz.f40 xR F5:=cJ.mk Tryz.func40 (by kernel_rfl) PZ
section
variable {H : aA} {nx : Nat} {K : D → aA → Nat → Prop}
end
theorem umM {b:Nat} {l:List Nat} {H:aA}:dT b l H (msk b l H)=H:=by funext j;simp only[dT,msk];split<;>rfl
theorem muM {b:Nat} {l:List Nat} {H G:aA}:msk b l (dT b l H G)=msk b l G:=by funext j;simp only[dT,msk];split<;>rfl
section
variable {H : aA} {nx : Nat} {K : D → aA → Nat → Prop}
theorem apY (h:K (dB true) H nx):aB Tryz.prog E2 [] H nx K:=by
 refine aB.pure (args0:=[]) (R:=fun a=>a=dB true) ?_ rfl (aI trivial) (fun r hr=>hr▸h);clear h;refine XX rfl fun Q b=> ?_;unfold CP;repeat' first| (first|apply bn1|apply wS)<;>(simp only[go_sem])|fail
 all_goals first|with_reducible refine aZ b _ rfl rfl ?_|skip
 all_goals exact(q9 (by decide)).symm
end
end Go.Proofs.YtdkfhdmagdaceaaGreat
