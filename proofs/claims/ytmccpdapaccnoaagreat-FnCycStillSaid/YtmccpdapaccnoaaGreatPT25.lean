/- Texts laid together by a program: rules, contracts and the walk that leads to the law. -/
import Derived.Test.YtmccpdapaccnoaaGreatPT24
import Derived.Test.YtmccpdapaccnoaaGreatPT9
import Derived.Test.YtmccpdapaccnoaaGreatPT11
import Derived.Test.YtmccpdapaccnoaaGreatPT12
import Derived.Test.YtmccpdapaccnoaaGreatPT13
import Derived.Test.YtmccpdapaccnoaaGreatPT4
import Derived.Test.YtmccpdapaccnoaaGreatPT22
import Derived.Test.YtmccpdapaccnoaaGreatPT3
import Derived.Test.YtmccpdapaccnoaaGreatPT6
import Derived.OpenShut
import Derived.Below
set_option linter.unusedVariables false
set_option linter.unusedSimpArgs false
set_option linter.unusedSectionVars false
set_option maxRecDepth 100000
set_option maxHeartbeats 8000000
namespace Go.AM
noncomputable def evB (c:Cfg) (s:CSt) (i:CIn):List Ev:=if cyB c s=true∧inB i=true then TK c i s else []
theorem buU {c:Cfg} {s:CSt} {i:CIn} (h1:cyB c s=true) (h2:inB i=true):evB c s i=TK c i s:=if_pos ⟨h1,h2⟩
end Go.AM
namespace Go.Proofs.YtmccpdapaccnoaaGreat
open Go Go.AM
attribute [local irreducible] aM wv aB vd wvH
section
variable {H : aA} {nx : Nat} {K : D → aA → Nat → Prop}
theorem buM {τ:Nat→Nat} {n m:Nat} {l:List Ev}:bA.rn τ ⟨n,m,l.map eEv⟩=⟨n,m,l.map eEv⟩:=by
 refine rF fun r hr x hx=> ?_
 obtain⟨y,_,rfl⟩:=CF.1 hr
 exact w2.1 (aq2 y).2 x hx
theorem bt3 (l:List Ev) (hl:l.length<2^21):aB Tryz.prog btT [dS (l.map eEv)] (hp []) 0
 fun r H' n'=>∃cap,l.length≤cap∧n'=1∧H'=hp [(0,⟨3,cap,l.map eEv⟩)]∧r=boQ 3 0 l.length cap:=by
 refine bt1 rfl fun Q hQ=> ?_
 unfold btS
 refine aM.seq (aM.EJ 3 ?_)
 repeat' first|apply bn1<;>(simp only[go_sem])|refine bpI (fun h=> ?_) fun h=> ?_| (with_reducible first|refine fun(cap:Nat) (hcap:_≤cap)=> ?_|refine fun(hcp:_≤cap)=> ?_|refine fun(b:Bool)=> ?_)| ((refine bnF (fun h=> ?_) (fun h=> ?_))<;>try subst h)|refine⟨by omega,?_⟩|fail
 all_goals first
  | (have hcap':=m5 cap
     (refine hQ _ _ _ _ _ 1 (boQ 3 0 l.length cap) (hp [(0,⟨3,cap,l.map eEv⟩)]) _ _ (.inr rfl) rfl (fU [6] (by omega) (by repeat' first|exact bo2| ((with_reducible apply bo0);exact bpB (by omega) rfl rfl (by rfl) rfl)| ((with_reducible apply bo1);apply bo7)|fail) ⟨⟨by simp,by simp[sgL],_,rfl,bP (aG aq2 _) rfl rfl⟩,trivial⟩ (by simp[sgL])) ?_)
     exact⟨cap,by omega,rfl,rfl,rfl⟩)
  | (have h0:l=[]:=CE (by omega)
     subst h0
     (refine hQ _ _ _ _ _ 1 (boQ 3 0 0 0) (hp [(0,⟨3,0,([]:List Ev).map eEv⟩)]) _ _ (.inr rfl) rfl (fU [0] (by omega) (by repeat' first|exact bo2| ((with_reducible apply bo0);exact bpA)| ((with_reducible apply bo1);apply bo7)|fail) ⟨⟨by simp,by simp[sgL],_,rfl,bP (aG aq2 _) rfl rfl⟩,trivial⟩ (by simp[sgL])) ?_)
     exact⟨0,m5 _,rfl,rfl,rfl⟩)
theorem bt2 {l:List Ev} (hl:l.length<2^21) (h: ∀cap,l.length≤cap→K (boQ 3 nx l.length cap) (H.set nx ⟨3,cap,l.map eEv⟩) (nx+1)):aB Tryz.prog btT [dS (l.map eEv)] H nx K:=by
 refine(bt3 l hl).AF (l0:=[]) [] rfl ⟨aE rfl,trivial⟩ trivial (by simp) (by simp) (by simp) fun r H' n' _ ⟨cap,bqB,q1,q2,q3⟩=> ?_
 have h:=h cap bqB
 subst q1;subst q2;subst q3
 have e1:back (tau 0 nx (nth [])) (hp [(0,⟨3,cap,l.map eEv⟩)]) 1 H=H.set nx ⟨3,cap,l.map eEv⟩:=by
  simp only[back,hp,aA.set,tau,bq2,if_true,if_false,Nat.sub_zero,Nat.add_zero,Option.map_some,buM,aA.eL]
 rw[←e1] at h
 exact h
theorem bt5:cJ Tryz.prog btW Tryz.f120 btU btZ:=cJ.mk Tryz.func120 (by kernel_rfl) bt6
theorem bt7 {l:List Ev} (hl:l.length<2^21) (h: ∀H' nx',nx≤nx'→(∀id,id<nx→H' id=H id)→K (dS (l.map eEv)) H' nx'):aB Tryz.prog btW [dS (l.map eEv)] H nx K:=by
 apply aB.tW
 refine bt5 rfl fun Q hQ=> ?_
 unfold btU
 repeat' first| (first|apply bn1|refine bt2 hl (fun cap hcap=> ?_)|apply axH (l:=l) (by omega) hcap (by omega) aA.bH)<;>(simp only[go_sem])|fail
 refine hQ _ _ _ _ _ (.inr rfl) rfl ⟨dS (l.map eEv),_,fun j=>j=nx+1+4,yP aq2 aA.bH rfl (m5 _) rfl,PU,h _ _ (by omega) fun id hid=> ?_⟩
 simp (disch:=omega) only[aA.jG,aA.aC]
theorem buG:cJ Tryz.prog bt4 Tryz.f42 btY bt9:=cJ.mk Tryz.func42 (by kernel_rfl) buE
theorem buF {c:Cfg} {s:CSt} {i:CIn} (hcf:jO c) (hf:beL s) (hi:bm3 i)
 (h: ∀H' nx',nx≤nx'→(∀id,id<nx→H' id=H id)→K (dS ((evB c s i).map eEv)) H' nx'):aB Tryz.prog bt4 [boR (cU c),boR (eI s),boR (eIn i)] H nx K:=by
 obtain⟨l1,l2,l3⟩:=hi
 apply aB.tW
 refine buG rfl fun Q hQ=> ?_
 unfold btY
 have hno: ¬(cyB c s=true∧inB i=true)→evB c s i=[]:=fun h=>if_neg h
 by_cases h1:cyB c s=true
 ·by_cases h2:inB i=true
  ·obtain⟨hb,hs⟩:=bmR.1 h1
   have hio:=bm2.1 h2
   rw[buU h1 h2] at h
   repeat' first| (first|apply bn1|apply bd4 hcf hf|apply bl6 (i:=i) (by omega) (by omega) (by omega)|refine fJ (hs.sz hb) (fun H' nx' nm cells hx hR boS ffr=> ?_))<;>(simp only[go_sem,h1,h2,boC])|fail
   have hcl:cells.length=5:=by obtain⟨_,_,_,_,_,rfl,_⟩:=hR.ex;rfl
   have hrow:cells++List.drop cells.length [D1.osl 0 0 0 0 0,.osl 0 0 0 0 0,.osl 0 0 0 0 0,.osl 0 0 0 0 0,.osl 0 0 0 0 0]=cells:=by rw[hcl];simp
   refine⟨hcl,by omega,?_⟩
   rw[hrow]
   try apply bn0
   refine aM.TF fun bqO hG0=> ?_
   have c0:bqO nx=some ⟨3,1,[cU c]⟩:=by rw[hG0,aA.aC (by omega),ffr _ (by omega)];simp (disch:=omega) only[aA.aC,aA.bH]
   have c2:bqO (nx+2)=some ⟨3,1,[eIn i]⟩:=by rw[hG0,aA.aC (by omega),ffr _ (by omega)];simp (disch:=omega) only[aA.aC,aA.bH]
   have glo: ∀id,id<nx→bqO id=H id:=fun id hid=>by rw[hG0,aA.aC (by omega),ffr _ (by omega)];simp (disch:=omega) only[aA.aC]
   have bnC:Rep (fun id=>id<nx+3) bqO nx' (nx+15) nm s:=by
    have hlo:=fun k hk=>boS.rng k hk
    refine⟨⟨cells,by rw[hG0];exact aA.bH,hR.frame fun k hk=>by have:=hlo k hk;rw[hG0,aA.aC (by omega)]⟩,⟨boS.inj,fun k hk=>by have:=hlo k hk;omega,fun k hk hn=>by have:=hlo k hk;omega⟩,fun k hk=>by have:=hlo k hk;omega,⟨by omega,by omega⟩,fun id hid=>by omega⟩
   clear hG0 hR boS ffr
   have hA:bQ nx' [nx,nx+2]:=AM.apart (by simp) (by simp;omega)
   simp only[bQ,eZ] at hA
   repeat' first|apply bn1<;>(simp only[go_sem,boC,c0,c2,hA])|fail
   refine tX (X:=fun id=>id<nx+3) hb hs hio (bnC.frame (by omega) rfl (fun _ _=>rfl) fun id hid2=>⟨by omega,by omega,fun k hk he=>bnC.names.av k hk (he▸hid2)⟩) fun H2 nx2 nm2 a b d e hx2 hR2 hX2=> ?_
   have hEl:=ay2 (c:=c) (i:=i) (s:=s)
   (try simp only[go_sem,boC,boC]);repeat' first| (first|apply bn1|refine bt7 (l:=TK c i s) (by omega) (fun H3 nx3 hx3 fr3=> ?_))<;>(simp only[go_sem,boC,boC])|fail
   exact hQ _ _ _ _ _ (.inr rfl) rfl ⟨_,_,noF,aE rfl,aK,h _ _ (by omega) fun id hid=>by rw[fr3 _ (by omega),hX2 _ (by show id<nx+3;omega)];exact glo id hid⟩
  ·have h2:inB i=false:=by cases hh:inB i;rfl;exact absurd hh h2
   rw[hno (fun h=>by rw[h2] at h;exact absurd h.2 (by decide))] at h
   repeat' first| (first|apply bn1|apply bd4 hcf hf|apply bl6 (i:=i) (by omega) (by omega) (by omega))<;>(simp only[go_sem,h1,h2,boC])|fail
   exact hQ _ _ _ _ _ (.inr rfl) rfl ⟨dS (([]:List Ev).map eEv),_,noF,xG,aK,h _ _ (by omega) fun id hid=>by simp (disch:=omega) only[aA.aC]⟩
 ·have h2:cyB c s=false:=by cases hh:cyB c s;rfl;exact absurd hh h1
  rw[hno (fun h=>h1 h.1)] at h
  repeat' first| (first|apply bn1|apply bd4 hcf hf)<;>(simp only[go_sem,h2,boC])|fail
  exact hQ _ _ _ _ _ (.inr rfl) rfl ⟨dS (([]:List Ev).map eEv),_,noF,xG,aK,h _ _ (by omega) fun id hid=>by simp (disch:=omega) only[aA.aC]⟩
end
end Go.Proofs.YtmccpdapaccnoaaGreat
namespace Go.AM
theorem bsW {c:Cfg} {f:CSt→Nat→Option Mic} {s:CSt}: ∀{l:List Nat},(∀k∈l,f s k=none)→vE c f s l=[]
 | [],_=>rfl
 |k::l,h=>by
  rw[GZ (h k (by simp))]
  exact bsW fun j hj=>h j (bq9 _ hj)
def buB:CIn:=⟨[false,false,false],[true,true,true,true],[false,false,false]⟩
theorem buN{k:Nat} (hk:k<3):buB.ready.getD k default=false:=by
 have:k=0∨k=1∨k=2:=by omega
 rcases this with rfl|rfl|rfl<;>rfl
theorem buS{k:Nat} (hk:k<3):buB.send.getD k default=false:=by
 have:k=0∨k=1∨k=2:=by omega
 rcases this with rfl|rfl|rfl<;>rfl
theorem buP{k:Nat} (hk:k<4):buB.n9.getD k default=true:=by
 have:k=0∨k=1∨k=2∨k=3:=by omega
 rcases this with rfl|rfl|rfl|rfl<;>rfl
variable{c:Cfg}{s:CSt}
theorem buQ:KQ c buB s=[]:=bsW fun k hk=>agJ (buN (tC hk))
theorem buR:xX c buB s=[]:=bsW fun k hk=>Go.Proofs.YtmccpdapaccnoaaGreat.aa0 (.inl (buP (w8 hk)))
theorem buT:MV c buB s=[]:=bsW fun k hk=>by
 unfold PA
 rw[if_neg]
 intro h
 rw[buS (tC hk)] at h
 exact absurd h.1 (by decide)
theorem buJ:TK c buB s=[]:=by
 rw[Go.Proofs.YtmccpdapaccnoaaGreat.aoN,buQ,buR,buT];rfl
theorem buL (hb:aQ c) (h:COk c s):cX (vF c buB s)=cX s:=by
 rw[anV hb h,buJ];rfl
where askO_nx {c:Cfg} {i:CIn} {s:CSt} {k:Nat} (h: ¬(aF s k).next<(c.cP.getD k default).length):PA c i s k=none:=if_neg fun hh=>h hh.2.2
theorem bm1{i:CIn} (h1:cyB c s=true) (h2:inB i=true):bmA c s i=vF c i s:=if_pos ⟨h1,h2⟩
theorem bmZ{i:CIn} (h: ¬(cyB c s=true∧inB i=true)):bmA c s i=bmC:=if_neg h
theorem buO:inB buB=true:=by decide
theorem buI:bm3 buB:=⟨by decide,by decide,by decide⟩
theorem buV (h:cyB c s=true):evB c s buB=[]:=by rw[buU h buO];exact buJ
theorem buH{H:aA}{F:Nat→Prop}{σ:Nat→Nat}{nh a b d m1 bp3 bqM:Nat} (h1:H a=some ⟨1,m1,[false,false,false].map eH⟩) (h2:H b=some ⟨1,bp3,[true,true,true,true].map eH⟩) (h3:H d=some ⟨1,bqM,[false,false,false].map eH⟩) (bpR:F a) (f2:F b) (bpS:F d):
 CvL H F σ nh (eIn buB) [.osl 1 a 0 3 3,.osl 1 b 0 4 4,.osl 1 d 0 3 3]:=
 aH (bW mK h1 rfl (by decide) bpR) (aH (bW mK h2 rfl (by decide) f2) (aH (bW mK h3 rfl (by decide) bpS) eP))
end Go.AM
namespace Go.Proofs.YtmccpdapaccnoaaGreat
open Go Go.AM
attribute [local irreducible] aM wv aB vd wvH
section
variable {H : aA} {nx : Nat} {K : D → aA → Nat → Prop}
theorem aX8 {s:TSt} (hf:aTQ s) (h:K (dB true) H nx):aB Tryz.prog au9 [boR (eSt s),boR (eSt s)] H nx K:=by
 obtain⟨h1,h2,h3,h4,h5,h6,h7⟩:=hf
 exact ayZ (by omega) (by omega) (by omega) (by omega) (by omega) (by omega) (fun j hj=>by have:=h7 j hj;omega) h
end
theorem buC:cJ Tryz.prog buA Tryz.f7 btX bt8:=cJ.mk Tryz.func7 (by kernel_rfl) buD
theorem buK (l:List Int) (hby: ∀x∈l,0≤x∧x<256):aB Tryz.prog buA [dS (l.map eU8)] .nil 0 fun rr _ _=>rr.plain=true∧rr=dB true:=by
 refine buC rfl fun Q hQ=> ?_
 unfold btX
 by_cases hbig:l.length≤1048576
 case neg=>
  repeat' first|apply bn1<;>(simp only[go_sem])|apply bn2 (by omega)|fail
  exact hQ _ _ _ _ _ (.inr rfl) rfl ⟨rfl,rfl⟩
 have hl:kZ l:=⟨by omega,hby⟩
 repeat' first| (first|apply bn1|apply bmH hl)<;>(simp only[go_sem])|apply bn3 (by omega)|fail
 intro H1 nx1 c s i hx1 hcf hf ha hi _
 have hA:bQ nx1 [10,11,12]:=AM.apart (by simp) (by simp;omega)
 simp only[bQ,eZ] at hA
 (try simp only[go_sem,boC,hA,boC]);repeat' first|apply bn1<;>(simp only[go_sem,boC,hA,boC])|fail
 generalize bqK:aA.set _ (nx1+4) _=G
 have g4:G (nx1+4)=some ⟨3,1,[[.osl 1 nx1 0 3 3,.osl 1 (nx1+1) 0 4 4,.osl 1 (nx1+2) 0 3 3]]⟩:=by rw[←bqK];exact aA.bH
 have ga:G nx1=some ⟨1,3,[false,false,false].map eH⟩:=by rw[←bqK];simp (disch:=omega) only[aA.aC,aA.bH];rfl
 have gb:G (nx1+1)=some ⟨1,4,[true,true,true,true].map eH⟩:=by rw[←bqK];simp (disch:=omega) only[aA.aC,aA.bH];rfl
 have gc:G (nx1+2)=some ⟨1,3,[false,false,false].map eH⟩:=by rw[←bqK];simp (disch:=omega) only[aA.aC,aA.bH];rfl
 have bqS:G 10=some ⟨3,1,[cU c]⟩:=by rw[←bqK];simp (disch:=omega) only[aA.aC,aA.bH]
 have p1:G 11=some ⟨5,1,[eI s]⟩:=by rw[←bqK];simp (disch:=omega) only[aA.aC,aA.bH]
 clear bqK hA
 refine aB.ao4 (args':=[boR (cU c),boR (eI s),boR (eIn buB)]) ((without (fun j=>j=nx1∨j=nx1+1∨j=nx1+2) G).set (nx1+4) ⟨3,1,[eIn buB]⟩) (fun j=>j=nx1∨j=nx1+1∨j=nx1+2) rfl (fun j d0 d h1 h2=> ?_) (apO (t:=nx1+4) (fun j hj=>by rw[aA.aC (by omega)];exact if_pos hj) aA.bH g4 (by omega) (aP (buH ga gb gc (.inl rfl) (.inr (.inl rfl)) (.inr (.inr rfl)))) fun j h1 h2=>by rw[aA.aC h1,iI h2]) ?_
 ·match j with
  |0=>simp at h1 h2;subst h1;subst h2;exact aE rfl
  |1=>simp at h1 h2;subst h1;subst h2;exact aE rfl
  |2=>simp at h1 h2;subst h1;subst h2;exact lY (buH ga gb gc (.inl rfl) (.inr (.inl rfl)) (.inr (.inr rfl)))
  |j+3=>simp at h1
 refine bmP hcf hf buI fun H2 nx2 hx2 fr2=> ?_
 have bqB:H2 10=some ⟨3,1,[cU c]⟩:=by rw[fr2 _ (by omega),aA.aC (by omega),iI (by omega)];exact bqS
 have q1:H2 11=some ⟨5,1,[eI s]⟩:=by rw[fr2 _ (by omega),aA.aC (by omega),iI (by omega)];exact p1
 have q4:H2 (nx1+4)=some ⟨3,1,[eIn buB]⟩:=by rw[fr2 _ (by omega)];exact aA.bH
 clear fr2 g4 ga gb gc bqS p1
 have hA2:bQ nx2 [10,11,nx1+4,nx1+10]:=AM.apart (by simp;omega) (by simp;omega)
 simp only[bQ,eZ] at hA2
 obtain⟨x,hx⟩: ∃x,x=bmA c s buB:=⟨_,rfl⟩
 rw[←hx]
 have hcrk: ∀{H:aA} {nx:Nat} {K:D→aA→Nat→Prop},K (dB true) H nx→aB Tryz.prog E2 [] H nx K:=fun h=>apY h
 cases h1:cyB c s
 ·rw[bmZ (fun h=>by rw[h1] at h;exact absurd h.1 (by decide))] at hx
  subst hx
  have hz:eI bmC=[.isl [],.isl [],.isl [],.isl [],.isl []]:=rfl
  (try simp only[go_sem,boC,bqB,q1,q4,h1,hz,hA2,boC]);repeat' first| (first|apply bn1|apply bpJ (by omega)|apply bd7 hcf hf|apply hcrk)<;>(simp only[go_sem,boC,bqB,q1,q4,h1,hz,hA2,boC])|fail
  all_goals exact hQ _ _ _ _ _ (.inr rfl) rfl ⟨rfl,rfl⟩
 rw[bm1 h1 buO] at hx
 obtain⟨hb,hs⟩:=bmR.1 h1
 have hok:COk c x:=by rw[hx];exact PN hb hs
 obtain⟨hfx,hax⟩:=(hok.base hb).bj4.fit
 have e1:=bfB hb hok
 have e2:cX x=cX s:=by rw[hx];exact buL hb hs
 have e3:=buV h1
 clear hx
 (try simp only[go_sem,boC,bqB,q1,q4,h1,hA2,boC]);repeat' first| (first|apply bn1|apply bd7 hcf hf|apply buF hcf hf buI)<;>(simp only[go_sem,boC,bqB,q1,q4,h1,hA2,boC])|fail
 intro H3 nx3 hx3 fr3
 rw[e3]
 have r0:H3 10=some ⟨3,1,[cU c]⟩:=by rw[fr3 _ (by omega),if_neg (by omega)];exact bqB
 have r1:H3 11=some ⟨5,1,[eI s]⟩:=by rw[fr3 _ (by omega),if_neg (by omega)];exact q1
 have r2:H3 (nx1+10)=some ⟨5,1,[eI x]⟩:=by rw[fr3 _ (by omega)];exact if_pos rfl
 clear fr3 bqB q1 q4 hA2
 have hA3:bQ nx3 [10,11,nx1+10]:=AM.apart (by simp;omega) (by simp;omega)
 simp only[bQ,eZ] at hA3
 (try simp only[go_sem,boC,r0,r1,r2,hA3,q0,List.length_nil,boC]);repeat' first| (first|apply bn1|apply bpJ (by omega)|apply bdE hax)<;>(simp only[go_sem,boC,r0,r1,r2,hA3,q0,List.length_nil,boC])|fail
 intro bqL nx4 hx4 fr4
 rw[e2]
 have s0:=(fr4 10 (by omega)).trans r0
 have s1:=(fr4 11 (by omega)).trans r1
 have s2:=(fr4 (nx1+10) (by omega)).trans r2
 refine⟨fun _=>by rw[s1];rfl,?_⟩
 refine bdE ha fun aZJ nx5 hx5 fr5=> ?_
 have aU0:=(fr5 10 (by omega)).trans s0
 have bpO:=(fr5 (nx1+10) (by omega)).trans s2
 clear fr4 fr5 r0 r1 r2 s0 s1 s2 hA3
 (try simp only[go_sem,boC,aU0,bpO,e1,boC]);repeat' first| (first|apply bn1|apply aX8 ha.st|apply bd4 hcf hfx)<;>(simp only[go_sem,boC,aU0,bpO,e1,boC])|fail
 exact hQ _ _ _ _ _ (.inr rfl) rfl ⟨rfl,rfl⟩
end Go.Proofs.YtmccpdapaccnoaaGreat
namespace Go.AM
open Go.RowKit
def asV (k:IntKind) (w:World) (a:Option Addr) (len cap:Nat) (zs:List Int):Prop:=
 (a=none∧len=0∧cap=0∧zs=[])∨
 ∃x,a=some x∧len≤cap∧cap≤maxLen∧zs.length=cap∧(∀i,i<zs.length→w.cell? (x.add i)=some (.int k (zs.getD i 0)))∧ ∀n∈zs,(Lit.int k n).wf=true
theorem abA {P:Program} {f:FuncId} {l:List Int} {w:World} {v:Value} {I:Nat→Prop} (h:aB P f [dS (l.map eU8)] .nil 0 fun rr _ _=>rr.plain=true∧rr=dB true) (hI: ∀b,I b→b<w.heap.size) (hv:Imm I w (.isl (l.map eU8)) v):
 Calls P f #[v] w fun e w'=>e= .returned (.bool true)∧Below w.heap.size w w':=by
 have hno: ∀b,¬uG ⟨fun _=>(0,0),fun _=>False,I,w⟩ .nil b:=by rintro b ⟨id,o,h,_⟩;cases h
 have hst:St ⟨fun _=>(0,0),fun _=>False,I,w⟩ .nil:=⟨fun id o h=>(by cases h),fun id o h=>(by cases h),fun id o h=>(by cases h),fun id o i j r d h=>(by cases h),fun id id' o o' h=>(by cases h),fun id o h=>(by cases h),hI⟩
 refine(h.2 ⟨fun _=>(0,0),fun _=>False,I,w⟩ [v] hst (fun i hi=>hi.elim) rfl (fun i d u h1 h2=> ?_)).mono ?_
 ·match i with
  |0=>simp at h1 h2;subst h1;subst h2;exact hv
  |i+1=>simp at h1
 ·rintro x w' ⟨u,c',r,H',nx',rfl,rfl,p1,p2,p3,p4,p5,p6,rfl⟩
  have hu:u= .bool true:=by
   simp only[fD,jZ,Rel,bY] at p5
   cases p5;rfl
  subst hu
  exact⟨rfl,p2.os,p2.tape,p2.output,p2.size,fun k hk=>p2.frame k hk (hno k)⟩
theorem atQ {P:Program} {f:FuncId} (h: ∀l:List Int,(∀x∈l,0≤x∧x<256)→aB P f [dS (l.map eU8)] .nil 0 fun rr _ _=>rr.plain=true∧rr=dB true) (az5:Option Addr) (len0 cap0:Nat) (blY:List Int) (w:World) (bk1:asV .u8 w az5 len0 cap0 blY):
 Calls P f #[.slice az5 len0 cap0] w fun e w'=>e= .returned (.bool true)∧Below w.heap.size w w':=by
 rcases bk1 with⟨rfl,rfl,rfl,rfl⟩|⟨x,rfl,hl,hm,hz,hc,hw⟩
 ·refine abA (I:=fun _=>False) (h [] (fun x hx=>by cases hx)) (fun b hb=>hb.elim) ?_
  exact .isl [] none 0 1 0 0 (fun _ _=>.int .u8 0) (fun h=>absurd rfl h) (m5 _) (fun i r h=>by simp at h) (fun i j r d h=>by simp at h) (fun i j r d h=>by simp at h)
 ·have hlt:(blY.take len0).length=len0:=by simp;omega
  have hby: ∀y∈blY.take len0,0≤y∧y<256:=fun y hy=>by
   have:=bounds_u8 (hw y (List.take_subset _ _ hy));omega
  refine abA (I:=fun b=>b=x.block∧0<len0) (h (blY.take len0) hby) (fun b hb=> ?_) ?_
  ·obtain⟨rfl,h0⟩:=hb
   have:=World.block_lt_of_cell? w _ (hc 0 (by omega))
   simpa [Addr.add] using this
  ·have key:=Imm.isl (I:=fun b=>b=x.block∧0<len0) (w:=w) ((blY.take len0).map eU8) (some x) cap0 1 x.block x.off (fun i _=>.int .u8 (blY.getD i 0)) (fun hne=> ?_) (by simp;omega) (fun i r hr=> ?_) (fun i j r d hr hd=> ?_) (fun i j r d hr hd=> ?_)
   ·rw[bqW,hlt] at key;exact key
   ·have h0:0<len0:=by
     rcases CR len0 with h0|h0
     ·subst h0;exact absurd (by simp) hne
     ·exact h0
    have hsp:=World.cell?_spot (hc 0 (by omega))
    refine⟨?_,rfl,h0⟩
    obtain⟨b,o,s⟩:=x
    simp only[Addr.add,if_true] at hsp
    subst hsp
    rfl
   ·obtain⟨y,_,rfl⟩:=CF.1 (s3 hr)
    rfl
   ·rw[p0] at hr
    obtain⟨y,hy,rfl⟩:=m4.1 hr
    match j with
    |0=>
     have hi:i<len0:=by have:=(m3.1 hy).1;omega
     have h1:=hc i (by omega)
     have hsp:=World.cell?_spot (hc 0 (by omega))
     obtain⟨b,o,s⟩:=x
     simp only[Addr.add,if_true] at hsp
     subst hsp
     have e:(Addr.mk b o none).add i=⟨b,o+(i*1+0),none⟩:=by
      unfold Addr.add
      split
      ·rename_i h;subst h;simp
      ·simp
     rw[e] at h1
     exact h1
    |j+1=>simp[eU8] at hd
   ·rw[p0] at hr
    obtain⟨y,hy,rfl⟩:=m4.1 hr
    match j with
    |0=>
     simp only[eU8,List.getElem?_cons_zero,Option.some.injEq] at hd
     subst hd
     have hyz:y=blY.getD i 0:=by
      rw[s4] at hy
      split at hy
      ·simp[List.getD,hy]
      ·cases hy
     subst hyz
     exact .v _ rfl
    |j+1=>simp[eU8] at hd
end Go.AM
