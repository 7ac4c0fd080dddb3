/- Texts laid together by a program: rules, contracts and the walk that leads to the law. -/
import Derived.Test.YtmccpdapaccnoaaGreatPT19
import Derived.Test.YtmccpdapaccnoaaGreatPT13
import Derived.Test.YtmccpdapaccnoaaGreatPT14
import Derived.Test.YtmccpdapaccnoaaGreatPT11
set_option linter.unusedVariables false
set_option linter.unusedSimpArgs false
set_option linter.unusedSectionVars false
set_option maxRecDepth 100000
set_option maxHeartbeats 8000000
namespace Go.AM
theorem aXE {l:List Job} {j:Job} (h:key j∈l.map key):jT (Go.Proofs.YtmccpdapaccnoaaGreat.UB l) [j.who,j.n]=some 1:=by
 induction l with
 |nil=>simp at h
 |cons x l ih=>
  unfold jT Go.Proofs.YtmccpdapaccnoaaGreat.UB
  rw[n3,List.find?_cons]
  by_cases he:[j.who,j.n]=[x.who,x.n]
  ·simp[he]
  ·have h2:key j∈l.map key:=by
    rw[n3,t3] at h
    rcases h with h|h
    ·exact absurd (by simp only[key,Prod.mk.injEq] at h;rw[h.1,h.2]) he
    ·exact h
   simp only[he,decide_false]
   exact ih h2
theorem aXB {α:Type} [Inhabited α] {l:List α} {i:Nat} (h:i<l.length):l=l.take i++l.getD i default::l.drop (i+1):=by
 have:l.getD i default=l[i]:=by simp[List.getD,h]
 rw[this,←brB h,boN]
end Go.AM
namespace Go.Proofs.YtmccpdapaccnoaaGreat
open Go Go.AM
attribute [local irreducible] aM wv aB vd wvH
section
variable {H : aA} {nx : Nat} {K : D → aA → Nat → Prop}
theorem aVW {c:Cfg} {s:TSt} (hb:aQ c) (ht:aTQ s) (h:K (dB (stB c s)) H nx):aB Tryz.prog j9 [boR (cU c),boR (eSt s)] H nx K:=by
 refine aB.pure (args0:=[boR (cU c),boR (eSt s)]) (R:=fun rr=>rr=dB (stB c s)) ?_ rfl (aI ⟨aE rfl,aE rfl,trivial⟩) (fun r hr=>hr▸h)
 clear h
 refine GV rfl fun Q hQ=> ?_
 unfold mC
 obtain⟨hp3,hp12⟩:=hC hb
 obtain⟨bpN,bpO,bpP,bpY,aU1,aU2,aXK⟩:=ht
 have hd: ∀j∈s.wait++s.done++s.told,j.rsp.data.length<2^40:=fun j hj=>by have:=aXK j hj;omega
 by_cases h0:JS s.words s.holds∧(s.asked.length:Int)=3∧kW s.wait∧kW s.done
 case neg=>
  have hno: ¬BA c s:=fun hs=>h0 ⟨ZS hs.atm,by rw[hs.JI];rfl,hs.NR,hs.NW⟩
  repeat' first| (first|apply bn1|refine bpL (fun h=> ?_) fun h=> ?_|refine JZ (w:=s.words) (u:=s.holds) (by omega) (by omega) (aE rfl) ?_|refine IK (l:=s.wait) (by omega) (aE rfl) ?_|refine IK (l:=s.done) (by omega) (aE rfl) ?_)<;>(simp only[go_sem])|refine bnE (fun h=> ?_) fun h=> ?_|fail
  all_goals first|exact aZ hQ (dB false) rfl rfl (congrArg dB (aWH hno).symm)|exact absurd ⟨by simp_all,by omega,by simp_all,by simp_all⟩ h0
 obtain⟨hatm,hal,hwS,hdS⟩:=h0
 have hal:s.asked.length=3:=by omega
 have hsum3:=af9 hal
 repeat' first| (first|apply bn1|apply bpK (by omega)|refine JZ (w:=s.words) (u:=s.holds) (by omega) (by omega) (aE rfl) ?_|refine IK (l:=s.wait) (by omega) (aE rfl) ?_|refine IK (l:=s.done) (by omega) (aE rfl) ?_)<;>(simp only[go_sem,eq_true hatm,eq_true hwS,eq_true hdS])|fail
 refine aM.sG 0 (β:=Nat) (fun b k=>en [(38,boP k),(37,boP s.asked.length),(36,dS (s.asked.map aJ)),(5,boP (s.asked.take k).sum),(3,.one (.c (.fQ (eSt s)))),(2,.one (.c (.fQ (cU c))))]) (fun b k=>.nil) (fun k=>k≤3∧(0≤(s.asked.take k).sum∧(s.asked.take k).sum≤12*k)∧ ∀i,i<k→0≤s.asked.getD i default∧s.asked.getD i default≤(c.cP.getD i default).length) (fun k=>3-k) 0 (bU (m5 _) (by repeat' first|exact bo2|refine xqI rfl rfl ?_| (with_reducible apply bo3)| ((with_reducible apply bo1);exact bpH rfl (by simp) rfl rfl rfl)|fail)) ⟨by omega,by simp,fun i hi=>by omega⟩ ?_
 rintro k ⟨hk,⟨h1,h2⟩,hinv⟩ bpQ hKL
 by_cases hlt:k<3
 ·have hst:=alS (l:=s.asked) (k:=k) (by omega)
  have hpk:=hp12 k
  repeat' first| (first|apply bn1|apply fE)<;>(simp only[go_sem];try simp (disch:=omega) only[Iw])|apply bn2 (by omega)|refine bnE (fun h=> ?_) fun h=> ?_|refine⟨by omega,?_⟩|fail
  ·exact aZ hQ (dB false) rfl rfl (congrArg dB (aWH fun hs=>by have:=hs.DC k hlt;omega).symm)
  ·exact hKL _ _ _ (k+1) (by omega) (by rw[hst];exact bU (by omega) (by repeat' first|exact bo2|refine xqI rfl rfl ?_|fail)) ⟨by omega,by rw[hst];omega,iS hinv (by omega)⟩ (by omega)
 have hk3:k=3:=by omega
 subst hk3
 have hask:aTF c s.asked:=hinv
 have hab: ∀i,0≤s.asked.getD i default∧s.asked.getD i default≤12:=fun i=>by
  by_cases hi:i<3
  ·have h1:=hask i hi;have h2:=hp12 i;omega
  ·have:s.asked.getD i default=0:=by simp[List.getD,show s.asked.length≤i by omega]
   omega
 repeat' first|apply bn1<;>(simp only[go_sem])|apply bn3 (by omega)|fail
 obtain⟨bm8,hLL⟩: ∃bm8:List TE,bm8=[s.wait,s.done,s.told]:=⟨_,rfl⟩
 have hLl:bm8.length=3:=by subst hLL;rfl
 have hLr:[[D1.isl (s.wait.map aS)],[D1.isl (s.done.map aS)],[D1.isl (s.told.map aS)]]=bm8.map IF:=by subst hLL;rfl
 obtain⟨seen,hse⟩: ∃seen:Nat→List Job,seen=fun k=>(bm8.take k).flatten:=⟨_,rfl⟩
 have hs0:seen 0=[]:=by subst hse;rfl
 have hs3:seen 3=s.wait++s.done++s.told:=by subst hse;subst hLL;simp
 have hss: ∀k,k<3→seen (k+1)=seen k++bm8.getD k default:=fun k hk=>by
  subst hse
  simp only
  rw[brQ (by omega),List.flatten_append]
  simp[List.getD,show k<bm8.length by omega]
 have hsk: ∀k,k<3→∃r,seen 3=seen k++bm8.getD k default++r:=fun k hk=>by
  have:k=0∨k=1∨k=2:=by omega
  rcases this with rfl|rfl|rfl
  ·exact⟨bm8.getD 1 default++bm8.getD 2 default,by rw[hss 2 (by omega),hss 1 (by omega),hss 0 (by omega),C0]⟩
  ·exact⟨bm8.getD 2 default,by rw[hss 2 (by omega),hss 1 (by omega)]⟩
  ·exact⟨[],by rw[hss 2 (by omega),bq6]⟩
 have hmem: ∀k,k<3→∀j∈bm8.getD k default,j∈s.wait++s.done++s.told:=fun k hk j hj=>by
  obtain⟨r,hr⟩:=hsk k hk
  rw[←hs3,hr];exact brA _ (brH _ hj)
 have hL0:bm8.getD 0 default=s.wait:=by subst hLL;rfl
 have hL12: ∀j,j∈s.done++s.told↔∃k,(k=1∨k=2)∧j∈bm8.getD k default:=fun j=>by
  subst hLL
  constructor
  ·intro h
   rcases o3.1 h with h|h
   ·exact⟨1,.inl rfl,h⟩
   ·exact⟨2,.inr rfl,h⟩
  ·rintro⟨k,rfl|rfl,h⟩
   ·exact brA _ h
   ·exact brH _ h
 have hLs: ∀k,k<3→(bm8.getD k default).length<2^21:=fun k hk=>by
  have:k=0∨k=1∨k=2:=by omega
  subst hLL
  rcases this with rfl|rfl|rfl<;>(simp[List.getD];omega)
 have hsl: ∀k,k≤3→(seen k).length≤k*2^21:=fun k hk=>by
  have e1:=hLs 0 (by omega);have e2:=hLs 1 (by omega);have e3:=hLs 2 (by omega)
  have bpR:(seen 1).length=(bm8.getD 0 default).length:=by rw[hss 0 (by omega),hs0,List.nil_append]
  have f2:(seen 2).length=(seen 1).length+(bm8.getD 1 default).length:=by rw[hss 1 (by omega),t2]
  have bpS:(seen 3).length=(seen 2).length+(bm8.getD 2 default).length:=by rw[hss 2 (by omega),t2]
  have:k=0∨k=1∨k=2∨k=3:=by omega
  rcases this with rfl|rfl|rfl|rfl
  ·rw[hs0];simp
  ·omega
  ·omega
  ·omega
 rw[hLr]
 clear hLr hLL hse
 refine aM.sG 1 (β:=Nat) (fun b k=>en [(65,boP k),(64,boP 3),(63,dS (bm8.map IF)),(8,.one (.c (.omap b))),(5,boP (s.asked.take 3).sum),(3,.one (.c (.fQ (eSt s)))),(2,.one (.c (.fQ (cU c))))]) (fun b k=>hp [(b,u4 ⟨2,true,UB (seen k)⟩)])
  (fun k=>k≤3∧(∀j∈seen k,InA s.asked j)∧((seen k).map key).Nodup∧(0<k→∀j∈s.wait,j.rsp=oW)∧ ∀i,i<k→0<i→∀j∈bm8.getD i default,as5 c j) (fun k=>3-k) 0 ?_ ⟨by omega,fun j hj=>by rw[hs0] at hj;simp at hj,by rw[hs0];simp,fun h=>by omega,fun i hi=>by omega⟩ ?_
 ·refine cR [31] (by omega) ?_ ⟨⟨by simp,by simp[sgL],_,rfl,GH (by rw[hs0];rfl)⟩,trivial⟩ (by simp[sgL])
  refine oF (oF (oF (oF (oF (oF (oF K6 ?_) ?_) ?_) ?_) ?_) ?_) ?_
  all_goals first
   |exact DJ (rows:=bm8.map IF) (aG al7 bm8) (by simp;omega) (by simp) rfl rfl (boL (by simp)) (by simp;omega)
   |exact apS (aa6 (by omega) rfl)
   | (repeat' (first|exact bo2| ((with_reducible apply bo1);exact bo8 rfl)|fail);done)
 rintro k ⟨hk,hI1,hI2,hI3,hI4⟩ bqG hKM
 by_cases hlt:k<3
 ·have hss1:=hss k hlt
  have hmm:=hmem k hlt
  have hlk:=hLs k hlt
  obtain⟨rest,hrest⟩:=hsk k hlt
  have hc0:k=0→bm8.getD k default=s.wait:=fun h=>by rw[h];exact hL0
  have hc1:0<k→∀j∈bm8.getD k default,j∈s.done++s.told:=fun h j hj=>(hL12 j).2 ⟨k,by omega,hj⟩
  have hI4': ∀i,i<k→0<i→∀j∈bm8.getD i default,as5 c j:=hI4
  have hI5:(∀j∈bm8.getD k default,as5 c j)→∀i,i<k+1→0<i→∀j∈bm8.getD i default,as5 c j:=fun h i hi h0=>by
   rcases br8.1 hi with h2|h2
   ·exact hI4 i h2 h0
   ·subst h2;exact h
  generalize hcur:bm8.getD k default=cur at hss1 hmm hlk hc0 hc1 hrest hI5
  repeat' first|apply bn1<;>(simp only[go_sem,hcur])|apply bn2 (by omega)|refine⟨by omega,?_⟩|fail
  refine aM.sG 1 (β:=Nat) (fun b i=>en [(72,boP i),(71,boP cur.length),(70,dS (cur.map aS)),(65,boP k),(64,boP 3),(63,dS (bm8.map IF)),(9,boP k),(8,.one (.c (.omap b))),(5,boP (s.asked.take 3).sum),(3,.one (.c (.fQ (eSt s)))),(2,.one (.c (.fQ (cU c))))]) (fun b i=>hp [(b,u4 ⟨2,true,UB (seen k++cur.take i)⟩)])
   (fun i=>i≤cur.length∧(∀j∈seen k++cur.take i,InA s.asked j)∧((seen k++cur.take i).map key).Nodup∧ ∀j∈cur.take i,if k=0 then j.rsp=oW else as5 c j) (fun i=>cur.length-i) 0 (by(refine cR [42] (by omega) (by repeat' first|exact bo2|refine xqI rfl rfl ?_| (with_reducible apply bo3)| ((with_reducible apply bo0);exact bpD (by omega) rfl)| ((with_reducible apply bo1);apply bo7)|fail) ⟨⟨by simp,by simp[sgL],_,rfl,GH (by simp)⟩,trivial⟩ (by simp[sgL]))) ⟨by omega,by simpa using hI1,by simpa using hI2,by simp⟩ ?_
  rintro i ⟨hi,hJ1,hJ2,hJ3⟩ bqR hKN
  by_cases hil:i<cur.length
  ·have hjc:=cC hil
   have hjm:=hmm _ hjc
   have hjd:=hd _ hjm
   have hts:cur.take (i+1)=cur.take i++[cur.getD i default]:=by rw[brQ hil];simp[List.getD,hil]
   have hall:s.wait++s.done++s.told=(seen k++cur.take i)++cur.getD i default::(cur.drop (i+1)++rest):=by
    rw[←hs3,hrest,C0,C0,←List.cons_append,←C0 (cur.take i),←aXB hil]
   have hw0:k=0→cur.getD i default∈s.wait:=fun h=>by rw[←hc0 h];exact hjc
   have hw1:0<k→cur.getD i default∈s.done++s.told:=fun h=>hc1 h _ hjc
   generalize hjj:cur.getD i default=j at*
   have hno1: ¬InA s.asked j→¬BA c s:=fun h hs=>h (hs.inA j hjm)
   have hno2:key j∈(seen k++cur.take i).map key→¬BA c s:=fun h hs=>by
    have hn:=hs.nodup
    unfold keys at hn
    rw[hall,bqX] at hn
    exact(brG.1 hn).2.2 _ h _ (by simp) rfl
   by_cases hin:InA s.asked j
   case neg=>
    unfold InA at hin
    have hal3:(s.asked.length:Int)=3:=by omega
    have har:=hab j.who.toNat
    have hpk:=hp12 j.who.toNat
    repeat' first| (first|apply bn1|apply bpJ (by omega)|refine bpL (fun h=> ?_) fun h=> ?_|apply oR|apply fE)<;>(simp only[go_sem,hjj];try simp (disch:=omega) only[Iw])|apply bn2 (by omega)|refine⟨by omega,?_⟩|fail
    all_goals first
     |exact aZ hQ (dB false) rfl rfl (congrArg dB (aWH (hno1 hin)).symm)
     | (exfalso;omega)
   have hni:key j∉(seen k++cur.take i).map key∨key j∈(seen k++cur.take i).map key:=(Classical.em _).symm
   have hJ1': ∀x∈seen k++cur.take (i+1),InA s.asked x:=fun x hx=>by
    rw[hts,←C0] at hx
    rcases o3.1 hx with hx|hx
    ·exact hJ1 x hx
    ·simp at hx;subst hx;exact hin
   have hja:oA c j.who j.n:=by
    obtain⟨⟨q1,q2⟩,q3,q4⟩:=hin
    have:=hask j.who.toNat (by omega)
    exact⟨⟨q1,q2⟩,q3,by omega⟩
   obtain⟨⟨q1,q2⟩,q3,q4⟩:=hin
   have har:=hask j.who.toNat (by omega)
   have hpk:=hp12 j.who.toNat
   rcases hni with hni|hni
   case inr=>
    have hget:=aXE hni
    repeat' first| (first|apply bn1|apply bpK (by omega)|apply oR|apply fE)<;>(simp only[go_sem,hjj,hget,Option.getD_some];try simp (disch:=omega) only[Iw])|apply bn2 (by omega)|refine⟨by omega,?_⟩|fail
    all_goals exact aZ hQ (dB false) rfl rfl (congrArg dB (aWH (hno2 hni)).symm)
   have hget:=alK hni
   have hset:=alD hni
   have hJ2':((seen k++cur.take (i+1)).map key).Nodup:=by
    rw[hts,←C0,bqX]
    refine brG.2 ⟨hJ2,by simp,fun a ha b hb he=> ?_⟩
    simp at hb;subst hb;subst he;exact hni ha
   have hJ3':(if k=0 then j.rsp=oW else as5 c j)→∀x∈cur.take (i+1),if k=0 then x.rsp=oW else as5 c x:=fun h x hx=>by
    rw[hts] at hx
    rcases o3.1 hx with hx|hx
    ·exact hJ3 x hx
    ·simp at hx;subst hx;exact h
   by_cases hk0:k=0
   ·by_cases hjr:j.rsp=oW
    ·repeat' first| (first|apply bn1|apply bpJ (by omega)|apply bpK (by omega)|apply oR|apply fE|apply HK hjd)<;>(simp only[go_sem,hjj,hget,hset,Option.getD_none,eq_true hjr];try simp (disch:=omega) only[Iw])|apply bn2 (by omega)|refine⟨by omega,?_⟩|fail
     exact hKN _ _ _ (i+1) (by omega) (by(refine cR [52] (by omega) (by repeat' first|exact bo2|refine xqI rfl rfl ?_| (with_reducible apply bo3)| ((with_reducible apply bo0);exact bpD (by omega) rfl)| ((with_reducible apply bo1);apply bo7)|fail) ⟨⟨by simp,by simp[sgL],_,rfl,GH (by rw[hts,C0])⟩,trivial⟩ (by simp[sgL]))) ⟨by omega,hJ1',hJ2',hJ3' (by rw[if_pos hk0];exact hjr)⟩ (by omega)
    ·repeat' first| (first|apply bn1|apply bpJ (by omega)|apply bpK (by omega)|apply oR|apply fE|apply HK hjd)<;>(simp only[go_sem,hjj,hget,hset,Option.getD_none,eq_false hjr];try simp (disch:=omega) only[Iw])|apply bn2 (by omega)|refine⟨by omega,?_⟩|fail
     exact aZ hQ (dB false) rfl rfl (congrArg dB (aWH fun hs=>hjr (hs.P4 j (hw0 hk0))).symm)
   ·have hkp:0<k:=by omega
    have hno3: ¬as5 c j→¬BA c s:=fun h hs=>h (hs.R8 j (hw1 hkp))
    by_cases hjr:pA j.rsp
    ·repeat' first| (first|apply bn1|apply bpJ (by omega)|apply bpK (by omega)|apply oR|apply fE|apply I8 hjd|apply iJ hp3 hja)<;>(simp only[go_sem,hjj,hget,hset,Option.getD_none,eq_true hjr];try simp (disch:=omega) only[Iw])|apply bn2 (by omega)|refine bnE (fun h=> ?_) fun h=> ?_|refine⟨by omega,?_⟩|fail
     ·exact aZ hQ (dB false) rfl rfl (congrArg dB (aWH (hno3 fun h=>by have:=h.2;omega)).symm)
     ·exact hKN _ _ _ (i+1) (by omega) (by(refine cR [52] (by omega) (by repeat' first|exact bo2|refine xqI rfl rfl ?_| (with_reducible apply bo3)| ((with_reducible apply bo0);exact bpD (by omega) rfl)| ((with_reducible apply bo1);apply bo7)|fail) ⟨⟨by simp,by simp[sgL],_,rfl,GH (by rw[hts,C0])⟩,trivial⟩ (by simp[sgL]))) ⟨by omega,hJ1',hJ2',hJ3' (by rw[if_neg hk0];exact⟨hjr,by omega⟩)⟩ (by omega)
    ·repeat' first| (first|apply bn1|apply bpJ (by omega)|apply bpK (by omega)|apply oR|apply fE|apply I8 hjd)<;>(simp only[go_sem,hjj,hget,hset,Option.getD_none,eq_false hjr];try simp (disch:=omega) only[Iw])|apply bn2 (by omega)|refine⟨by omega,?_⟩|fail
     exact aZ hQ (dB false) rfl rfl (congrArg dB (aWH (hno3 fun h=>hjr h.1)).symm)
  ·have hi2:i=cur.length:=by omega
   subst hi2
   rw[bq4,←hss1] at hJ1 hJ2
   rw[bq4] at hJ3
   rw[bq4,←hss1]
   repeat' first|apply bn1<;>(simp only[go_sem];try simp (disch:=omega) only[Iw])|apply bn3 (by omega)|fail
   refine hKM _ _ _ (k+1) (by omega) (by(refine cR [52] (by omega) (by repeat' first|exact bo2|refine xqI rfl rfl ?_| (with_reducible apply bo3)| ((with_reducible apply bo0);exact bpD (by omega) rfl)| ((with_reducible apply bo1);apply bo7)|fail) ⟨⟨by simp,by simp[sgL],_,rfl,GH rfl⟩,trivial⟩ (by simp[sgL]))) ⟨by omega,hJ1,hJ2,fun _=> ?_,?_⟩ (by omega)
   ·by_cases hk0:k=0
    ·intro j hj
     have:=hJ3 j (by rw[hc0 hk0];exact hj)
     rwa [if_pos hk0] at this
    ·exact hI3 (by omega)
   ·intro i2 h1 h2
    by_cases hk0:k=0
    ·omega
    ·exact hI5 (fun j hj=>by have:=hJ3 j hj;rwa [if_neg hk0] at this) i2 h1 h2
 ·have hk3:k=3:=by omega
  subst hk3
  rw[hs3] at hI1 hI2
  have hl3:=congrArg List.length hs3
  rw[t2,t2] at hl3
  repeat' first|apply bn1<;>(simp only[go_sem])|apply bn3 (by omega)|fail
  refine aZ hQ (dB (decide (((UB (seen 3)).length:Int)=(s.asked.take 3).sum))) rfl rfl (congrArg dB ?_)
  rw[amR]
  by_cases hcnt:((seen 3).length:Int)=(s.asked.take 3).sum
  ·rw[decide_eq_true hcnt]
   refine(aXJ (aUA hatm hal hask hwS hdS hI1 hI2 (by omega) (hI3 (by omega)) fun j hj=> ?_)).symm
   obtain⟨k,hk,hj⟩:=(hL12 j).1 hj
   exact hI4 k (by omega) (by omega) j hj
  ·rw[decide_eq_false hcnt]
   exact(aWH fun hs=>by have:=hs.count;omega).symm
end
end Go.Proofs.YtmccpdapaccnoaaGreat
namespace Go.AM
def a5F (l:List Job):Prop:=l.Pairwise fun a b=>uL b a=false
theorem beB {a b:Job}:uL a b=false↔¬(a.who<b.who∨(a.who=b.who∧a.n<b.n)):=by
 rw[←Bool.not_eq_true,qL]
theorem beE {S:List Job} {x:Job} (hs:a5F S):a5F (BM S x):=by
 have hA: ∀a∈S.take (S.findIdx (uL x)),uL x a=false:=fun a ha=>by
  obtain⟨i,hi,rfl⟩:=bqY.1 ha
  rw[brU]
  have:=br9 (p:=uL x) (xs:=S) (i:=i) (by simp at hi;omega)
  simpa using this
 have hB: ∀b∈S.drop (S.findIdx (uL x)),uL x b=true:=fun b hb=>by
  obtain⟨i,hi,rfl⟩:=bqY.1 hb
  rw[List.getElem_drop]
  simp only[CI] at hi
  have hlt:S.findIdx (uL x)<S.length:=by omega
  have h0:uL x S[S.findIdx (uL x)]=true:=bsA (w:=hlt)
  by_cases h:i=0
  ·subst h;exact h0
  ·have h1:=Z6.1 hs (S.findIdx (uL x)) (S.findIdx (uL x)+i) (by omega) (by omega) (by omega)
   rw[beB] at h1
   rw[qL] at h0 ⊢
   omega
 have hs':(S.take (S.findIdx (uL x))++S.drop (S.findIdx (uL x))).Pairwise fun a b=>uL b a=false:=by rw[boN];exact hs
 unfold BM a5F
 rw[brM] at hs' ⊢
 obtain⟨h1,h2,h3⟩:=hs'
 refine⟨h1,G0.2 ⟨fun b hb=> ?_,h2⟩,fun a ha b hb=> ?_⟩
 ·have:=hB b hb
  rw[qL] at this
  rw[beB];omega
 ·rcases t3.1 hb with rfl|hb
  ·exact hA a ha
  ·exact h3 a ha b hb
theorem bd2 (l:List Job):a5F (jX l):=by
 have h: ∀(l acc:List Job),a5F acc→a5F (l.foldl BM acc):=by
  intro l
  induction l with
  |nil=>intro acc h;exact h
  |cons x l ih=>intro acc h;exact ih _ (beE h)
 exact h l [] List.Pairwise.nil
theorem beW {S:List Job} {x:Job} {j:Nat} (hj:j≤S.length) (hs:a5F S) (h0:j=0∨uL x (S.getD (j-1) default)=false) (hB: ∀i,j≤i→i<S.length→uL x (S.getD i default)=true):MS S x j=BM S x:=by
 have hl:(S.take j).length=j:=by simp;omega
 conv=>rhs;rw[←boN j S]
 refine(abS (fun a ha=> ?_) fun b hb=> ?_).symm
 ·rcases h0 with rfl|h0
  ·simp at ha
  ·obtain⟨i,hi,rfl⟩:=bqY.1 ha
   rw[brU]
   by_cases he:i=j-1
   ·subst he
    have:S.getD (j-1) default=S[j-1]:=by simp[List.getD,show j-1<S.length by omega]
    rw[this] at h0;exact h0
   ·have h1:=Z6.1 hs i (j-1) (by omega) (by omega) (by omega)
    have h2:S.getD (j-1) default=S[j-1]:=by simp[List.getD,show j-1<S.length by omega]
    rw[h2] at h0
    rw[beB] at h0 h1 ⊢
    omega
 ·obtain⟨i,hi,rfl⟩:=bqY.1 hb
  rw[List.getElem_drop]
  have:=hB (j+i) (by omega) (by simp at hi;omega)
  simpa [List.getD,show j+i<S.length by simp at hi;omega] using this
end Go.AM
namespace Go.Proofs.YtmccpdapaccnoaaGreat
open Go Go.AM
attribute [local irreducible] aM wv aB vd wvH
section
variable {H : aA} {nx : Nat} {K : D → aA → Nat → Prop}
theorem a42 {l:List Job} {m cap i0:Nat} (hl:l.length<2^21) (hi:i0<nx) (o0:H i0=some ⟨5,m,l.map aS⟩)
 (h: ∀H' nx',nx≤nx'→H' i0=some ⟨5,m,(jX l).map aS⟩→(∀id,id<nx→id≠i0→H' id=H id)→K (.tup []) H' nx'):
 aB Tryz.prog cL [.one (.c (.osl 5 i0 0 l.length cap)),boP 0,boP l.length,.one (.c (.clo bJ []))] H nx K:=by
 refine mY rfl fun Q hQ=> ?_
 unfold dU
 repeat' first|apply bn1<;>(simp only[go_sem];try simp (disch:=omega) only[Iw])|fail
 refine aM.gP (β:=Nat) (fun k=>en [(8,boP k),(3,.one (.c (.clo bJ []))),(2,boP l.length),(1,boP 0),(0,.one (.c (.osl 5 i0 0 l.length cap)))])
  (fun k H1 _=>1≤k∧(k≤1∨k≤l.length)∧H1 i0=some ⟨5,m,(A5 l k++l.drop k).map aS⟩∧ ∀id,id<nx→id≠i0→H1 id=H id) (fun k=>l.length+1-k) 1
  ⟨noF,_,by repeat' first|exact bo2|refine xqI rfl rfl ?_|refine xqO (by omega) rfl rfl (by rfl) ?_| (with_reducible apply bo3)| ((with_reducible apply bo0);exact bpG (by rfl))| ((with_reducible apply bo1);apply bo7)|fail,aK,by omega,.inl (by omega),by rw[ah3,boN];exact o0,fun _ _ _=>rfl⟩ ?_
 rintro k H1 nx1 hnx ⟨hk1,hk2,bqC,hfr⟩ bpQ hKL
 by_cases hlt:k<l.length
 ·repeat' first|apply bn1<;>(simp only[go_sem])|apply bn2 (by omega)|fail
  obtain⟨S,hS⟩: ∃S,S=A5 l k:=⟨_,rfl⟩
  have hSl:S.length=k:=by rw[hS];exact ahI (by omega)
  obtain⟨x,hx⟩: ∃x,x=l.getD k default:=⟨_,rfl⟩
  have hd:l.drop k=x::l.drop (k+1):=by
   rw[brB hlt,hx];simp[List.getD,hlt]
  refine aM.gP (β:=Nat) (fun j=>en [(9,boP j),(8,boP k),(3,.one (.c (.clo bJ []))),(2,boP l.length),(1,boP 0),(0,.one (.c (.osl 5 i0 0 l.length cap)))])
   (fun j H2 _=>j≤k∧H2 i0=some ⟨5,m,(MS S x j++l.drop (k+1)).map aS⟩∧(∀i,j≤i→i<S.length→uL x (S.getD i default)=true)∧ ∀id,id<nx→id≠i0→H2 id=H id) (fun j=>j) k
   ⟨noF,_,by repeat' first|exact bo2|refine xqI rfl rfl ?_|refine xqO (by omega) rfl rfl (by rfl) ?_| (with_reducible apply bo3)| ((with_reducible apply bo0);exact bpG (by rfl))| ((with_reducible apply bo1);apply bo7)|fail,aK,m5 _,?_,fun i h1 h2=>by omega,hfr⟩ ?_
  ·rw[bqC,←hS,hd]
   unfold MS
   rw[boL (show S.length≤k by omega),show S.drop k=[] from brZ (by omega)];simp
  rintro j H2 nx2 hnx2 ⟨hj,bfZ,hB,hfr2⟩ bqG hKM
  have hLl:(MS S x j++l.drop (k+1)).length=l.length:=by rw[t2,amF (by omega),CI];omega
  have hk0: ∀b,(i0=nx2+b)=False:=fun b=>eq_false (by omega)
  have hk0': ∀b,(nx2+b=i0)=False:=fun b=>eq_false (by omega)
  have hback: ∀{e:Env} {H':aA} {n':Nat},nx2≤n'→(j=0∨uL x (S.getD (j-1) default)=false)→H'=H2→CvE H' noF id n' (en [(8,boP (k+1)),(3,.one (.c (.clo bJ []))),(2,boP l.length),(1,boP 0),(0,.one (.c (.osl 5 i0 0 l.length cap)))]) e→bpQ e H' n':=fun h1 h2 h3 h4=>by
   subst h3
   refine hKL _ _ _ (k+1) noF _ (by omega) (by omega) h4 aK ⟨by omega,.inr (by omega),?_,hfr2⟩
   rw[bfZ,beW (by omega) (by rw[hS];exact bd2 _) h2 hB,hS,ac8 hlt,hx]
  by_cases hj0:0<j
  ·have hat:=anT (S:=S) (R:=l.drop (k+1)) (x:=x) (j:=j) (by omega)
   have hah:=adY (S:=S) (R:=l.drop (k+1)) (x:=x) hj0 (by omega)
   have hsw:=ah1 (S:=S) (R:=l.drop (k+1)) (x:=x) hj0 (by omega)
   have ej:((j:Int)-1).toNat=j-1:=by omega
   repeat' first| (first|apply bn1|apply bpJ (by omega)|apply xM)<;>(simp only[go_sem,bfZ,hat,hah,ej,hLl,hk0,hk0'];try simp (disch:=omega) only[Iw])|refine bnE (fun h=> ?_) fun h=> ?_|refine⟨by omega,?_⟩|fail
   ·exact hKM _ _ _ (j-1) noF _ (by omega) (by omega) (by repeat' first|exact bo2|refine xqI rfl rfl ?_|refine xqO (by omega) rfl rfl (by rfl) ?_|refine xqV rfl (by omega) ?_| (with_reducible apply bo3)| ((with_reducible apply bo0);exact bpG (by rfl))| ((with_reducible apply bo1);apply bo7)|fail) aK ⟨by omega,by rw[hsw];exact aA.bH,fun i h1 h2=>by
     by_cases he:i=j-1
     ·subst he;exact E7.1 (by assumption)
     ·exact hB i (by omega) h2,fun id boU e1=>by rw[aA.aC e1];exact hfr2 id boU e1⟩
   ·exact hback (by omega) (.inr (by rw[←Bool.not_eq_true,←E7];assumption)) rfl (by repeat' first|exact bo2|refine xqI rfl rfl ?_|refine xqO (by omega) rfl rfl (by rfl) ?_| (with_reducible apply bo3)| ((with_reducible apply bo0);exact bpG (by rfl))| ((with_reducible apply bo1);apply bo7)|fail)
  ·repeat' first| (first|apply bn1|apply bpK (by omega))<;>(simp only[go_sem];try simp (disch:=omega) only[Iw])|fail
   exact hback (by omega) (.inl (by omega)) rfl (by repeat' first|exact bo2|refine xqI rfl rfl ?_|refine xqO (by omega) rfl rfl (by rfl) ?_| (with_reducible apply bo3)| ((with_reducible apply bo0);exact bpG (by rfl))| ((with_reducible apply bo1);apply bo7)|fail)
 ·repeat' first|apply bn1<;>(simp only[go_sem])|apply bn3 (by omega)|fail
  have hd:A5 l k++l.drop k=jX l:=by
   rw[brZ (by omega),bq6,←aiE]
   unfold A5
   rw[boL (by omega),boL (by omega)]
  rw[hd] at bqC
  exact hQ _ _ _ _ _ (.inl rfl) rfl (h _ _ (by omega) bqC hfr)
theorem bb2 {l:List Job} {m cap i0:Nat} (hl:l.length<20) (hi:i0<nx) (o0:H i0=some ⟨5,m,l.map aS⟩)
 (h: ∀H' nx',nx≤nx'→H' i0=some ⟨5,m,(jX l).map aS⟩→(∀id,id<nx→id≠i0→H' id=H id)→K (.tup []) H' nx'):
 aB Tryz.prog gL [.one (.c (.osl 5 i0 0 l.length cap)),boP l.length,.one (.c (.clo bJ []))] H nx K:=by
 refine tL rfl fun Q hQ=> ?_
 unfold gA
 repeat' first|apply bn1<;>(simp only[go_sem])|fail
 refine aM.gP (β:=Unit) (fun _=>en [(8,boP 20),(7,boP 0),(6,boP 20),(2,.one (.c (.clo bJ []))),(1,boP l.length),(0,.one (.c (.osl 5 i0 0 l.length cap)))]) (fun _ H1 _=>H1=H) (fun _=>0) () ⟨noF,_,by repeat' first|exact bo2|refine xqI rfl rfl ?_|refine xqO (by omega) rfl rfl (by rfl) ?_| (with_reducible apply bo3)| ((with_reducible apply bo0);exact bpG (by rfl))| ((with_reducible apply bo1);apply bo7)|fail,aK,rfl⟩ ?_
 rintro u H1 nx1 hnx rfl bpQ hKL
 repeat' first| (first|apply bn1|refine a42 (by omega) (by omega) o0 (fun H' nx' hx' bfZ ffr=> ?_))<;>(simp only[go_sem])|apply bn3 (by omega)|fail
 refine aM.gP (β:=Unit) (fun _=>en [(6,boP 20),(2,.one (.c (.clo bJ []))),(1,boP l.length),(0,.one (.c (.osl 5 i0 0 l.length cap)))]) (fun _ H2 _=>H2=H') (fun _=>0) () ⟨noF,_,by repeat' first|exact bo2|refine xqI rfl rfl ?_|refine xqO (by omega) rfl rfl (by rfl) ?_| (with_reducible apply bo3)| ((with_reducible apply bo0);exact bpG (by rfl))| ((with_reducible apply bo1);apply bo7)|fail,aK,rfl⟩ ?_
 rintro u H2 nx2 hnx2 rfl bqG hKM
 repeat' first|apply bn1<;>(simp only[go_sem])|apply bn3 (by omega)|fail
 exact hQ _ _ _ _ _ (.inl rfl) rfl (h _ _ (by omega) bfZ fun id boU e1=>ffr id (by omega) e1)
theorem a3D {l:List Job} {m cap i0:Nat} (hl:l.length<20) (hi:i0<nx) (o0:H i0=some ⟨5,m,l.map aS⟩)
 (h: ∀H' nx',nx≤nx'→H' i0=some ⟨5,m,(jX l).map aS⟩→(∀id,id<nx→id≠i0→H' id=H id)→K (.tup []) H' nx'):
 aB Tryz.prog cG [.one (.c (.osl 5 i0 0 l.length cap)),.one (.c (.clo bJ []))] H nx K:=by
 refine mA rfl fun Q hQ=> ?_
 unfold dF
 repeat' first| (first|apply bn1|refine bb2 hl (by omega) o0 (fun H' nx' hx' bfZ ffr=> ?_))<;>(simp only[go_sem])|fail
 exact hQ _ _ _ _ _ (.inl rfl) rfl (h _ _ (by omega) bfZ fun id boU e1=>ffr id (by omega) e1)
end
end Go.Proofs.YtmccpdapaccnoaaGreat
namespace Go.AM
structure bdV (s:CSt):Prop where
 pl:s.bM.length=3
 sl:s.dD.length≤4
 q: ∀k,k<3→(aF s k).queue.length≤3
 v: ∀k,k<s.dD.length→(aL s k).pipe.length≤3∧(aL s k).done.length≤3
 wl:(qU s).length<20
 dl:(uQ s).length<20
 st:aTQ (cX s)
end Go.AM
namespace Go.Proofs.YtmccpdapaccnoaaGreat
open Go Go.AM
attribute [local irreducible] aM wv aB vd wvH
section
variable {H : aA} {nx : Nat} {K : D → aA → Nat → Prop}
theorem a4R (s:TSt) (hs:aTQ s):aB Tryz.prog iG [boR (eSt s)] (hp []) 0
 fun r H' n'=>∃m0 m1 bp3 bqM bqN bqQ,(s.words.length≤m0∧s.holds.length≤m1∧s.asked.length≤bp3∧s.wait.length≤bqM∧s.done.length≤bqN∧s.told.length≤bqQ)∧n'=6∧H'=hp [(0,⟨1,m0,s.words.map aJ⟩),(1,⟨1,m1,s.holds.map aJ⟩),(2,⟨1,bp3,s.asked.map aJ⟩),(3,⟨5,bqM,s.wait.map aS⟩),(4,⟨5,bqN,s.done.map aS⟩),(5,⟨5,bqQ,s.told.map aS⟩)]∧
  r=boR (oIm 0 1 2 3 4 5 s.words.length s.holds.length s.asked.length s.wait.length s.done.length s.told.length s):=by
 obtain⟨hwl,hhl,hal,hl1,hl2,hl3,hd⟩:=hs
 refine AY rfl fun Q hQ=> ?_
 unfold kD
 repeat' first| (first|apply bn1|refine qN (w:=s.words) (u:=s.holds) (by omega) (by omega) (fun m0 m1 hm0 hm1=> ?_)|refine kH (l:=s.asked) (by omega) (fun bp3 hm2=> ?_)|refine gY (l:=s.wait) (by omega) (fun j hj=>hd j (by simp[hj])) (fun bqM hm3=> ?_)|refine gY (l:=s.done) (by omega) (fun j hj=>hd j (by simp[hj])) (fun bqN hm4=> ?_)|refine gY (l:=s.told) (by omega) (fun j hj=>hd j (by simp[hj])) (fun bqQ hm5=> ?_))<;>(simp only[go_sem])|fail
 (refine hQ _ _ _ _ _ 6 (boR (oIm 0 1 2 3 4 5 s.words.length s.holds.length s.asked.length s.wait.length s.done.length s.told.length s)) (hp [(0,⟨1,m0,s.words.map aJ⟩),(1,⟨1,m1,s.holds.map aJ⟩),(2,⟨1,bp3,s.asked.map aJ⟩),(3,⟨5,bqM,s.wait.map aS⟩),(4,⟨5,bqN,s.done.map aS⟩),(5,⟨5,bqQ,s.told.map aS⟩)]) _ _ (.inr rfl) rfl (fU [19,20,21,22,23,24] (by omega) (by repeat' first|exact bo2| ((with_reducible apply bo0);exact bpB (by omega) rfl rfl (by rfl) rfl)| ((with_reducible apply bo1);apply bo6)|exact bo4|apply bo5|fail) ⟨⟨by simp,by simp[sgL],_,rfl,bP (aG bF _) rfl rfl⟩,⟨by simp,by simp[sgL],_,rfl,bP (aG bF _) rfl rfl⟩,⟨by simp,by simp[sgL],_,rfl,bP (aG bF _) rfl rfl⟩,⟨by simp,by simp[sgL],_,rfl,bP (aG dZ _) rfl rfl⟩,⟨by simp,by simp[sgL],_,rfl,bP (aG dZ _) rfl rfl⟩,⟨by simp,by simp[sgL],_,rfl,bP (aG dZ _) rfl rfl⟩,trivial⟩ (by simp[sgL])) ?_)
 exact⟨m0,m1,bp3,bqM,bqN,bqQ,⟨hm0,hm1,hm2,hm3,hm4,hm5⟩,rfl,rfl,rfl⟩
theorem a43 {s:TSt} (hs:aTQ s) (h: ∀m0 m1 bp3 bqM bqN bqQ,(s.words.length≤m0∧s.holds.length≤m1∧s.asked.length≤bp3∧s.wait.length≤bqM∧s.done.length≤bqN∧s.told.length≤bqQ)→K (boR (oIm nx (nx+1) (nx+2) (nx+3) (nx+4) (nx+5) s.words.length s.holds.length s.asked.length s.wait.length s.done.length s.told.length s)) ((((((H.set nx ⟨1,m0,s.words.map aJ⟩).set (nx+1) ⟨1,m1,s.holds.map aJ⟩).set (nx+2) ⟨1,bp3,s.asked.map aJ⟩).set (nx+3) ⟨5,bqM,s.wait.map aS⟩).set (nx+4) ⟨5,bqN,s.done.map aS⟩).set (nx+5) ⟨5,bqQ,s.told.map aS⟩) (nx+6)):
 aB Tryz.prog iG [boR (eSt s)] H nx K:=by
 refine(a4R s hs).AF (l0:=[]) [] rfl ⟨aE rfl,trivial⟩ trivial (by simp) (by simp) (by simp) fun r H' n' _ ⟨m0,m1,bp3,bqM,bqN,bqQ,bqB,q1,q2,q3⟩=> ?_
 have h:=h m0 m1 bp3 bqM bqN bqQ bqB
 subst q1;subst q2;subst q3
 have e1:back (tau 0 nx (nth [])) (hp [(0,⟨1,m0,s.words.map aJ⟩),(1,⟨1,m1,s.holds.map aJ⟩),(2,⟨1,bp3,s.asked.map aJ⟩),(3,⟨5,bqM,s.wait.map aS⟩),(4,⟨5,bqN,s.done.map aS⟩),(5,⟨5,bqQ,s.told.map aS⟩)]) 6 H=((((((H.set nx ⟨1,m0,s.words.map aJ⟩).set (nx+1) ⟨1,m1,s.holds.map aJ⟩).set (nx+2) ⟨1,bp3,s.asked.map aJ⟩).set (nx+3) ⟨5,bqM,s.wait.map aS⟩).set (nx+4) ⟨5,bqN,s.done.map aS⟩).set (nx+5) ⟨5,bqQ,s.told.map aS⟩):=by
  simp[back,hp,aA.set,aA.nil,tau,nth,uB,BB,aA.eL,aA.yI]
 rw[←e1] at h
 exact h
theorem bdE {s:CSt} (hs:bdV s) (h: ∀H' nx',nx≤nx'→(∀id,id<nx→H' id=H id)→K (boR (eSt (cX s))) H' nx'):aB Tryz.prog zX [boR (eI s)] H nx K:=by
 have hpl:=hs.pl
 have hsl:=hs.sl
 obtain⟨N,hN⟩: ∃N,N=s.dD.length:=⟨_,rfl⟩
 rw[←hN] at hsl
 apply aB.tW
 refine RA rfl fun Q hQ=> ?_
 unfold yF
 repeat' first|apply bn1<;>(simp only[go_sem,boC,hpl])|fail
 apply aM.EJ 1
 apply aM.EJ 5
 apply aM.EJ 5
 refine aM.tW _ _ noF (fun t=>.inl rfl) (KO (i:=nx+7) (o:=⟨6,1,[[.isl (s.words.map aJ),.isl (s.holds.map aJ),.osl 0 0 0 0 0,.osl 0 0 0 0 0,.osl 0 0 0 0 0,.isl (s.told.map aS)]]⟩) (o':=⟨6,1,[[.isl (s.words.map aJ),.isl (s.holds.map aJ),.osl 1 (nx+13) 0 0 0,.osl 5 (nx+14) 0 0 0,.osl 5 (nx+15) 0 0 0,.isl (s.told.map aS)]]⟩) (by simp only[aA.set,t1,bqU,Nat.reduceEqDiff,Nat.reduceAdd,if_false,if_true]) (aP (aH (bB rfl) (aH (bB rfl) (aH (.VS ..) (aH (.VS ..) (aH (.VS ..) (aH (bB rfl) eP)))))))) ?_
 refine aM.TF fun bqO hG0=> ?_
 have c0:bqO nx=some ⟨5,1,[eI s]⟩:=by rw[hG0];simp only[aA.set,t1,bqU,Nat.reduceEqDiff,Nat.reduceAdd,bqT,if_false,if_true]
 have c1:bqO (nx+1)=some ⟨6,1,[[.osl 0 0 0 0 0,.osl 0 0 0 0 0,.osl 0 0 0 0 0,.osl 0 0 0 0 0,.osl 0 0 0 0 0,.osl 0 0 0 0 0]]⟩:=by rw[hG0];simp only[aA.set,t1,bqU,Nat.reduceEqDiff,Nat.reduceAdd,bqT,if_false,if_true]
 have bf3:IQ bqO (nx+13) (nx+16) (nx+7) s [] [] []:=by
  refine⟨nx+13,nx+14,nx+15,0,0,0,0,0,0,?_,⟨?_,by simp,by simp⟩,⟨?_,by simp,by simp⟩,⟨?_,by simp,by simp⟩,by omega,by omega,by omega,by omega⟩<;>rw[hG0]<;>simp only[aA.set,t1,bqU,Nat.reduceEqDiff,Nat.reduceAdd,bqT,if_false,if_true]<;>rfl
 have cfr: ∀id,id<nx→bqO id=H id:=fun id hid=>by
  rw[hG0];simp only[aA.set,t1,show ¬id=nx by omega,show ¬id=nx+1 by omega,show ¬id=nx+7 by omega,show ¬id=nx+13 by omega,show ¬id=nx+(13+1) by omega,show ¬id=nx+(13+(1+1)) by omega,Nat.reduceAdd,show ¬id=nx+14 by omega,show ¬id=nx+15 by omega,if_false]
 clear hG0
 refine aM.gP (β:=Nat) (fun k=>en [(20,boP k),(19,boP 3),(18,dS (s.bM.map cD)),(3,.one (.c (.ptr 6 (nx+7) 0 0))),(2,.one (.c (.ptr 6 (nx+1) 0 0))),(1,.one (.c (.ptr 5 nx 0 0)))])
  (fun k H1 nx1=>k≤3∧IQ H1 (nx+13) nx1 (nx+7) s ((s.bM.take k).map (·.next)) ((List.range k).flatMap (jJ s)) []∧ ∀id,id<nx+13→id≠nx+7→H1 id=bqO id)
  (fun k=>3-k) 0 ⟨noF,_,by repeat' first|exact bo2|refine xqI rfl rfl ?_|refine xqP (by omega) rfl rfl ?_|fail,aK,by omega,bf3,fun _ _ _=>rfl⟩ ?_
 rintro k H1 nx1 hnx ⟨hk,hAt,hfr⟩ bpQ hKL
 have bqC:H1 nx=some ⟨5,1,[eI s]⟩:=by rw[hfr _ (by omega) (by omega)];exact c0
 obtain⟨A,hAd⟩: ∃A,A=(s.bM.take k).map (·.next):=⟨_,rfl⟩
 obtain⟨W,hWd⟩: ∃W,W=(List.range k).flatMap (jJ s):=⟨_,rfl⟩
 have hAl:A.length=k:=by rw[hAd];simp;omega
 have hqs: ∀k,k<3→(jJ s k).length≤3:=fun k hk=>by have:=hs.q k hk;simpa [jJ] using this
 have hWl:W.length≤3*k:=by rw[hWd];exact QU k fun j hj=>hqs j (by omega)
 rw[←hAd,←hWd] at hAt
 obtain⟨ia,iw,id_,ca,cw,cd,ma,mw,md,az5,⟨az9,az2,aAD⟩,⟨aAE,aAA,aAF⟩,⟨aAC,aAB,aAG⟩,aa,ab,ac,ad⟩:=hAt
 have hA:bQ nx1 [nx,nx+1,nx+7,ia,iw,id_]:=AM.apart (by simp;omega) (by simp;omega)
 simp only[bQ,eZ] at hA
 by_cases hlt:k<3
 ·obtain⟨p,hpd⟩: ∃p,p=aF s k:=⟨_,rfl⟩
  have hpd':s.bM.getD k default=p:=hpd.symm
  have hql:=hs.q k hlt
  rw[←hpd] at hql
  repeat' first|apply bn1<;>(simp only[go_sem,boC,hpd',az5,az9,aAE,aAC,hA,List.set])|apply bn2 (by omega)| (with_reducible first|refine fun(cap:Nat) (hcap:_≤cap)=> ?_|refine fun(hcp:_≤cap)=> ?_)|refine⟨by omega,?_⟩|fail
  obtain⟨A',hA'd⟩: ∃A',A'=A++[p.next]:=⟨_,rfl⟩
  have hA'l:A'.length=A.length+1:=by rw[hA'd];simp
  refine aM.gP (β:=Nat) (fun i=>en [(35,boP i),(34,boP p.queue.length),(33,dS (p.queue.map aJ)),(20,boP k),(19,boP 3),(18,dS (s.bM.map cD)),(4,boP k),(3,.one (.c (.ptr 6 (nx+7) 0 0))),(2,.one (.c (.ptr 6 (nx+1) 0 0))),(1,.one (.c (.ptr 5 nx 0 0)))])
   (fun i H2 nx2=>i≤p.queue.length∧IQ H2 (nx+13) nx2 (nx+7) s A' (W++(jJ s k).take i) []∧ ∀id,id<nx+13→id≠nx+7→H2 id=bqO id)
   (fun i=>p.queue.length-i) 0 ⟨noF,_,by repeat' first|exact bo2|refine xqI rfl rfl ?_|refine xqP (by omega) rfl rfl ?_|fail,aK,by omega,?_,fun id boU e1=> ?_⟩ ?_
  ·rw[List.take_zero,bq6]
   refine⟨nx1+12,iw,id_,cap,cw,cd,cap,mw,md,?_,⟨?_,by omega,m5 _⟩,⟨?_,aAA,aAF⟩,⟨?_,aAB,aAG⟩,by omega,by omega,by omega,by omega⟩
   ·rw[hA'l,aA.bH];rfl
   ·rw[hA'd];simp only[aA.set,aA.del,hA,if_false,if_true]
   ·simp only[aA.set,aA.del,hA,if_false];exact aAE
   ·simp only[aA.set,aA.del,hA,if_false];exact aAC
  ·rw[aA.aC e1,aA.aC (by omega),aA.aC (by omega),aA.aC (by omega),aA.jG (by omega)]
   exact hfr id boU e1
  clear az5 az9 aAE aAC aa ab ac ad hA
  rintro i H2 nx2 hnx2 ⟨hi,hAt,hfr2⟩ bqG hKM
  obtain⟨W',hW'd⟩: ∃W',W'=W++(jJ s k).take i:=⟨_,rfl⟩
  have hW'l:W'.length≤3*k+3:=by have:=hqs k hlt;rw[hW'd,t2,CG];omega
  rw[←hW'd] at hAt
  obtain⟨ia,iw,id_,ca,cw,cd,ma,mw,md,az5,⟨az9,az2,aAD⟩,⟨aAE,aAA,aAF⟩,⟨aAC,aAB,aAG⟩,aa,ab,ac,ad⟩:=hAt
  have hA:bQ nx2 [nx,nx+1,nx+7,ia,iw,id_]:=AM.apart (by simp;omega) (by simp;omega)
  simp only[bQ,eZ] at hA
  by_cases hlt2:i<p.queue.length
  ·repeat' first|apply bn1<;>(simp only[go_sem,boC,az5,az9,aAE,aAC,hA,List.set];try simp (disch:=omega) only[Iw])|apply bn2 (by omega)| (with_reducible first|refine fun(cap:Nat) (hcap:_≤cap)=> ?_|refine fun(hcp:_≤cap)=> ?_)|refine⟨by omega,?_⟩|fail
   refine af0 (K:=bqG) fun G bqK=> ?_
   obtain⟨H',q1,q2,q3⟩:=as2 (H2:=H2) (G:=G) (hi:=nx2) (lo:=nx+13) (t:=nx+7) (s:=s) (W:=W') (D:=[]) (bpZ:=nx2+10) (nx':=nx2+15) (k:=k) (n:=p.queue.getD i default) az9 ⟨az2,aAD⟩ aAC ⟨aAB,aAG⟩ aa ab ac ad (by omega) (by omega) hcap (by rw[bqK];exact aA.bH) (by rw[bqK,aA.aC (by omega)];exact aA.bH) (fun id boU e1 e2=>by rw[bqK,aA.aC e2,aA.aC (by omega),aA.aC (by omega),aA.jG e1])
   have q4: ∀id,id<nx+13→id≠nx+7→H' id=H2 id:=fun id boU e1=>by rw[q3 id (by omega),bqK,aA.aC e1,aA.aC (by omega),aA.aC (by omega),aA.jG (by omega)]
   have hWe:W++(jJ s k).take (i+1)=W'++[(⟨k,p.queue.getD i default,oW⟩:Job)]:=by
    rw[nK (by simpa [jJ,←hpd] using hlt2),←C0,←hW'd]
    congr 2
    simp[jJ,←hpd,List.getD,hlt2]
   exact hKM _ _ _ (i+1) noF H' (by omega) (by omega) (by repeat' first|exact bo2|refine xqI rfl rfl ?_|refine xqP (by omega) rfl rfl ?_|fail) q1 ⟨by omega,by rw[hWe];exact q2,fun id boU e1=>(q4 id boU e1).trans (hfr2 id boU e1)⟩
  ·repeat' first|apply bn1<;>(simp only[go_sem];try simp (disch:=omega) only[Iw])|apply bn3 (by omega)|fail
   have hi2:i=p.queue.length:=by omega
   have hWe:W'=(List.range (k+1)).flatMap (jJ s):=by
    rw[hW'd,CL,←hWd,boL (by simp[jJ,←hpd];omega)]
   have hAe:A'=(s.bM.take (k+1)).map (·.next):=by
    rw[hA'd,nK (by omega),bqX,←hAd];rw[←hpd'];rfl
   exact hKL _ _ _ (k+1) noF _ (by omega) (by omega) (by repeat' first|exact bo2|refine xqI rfl rfl ?_|refine xqP (by omega) rfl rfl ?_|fail) aK ⟨by omega,by rw[←hWe,←hAe];exact⟨ia,iw,id_,ca,cw,cd,ma,mw,md,az5,⟨az9,az2,aAD⟩,⟨aAE,aAA,aAF⟩,⟨aAC,aAB,aAG⟩,by omega,ab,ac,ad⟩,hfr2⟩
 ·repeat' first|apply bn1<;>(simp only[go_sem,bqC])|apply bn3 (by omega)|fail
  have hk3:k=3:=by omega
  subst hk3
  have hvs: ∀k,k<N→(hJ s k).length≤3∧(aL s k).done.length≤3:=fun k hk=>⟨by have:=(hs.v k (by omega)).1;simpa [hJ] using this,(hs.v k (by omega)).2⟩
  refine aM.gP (β:=Nat) (fun k=>en [(52,boP k),(51,boP N),(50,dS (s.dD.map gF)),(3,.one (.c (.ptr 6 (nx+7) 0 0))),(2,.one (.c (.ptr 6 (nx+1) 0 0)))])
   (fun k H1 nx1=>k≤N∧IQ H1 (nx+13) nx1 (nx+7) s A (W++(List.range k).flatMap (hJ s)) ((List.range k).flatMap fun k=>(aL s k).done)∧ ∀id,id<nx+13→id≠nx+7→H1 id=bqO id)
   (fun k=>N-k) 0 ⟨noF,_,by repeat' first|exact bo2|refine xqI rfl rfl ?_|refine xqP (by omega) rfl rfl ?_|refine xqV rfl (by omega) ?_|fail,aK,by omega,?_,hfr⟩ ?_
  ·simp only[List.range_zero,List.flatMap_nil,bq6]
   exact⟨ia,iw,id_,ca,cw,cd,ma,mw,md,az5,⟨az9,az2,aAD⟩,⟨aAE,aAA,aAF⟩,⟨aAC,aAB,aAG⟩,by omega,ab,ac,ad⟩
  clear az5 az9 aAE aAC aa ab ac ad hA hfr bqC
  rintro k H2 nx2 hnx2 ⟨hk,hAt,hfr⟩ bqG hKM
  obtain⟨W',hW'd⟩: ∃W',W'=W++(List.range k).flatMap (hJ s):=⟨_,rfl⟩
  obtain⟨D,hDd⟩: ∃D,D=(List.range k).flatMap fun k=>(aL s k).done:=⟨_,rfl⟩
  have hW'l:W'.length≤9+3*k:=by
   have:=QU (f:=hJ s) (m:=3) k fun j hj=>(hvs j (by omega)).1
   rw[hW'd,t2];omega
  have hDl:D.length≤3*k:=by rw[hDd];exact QU k fun j hj=>(hvs j (by omega)).2
  rw[←hW'd,←hDd] at hAt
  obtain⟨ia,iw,id_,ca,cw,cd,ma,mw,md,az5,⟨az9,az2,aAD⟩,⟨aAE,aAA,aAF⟩,⟨aAC,aAB,aAG⟩,aa,ab,ac,ad⟩:=hAt
  by_cases hlt:k<N
  ·obtain⟨v,hvd⟩: ∃v,v=aL s k:=⟨_,rfl⟩
   have hvd':s.dD.getD k default=v:=hvd.symm
   obtain⟨hv1,hv2⟩:=hvs k hlt
   have hv1':v.pipe.length≤3:=by simpa [hJ,←hvd] using hv1
   rw[←hvd] at hv2
   repeat' first|apply bn1<;>(simp only[go_sem,boC,hvd',az5,List.set])|apply bn2 (by omega)|refine⟨by omega,?_⟩|fail
   refine aM.gP (β:=Nat) (fun i=>en [(59,boP i),(58,boP v.pipe.length),(57,dS (v.pipe.map eCJ)),(52,boP k),(51,boP N),(50,dS (s.dD.map gF)),(9,.one (.c (.ptr 3 (nx2+3) 0 0))),(3,.one (.c (.ptr 6 (nx+7) 0 0))),(2,.one (.c (.ptr 6 (nx+1) 0 0)))])
    (fun i H3 nx3=>i≤v.pipe.length∧IQ H3 (nx+13) nx3 (nx+7) s A (W'++(hJ s k).take i) D∧H3 (nx2+3)=some ⟨3,1,[gF v]⟩∧ ∀id,id<nx+13→id≠nx+7→H3 id=bqO id)
    (fun i=>v.pipe.length-i) 0 ⟨noF,_,by repeat' first|exact bo2|refine xqI rfl rfl ?_|refine xqP (by omega) rfl rfl ?_|fail,aK,by omega,?_,aA.bH,fun id boU e1=>by rw[aA.aC (by omega)];exact hfr id boU e1⟩ ?_
   ·rw[List.take_zero,bq6]
    refine IQ.frame (hi:=nx2) ⟨ia,iw,id_,ca,cw,cd,ma,mw,md,az5,⟨az9,az2,aAD⟩,⟨aAE,aAA,aAF⟩,⟨aAC,aAB,aAG⟩,aa,ab,ac,ad⟩ (by omega) (by omega) fun id boU _=>aA.aC (by omega)
   clear az5 az9 aAE aAC aa ab ac ad hfr
   rintro i H3 nx3 hnx3 ⟨hi,hAt,bp5,hfr⟩ bqR hKN
   obtain⟨bf4,hW3d⟩: ∃bf4,bf4=W'++(hJ s k).take i:=⟨_,rfl⟩
   have hW3l:bf4.length≤12+3*k:=by rw[hW3d,t2,CG];omega
   rw[←hW3d] at hAt
   obtain⟨ia,iw,id_,ca,cw,cd,ma,mw,md,az5,⟨az9,az2,aAD⟩,⟨aAE,aAA,aAF⟩,⟨aAC,aAB,aAG⟩,aa,ab,ac,ad⟩:=hAt
   have bp0:nx2+3≠ia:=fun he=>by rw[←he,bp5] at az9;simp at az9
   have n2:nx2+3≠iw:=fun he=>by rw[←he,bp5] at aAE;simp at aAE
   have bqP:nx2+3≠id_:=fun he=>by rw[←he,bp5] at aAC;simp at aAC
   have hA:bQ nx3 [nx,nx+1,nx+7,nx2+3,ia,iw,id_]:=AM.apart (by simp;omega) (by simp;omega)
   simp only[bQ,eZ] at hA
   by_cases hlt2:i<v.pipe.length
   ·repeat' first|apply bn1<;>(simp only[go_sem,boC,az5,az9,aAE,aAC,bp5,hA,List.set];try simp (disch:=omega) only[Iw])|apply bn2 (by omega)| (with_reducible first|refine fun(cap:Nat) (hcap:_≤cap)=> ?_|refine fun(hcp:_≤cap)=> ?_)|refine⟨by omega,?_⟩|fail
    refine af0 (K:=bqR) fun G bqK=> ?_
    obtain⟨H',q1,q2,q3⟩:=as2 (H2:=H3) (G:=G) (hi:=nx3) (lo:=nx+13) (t:=nx+7) (s:=s) (W:=bf4) (D:=D) (bpZ:=nx3+13) (nx':=nx3+18) (k:=(v.pipe.getD i default).who) (n:=(v.pipe.getD i default).n) az9 ⟨az2,aAD⟩ aAC ⟨aAB,aAG⟩ aa ab ac ad (by omega) (by omega) hcap (by rw[bqK];exact aA.bH) (by rw[bqK,aA.aC (by omega)];exact aA.bH) (fun id boU e1 e2=>by rw[bqK,aA.aC e2,aA.aC (by omega),aA.aC (by omega),aA.aC (by omega),aA.jG e1])
    have q4: ∀id,id<nx+13→id≠nx+7→H' id=H3 id:=fun id boU e1=>by rw[q3 id (by omega),bqK,aA.aC e1,aA.aC (by omega),aA.aC (by omega),aA.aC (by omega),aA.jG (by omega)]
    have hWe:W'++(hJ s k).take (i+1)=bf4++[(⟨(v.pipe.getD i default).who,(v.pipe.getD i default).n,oW⟩:Job)]:=by
     rw[nK (by simpa [hJ,←hvd] using hlt2),←C0,←hW3d]
     congr 2
     simp[hJ,←hvd,List.getD,hlt2]
    exact hKN _ _ _ (i+1) noF H' (by omega) (by omega) (by repeat' first|exact bo2|refine xqI rfl rfl ?_|refine xqP (by omega) rfl rfl ?_|fail) q1 ⟨by omega,by rw[hWe];exact q2,by rw[q3 _ (by omega),bqK,aA.aC (by omega),aA.aC (by omega),aA.aC (by omega),aA.aC (by omega),aA.jG n2];exact bp5,fun id boU e1=>(q4 id boU e1).trans (hfr id boU e1)⟩
   ·have hi2:i=v.pipe.length:=by omega
    have hWe:bf4=W++(List.range (k+1)).flatMap (hJ s):=by
     rw[hW3d,CL,←C0,←hW'd,boL (by simp[hJ,←hvd];omega)]
    repeat' first|apply bn1<;>(simp only[go_sem,boC,az5,az9,aAE,aAC,bp5,hA,List.set];try simp (disch:=omega) only[Iw])|apply bn3 (by omega)| (with_reducible first|refine fun(cap:Nat) (hcap:_≤cap)=> ?_|refine fun(hcp:_≤cap)=> ?_)|refine⟨by omega,?_⟩|fail
    have hDe:D++v.done=(List.range (k+1)).flatMap fun k=>(aL s k).done:=by rw[CL,←hDd,hvd]
    have hcp:D.length+v.done.length≤cap:=by omega
    refine hKM _ _ _ (k+1) noF _ (by omega) (by omega) (by repeat' first|exact bo2|refine xqI rfl rfl ?_|refine xqP (by omega) rfl rfl ?_|fail) aK ⟨by omega,?_,fun id boU e1=>by rw[aA.aC e1,aA.aC (by omega),aA.jG (by omega)];exact hfr id boU e1⟩
    rw[←hWe,←hDe]
    refine⟨ia,iw,nx3+5,ca,cw,cap,ma,mw,cap,?_,⟨?_,az2,aAD⟩,⟨?_,aAA,aAF⟩,⟨?_,by simpa using hcp,m5 _⟩,by omega,by omega,by omega,by omega⟩
    ·rw[aA.bH,t2]
    ·rw[aA.aC (by omega),aA.aC (by omega),aA.jG ac];exact az9
    ·rw[aA.aC (by omega),aA.aC (by omega),aA.jG ad];exact aAE
    ·rw[aA.aC (by omega),aA.bH,bqX]
  ·repeat' first|apply bn1<;>(simp only[go_sem,az5])|apply bn3 (by omega)|fail
   have hk4:k=N:=by omega
   subst hk4
   have hwt:W'=qU s:=by rw[hW'd,hWd];unfold qU;rw[hpl,←hN]
   have hdt:D=uQ s:=by rw[hDd];unfold uQ;rw[←hN]
   have hAt:A=s.bM.map (·.next):=by rw[hAd,boL (by omega)]
   have hwl20:=hs.wl
   have hdl20:=hs.dl
   rw[←hwt] at hwl20
   rw[←hdt] at hdl20
   refine a3D (l:=W') (by omega) (by omega) aAE fun H3 nx3 hx3 bpT ffr=> ?_
   have bfZ:=(ffr (nx+7) (by omega) (by omega)).trans az5
   have bpR:=(ffr ia (by omega) ab).trans az9
   have bpW:=(ffr id_ (by omega) ad.symm).trans aAC
   simp only[go_sem]
   repeat' first|apply bn1<;>(simp only[go_sem,bfZ])|fail
   refine a3D (l:=D) (by omega) (by omega) bpW fun bqL nx4 hx4 e7 efr=> ?_
   have boU:=(efr (nx+7) (by omega) (by omega)).trans bfZ
   have e1:=(efr ia (by omega) ac).trans bpR
   have e4:=(efr iw (by omega) ad).trans bpT
   have ex:=((efr (nx+1) (by omega) (by omega)).trans ((ffr (nx+1) (by omega) (by omega)).trans ((hfr _ (by omega) (by omega)).trans c1)))
   have elo: ∀id,id<nx→bqL id=H id:=fun id hid=>(efr id (by omega) (by omega)).trans ((ffr id (by omega) (by omega)).trans ((hfr id (by omega) (by omega)).trans (cfr id hid)))
   simp only[go_sem]
   try apply bn0
   have hlw:(jX W').length=W'.length:=(fH _).length_eq
   have hld:(jX D).length=D.length:=(fH _).length_eq
   have heS:eSt (cX s)=[.isl (s.words.map aJ),.isl (s.holds.map aJ),.isl (A.map aJ),.isl ((jX W').map aS),.isl ((jX D).map aS),.isl (s.told.map aS)]:=by rw[hAt,hwt,hdt];rfl
   obtain⟨aZJ,hH5⟩: ∃aZJ:aA,aZJ=fun j=>if j=ia∨j=iw∨j=id_ then none else if j=nx+7 then some ⟨6,1,[eSt (cX s)]⟩ else bqL j:=⟨_,rfl⟩
   have q5: ∀j,j≠ia→j≠iw→j≠id_→j≠nx+7→aZJ j=bqL j:=fun j h1 h2 h3 h4=>by rw[hH5];simp only[h1,h2,h3,h4,or_self,if_false]
   have bqJ:aZJ (nx+7)=some ⟨6,1,[eSt (cX s)]⟩:=by rw[hH5];simp only[show ¬nx+7=ia by omega,show ¬nx+7=iw by omega,show ¬nx+7=id_ by omega,or_self,if_false,if_true]
   refine aM.tW _ aZJ (fun j=>j=ia∨j=iw∨j=id_) (fun t=>.inl rfl) (apO (t:=nx+7) (fun j hj=>by rw[hH5];simp only[hj,if_true]) bqJ boU (by omega) (aP ?_) fun j h1 h2=>q5 j (fun h=>h2 (.inl h)) (fun h=>h2 (.inr (.inl h))) (fun h=>h2 (.inr (.inr h))) h1) ?_
   ·rw[heS]
    exact aH (bB rfl) (aH (bB rfl) (aH (bW bF e1 rfl az2 (.inl rfl)) (aH (bW dZ e4 hlw.symm (by omega) (.inr (.inl rfl))) (aH (bW dZ e7 hld.symm (by omega) (.inr (.inr rfl))) (aH (bB rfl) eP)))))
   have qx:=(q5 (nx+1) (by omega) (by omega) (by omega) (by omega)).trans ex
   have qlo: ∀id,id<nx→aZJ id=H id:=fun id hid=>(q5 id (by omega) (by omega) (by omega) (by omega)).trans (elo id hid)
   have hst:=hs.st
   have hz: ∀k,(nx=nx4+k)=False:=fun k=>eq_false (by omega)
   generalize hS:cX s=S at*
   repeat' first| (first|apply bn1|refine a43 (s:=S) hst (fun m0 m1 bp3 bqM bqN bqQ hm=> ?_))<;>(simp only[go_sem,t1,bqT,bqJ,qx,hz,oIm])|fail
   refine hQ _ _ _ _ _ (.inr rfl) (fZ rfl aA.bH rfl) ⟨boR (eSt S),_,fun j=>nx4+3≤j∧j<nx4+3+6,lY (aH (bW bF (m:=m0) (by simp only[aA.set,bqU,Nat.reduceEqDiff,show ¬nx4+3=nx+1 by omega,if_false,if_true]) rfl (m5 _) (by omega)) (aH (bW bF (m:=m1) (by simp only[aA.set,bqU,Nat.reduceEqDiff,show ¬nx4+4=nx+1 by omega,if_false,if_true]) rfl (m5 _) (by omega)) (aH (bW bF (m:=bp3) (by simp only[aA.set,bqU,Nat.reduceEqDiff,show ¬nx4+5=nx+1 by omega,if_false,if_true]) rfl (m5 _) (by omega)) (aH (bW dZ (m:=bqM) (by simp only[aA.set,bqU,Nat.reduceEqDiff,show ¬nx4+6=nx+1 by omega,if_false,if_true]) rfl (m5 _) (by omega)) (aH (bW dZ (m:=bqN) (by simp only[aA.set,bqU,Nat.reduceEqDiff,show ¬nx4+7=nx+1 by omega,if_false,if_true]) rfl (m5 _) (by omega)) (aH (bW dZ (m:=bqQ) (by simp only[aA.set,bqU,Nat.reduceEqDiff,show ¬nx4+8=nx+1 by omega,if_false,if_true]) rfl (m5 _) (by omega)) eP)))))),ZW,h _ _ (by omega) fun id hid=> ?_⟩
   rw[acA (by omega),aA.aC (by omega),aA.aC (by omega),aA.aC (by omega),aA.aC (by omega),aA.aC (by omega),aA.aC (by omega),aA.aC (by omega)]
   exact qlo id hid
end
end Go.Proofs.YtmccpdapaccnoaaGreat
namespace Go.AM
noncomputable def ptB (c:Cfg) (who:Nat) (p:fR):Bool:=@decide (mD c who p) (Classical.propDecidable _)
variable{who:Nat}
theorem beT{c:Cfg}{p:fR} (h:mD c who p):ptB c who p=true:=by simp[ptB,h]
theorem a8A{c:Cfg}{p:fR} (h: ¬mD c who p):ptB c who p=false:=by simp[ptB,h]
def a5K (c:Cfg) (who:Nat) (p:fR) (j:fC):Prop:=j.who=who∧(0≤j.n∧j.n<p.next-p.queue.length)∧j.left=gZ c.map (bT c who j.n)
structure beI (c:Cfg) (who:Nat) (p:fR) (k:Nat) (last:Int) (M:List (List Int×Int)):Prop where
 all: ∀i,i<k→a5K c who p (p.out.getD i default)
 srt: ∀i j,i<j→j<k→(p.out.getD i default).n<(p.out.getD j default).n
 lst:(k=0∧last= -1)∨(0<k∧last=(p.out.getD (k-1) default).n)
 ids: ∀i,i<k→jT M [(bT c who (p.out.getD i default).n).id]=some (p.out.getD i default).left
 plc:XM c who p.out k M
theorem beI.next {c:Cfg} {who:Nat} {p:fR} {k:Nat} {last:Int} {M:List (List Int×Int)} (h:beI c who p k last M) (hk:k<p.out.length) {j:fC} (hj:j=p.out.getD k default) (h1:a5K c who p j) (h2:last<j.n)
 (h3: ∀v,jT M [(bT c who j.n).id]=some v→v=j.left):beI c who p (k+1) j.n (vA M [(bT c who j.n).id] j.left):=by
 subst hj
 refine⟨iS h.all h1,fun i j hij hj=> ?_,.inr ⟨by omega,by simp⟩,fun i hi=> ?_,h.plc.next hk⟩
 ·by_cases hjk:j<k
  ·exact h.srt i j hij hjk
  ·obtain rfl:j=k:=by omega
   rcases h.lst with⟨h0,_⟩|⟨h0,h4⟩
   ·omega
   ·by_cases hi:i=j-1
    ·subst hi;omega
    ·have:=h.srt i (j-1) (by omega) (by omega);omega
 ·rw[agO]
  by_cases hik:i<k
  ·have h4:=h.ids i hik
   split
   ·rename_i he
    simp only[List.cons.injEq,and_true] at he
    rw[he] at h4
    rw[h3 _ h4]
   ·exact h4
  ·obtain rfl:i=k:=by omega
   simp
theorem beI.end{c:Cfg}{p:fR}{last:Int}{M:List (List Int×Int)} (h:beI c who p p.out.length last M):(∀j∈p.out,a5K c who p j)∧(p.out.Pairwise fun a b=>a.n<b.n)∧ ∀a∈p.out,∀b∈p.out,(bT c who a.n).id=(bT c who b.n).id→a.left=b.left:=by
 have hg: ∀i (hi:i<p.out.length),p.out.getD i default=p.out[i]:=fun i hi=>by simp[List.getD,hi]
 refine⟨fun j hj=> ?_,Z6.2 fun i j hi hj hij=> ?_,fun a ha b hb he=> ?_⟩
 ·obtain⟨i,hi,rfl⟩:=bqY.1 hj
  rw[←hg i hi];exact h.all i hi
 ·rw[←hg i hi,←hg j hj];exact h.srt i j hij hj
 ·obtain⟨i,hi,rfl⟩:=bqY.1 ha
  obtain⟨j,hj,rfl⟩:=bqY.1 hb
  have h1:=h.ids i hi
  have h2:=h.ids j hj
  rw[hg] at h1 h2
  rw[he,h2] at h1
  exact(Option.some.inj h1).symm
theorem beI.bad{c:Cfg}{p:fR}{k:Nat}{last:Int}{M:List (List Int×Int)} (h:beI c who p k last M) (hk:k<p.out.length) (hp:mD c who p):a5K c who p (p.out.getD k default)∧last<(p.out.getD k default).n∧ ∀v,jT M [(bT c who (p.out.getD k default).n).id]=some v→v=(p.out.getD k default).left:=by
 have hm:=cC hk
 have ho:=hp.out _ hm
 refine⟨ho,?_,fun v hv=> ?_⟩
 ·rcases h.lst with⟨h0,h1⟩|⟨h0,h1⟩
  ·omega
  ·have:=Z6.1 hp.acX (k-1) k (by omega) hk (by omega)
   rw[h1];simpa [List.getD,hk,show k-1<p.out.length by omega] using this
 ·obtain⟨j',h1,h2,h3⟩:=h.plc _ _ hv
  rw[←h3]
  exact hp.akF j' (List.mem_of_mem_take h1) _ hm h2
end Go.AM
namespace Go.Proofs.YtmccpdapaccnoaaGreat
open Go Go.AM
attribute [local irreducible] aM wv aB vd wvH
section
variable {H : aA} {nx : Nat} {K : D → aA → Nat → Prop}
theorem a5J (c:Cfg) (who:Nat) (p:fR) (hb:aQ c) (hw:who<3) (hpq:p.queue.length<2^21) (hpo:p.out.length<2^21):aB Tryz.prog jK [boR (cU c),boP who,boR (cD p)] .nil 0 fun r _ _=>r.plain=true∧r=dB (ptB c who p):=by
 refine EG rfl fun Q hQ=> ?_
 unfold lL
 obtain⟨hp3,hpr⟩:=hC hb
 have hprw:=hpr who
 have hml:=hb.1.1
 by_cases h0:(0≤p.next∧p.next≤(c.cP.getD who default).length)∧((p.queue.length:Int)≤2∧(p.queue.length:Int)≤p.next)∧(p.out.length:Int)≤4∧0≤p.last∧p.last≤3
 case neg=>
  have hno: ¬mD c who p:=fun h=>h0 ⟨h.next,by have:=h.ql;omega,by have:=h.ol;omega,h.last⟩
  repeat' first| (first|apply bn1|refine bpL (fun h=> ?_) fun h=> ?_|apply fE)<;>(simp only[go_sem])|apply bn2 (by omega)|refine⟨by omega,?_⟩|fail
  all_goals first|exact hQ _ _ _ _ _ (.inr rfl) rfl ⟨rfl,congrArg dB (a8A hno).symm⟩| (exfalso;omega)
 obtain⟨⟨hn1,hn2⟩,⟨hq1,hq2⟩,hol,hl1,hl2⟩:=h0
 have hd1:=decide_eq_true (show 0≤p.next∧p.next≤(c.cP.getD who default).length from ⟨hn1,hn2⟩)
 have hd2:=decide_eq_true (show 0≤p.last∧p.last≤3 from ⟨hl1,hl2⟩)
 repeat' first| (first|apply bn1|apply bpK (by omega)|apply fE)<;>(simp only[go_sem,hd1,hd2];try simp (disch:=omega) only[Iw])|refine⟨by omega,?_⟩|fail
 refine aM.abC fun bqO hG0=> ?_
 have c0:bqO 0=some ⟨3,1,[cU c]⟩:=by rw[hG0];rfl
 have c1:bqO 1=some ⟨4,1,[cD p]⟩:=by rw[hG0];rfl
 clear hG0
 refine aM.gP (β:=Nat) (fun k=>en [(57,boP k),(56,boP p.queue.length),(55,dS (p.queue.map aJ)),(7,boP (p.next-p.queue.length)),(5,.one (.c (.ptr 4 1 0 0))),(3,.one (.c (.ptr 3 0 0 0))),(1,boP who)])
  (fun k H1 _=>k≤p.queue.length∧(∀i,i<k→p.queue.getD i default=p.next-p.queue.length+i)∧ ∀id,id<45→H1 id=bqO id) (fun k=>p.queue.length-k) 0 ⟨noF,_,by repeat' first|exact bo2|refine xqI rfl rfl ?_|refine xqP (by omega) rfl rfl ?_|fail,aK,by omega,fun i hi=>by omega,fun _ _=>rfl⟩ ?_
 rintro k H1 nx1 hnx ⟨hk,hqi,hfr⟩ bpQ hKL
 have bqC:H1 0=some ⟨3,1,[cU c]⟩:=by rw[hfr _ (by omega)];exact c0
 have g1:H1 1=some ⟨4,1,[cD p]⟩:=by rw[hfr _ (by omega)];exact c1
 have hA:bQ nx1 [0,1]:=AM.apart (by simp) (by simp;omega)
 simp only[bQ,eZ] at hA
 by_cases hlt:k<p.queue.length
 ·by_cases hqk:p.queue.getD k default=p.next-p.queue.length+k
  ·repeat' first|apply bn1<;>(simp only[go_sem];try simp (disch:=omega) only[Iw])|apply bn2 (by omega)|apply bn3 (by omega)|refine⟨by omega,?_⟩|fail
   exact hKL _ _ _ (k+1) noF _ (by omega) (by omega) (by repeat' first|exact bo2|refine xqI rfl rfl ?_|refine xqP (by omega) rfl rfl ?_|fail) aK ⟨by omega,iS hqi hqk,hfr⟩
  ·repeat' first|apply bn1<;>(simp only[go_sem];try simp (disch:=omega) only[Iw])|apply bn2 (by omega)|refine⟨by omega,?_⟩|fail
   exact hQ _ _ _ _ _ (.inr rfl) rfl ⟨rfl,congrArg dB (a8A fun h=>hqk (h.queue k hlt)).symm⟩
 ·have hk2:k=p.queue.length:=by omega
  rw[hk2] at hqi
  repeat' first|apply bn1<;>(simp only[go_sem,t1,bqT,bqC,g1,hA])|apply bn3 (by omega)|fail
  have hom: ∀{H:aA} {F:Nat→Prop} {nh:Nat},nx1+8≤nh→Cv1 H F id nh (.omap (nx1+2)) (.omap (nx1+2)):=fun h=>.omap _ (by omega)
  refine aM.gP (β:=Nat×Int×List (List Int×Int)) (fun u=>en [(72,boP u.1),(71,boP p.out.length),(70,dS (p.out.map eCJ)),(11,.one (.c (.omap (nx1+2)))),(10,boP u.2.1),(7,boP (p.next-p.queue.length)),(3,.one (.c (.ptr 3 0 0 0))),(1,boP who)])
   (fun u H2 _=>u.1≤p.out.length∧H2 0=some ⟨3,1,[cU c]⟩∧H2 (nx1+2)=some (u4 ⟨0,false,u.2.2⟩)∧beI c who p u.1 u.2.1 u.2.2) (fun u=>p.out.length-u.1) (0,-1,[])
   ⟨noF,_,by(repeat' first|exact bo2|refine xqI rfl rfl ?_|refine xqP (by omega) rfl rfl ?_| (with_reducible apply bo3)| ((with_reducible apply bo0);exact bpD (by omega) rfl)| ((with_reducible apply bo1);apply bo7)|fail);all_goals exact hom (by omega),aK,by dsimp only;omega,by rw[aA.aC (by omega)];exact bqC,aA.bH,⟨fun i hi=>by dsimp only at hi;omega,fun i j _ hj=>by dsimp only at hj;omega,.inl ⟨rfl,rfl⟩,fun i hi=>by dsimp only at hi;omega,fun i v hv=>by simp[jT] at hv⟩⟩ ?_
  rintro⟨k,last,M⟩ H2 nx2 hnx2 ⟨hk,bfZ,fm,hI⟩ bqG hKM
  dsimp only at hk fm hI
  have hA2:bQ nx2 [0,nx1+2]:=AM.apart (by simp) (by simp;omega)
  simp only[bQ,eZ] at hA2
  by_cases hlt:k<p.out.length
  ·have hla: -1≤last∧last≤1000:=by
    rcases hI.lst with⟨_,h⟩|⟨h0,h⟩
    ·omega
    ·have:=(hI.all (k-1) (by omega)).2.1;omega
   have hno: ¬(a5K c who p (p.out.getD k default)∧last<(p.out.getD k default).n∧ ∀v,jT M [(bT c who (p.out.getD k default).n).id]=some v→v=(p.out.getD k default).left)→¬mD c who p:=fun h hp=>h (hI.bad hlt hp)
   have hnx3:=fun j hj=>hI.next hlt (j:=j) hj
   generalize hjd:p.out.getD k default=j at hno hnx3
   by_cases hj1:j.who=who
   case neg=>
    have e1:(j.who=(who:Int))=False:=eq_false hj1
    repeat' first|apply bn1<;>(simp only[go_sem,t1,bqT,hjd,e1,bfZ,fm,hA2])|apply bn2 (by omega)|refine⟨by omega,?_⟩|fail
    all_goals exact hQ _ _ _ _ _ (.inr rfl) rfl ⟨rfl,congrArg dB (a8A (hno fun h=>hj1 h.1.1)).symm⟩
   have e1:(j.who=(who:Int))=True:=eq_true hj1
   by_cases hj2:last+1≤j.n∧j.n≤p.next-p.queue.length-1
   case neg=>
    have hd3:=decide_eq_false hj2
    repeat' first| (first|apply bn1|apply fE)<;>(simp only[go_sem,t1,bqT,hjd,e1,hd3,bfZ,fm,hA2];try simp (disch:=omega) only[Iw])|apply bn2 (by omega)|refine⟨by omega,?_⟩|fail
    all_goals exact hQ _ _ _ _ _ (.inr rfl) rfl ⟨rfl,congrArg dB (a8A (hno fun h=>hj2 (by have h1:=h.1.2.1;have h2:=h.2.1;omega))).symm⟩
   have hd3:=decide_eq_true hj2
   have hask:oA c who j.n:=⟨by omega,by omega,by rw[Int.toNat_natCast];omega⟩
   obtain⟨hk1,hk2,hk3⟩:=hask
   have hsv:gZ c.map (List.getD (c.cP.getD who default) j.n.toNat default)=gZ c.map (bT c who j.n):=rfl
   by_cases hj3:j.left=gZ c.map (bT c who j.n)
   case neg=>
    have e3:(j.left=gZ c.map (bT c who j.n))=False:=eq_false hj3
    repeat' first| (first|apply bn1|apply fE|apply DE (by omega))<;>(simp only[go_sem,t1,bqT,hjd,e1,hd3,hsv,e3,bfZ,fm,hA2];try simp (disch:=omega) only[Iw])|apply bn2 (by omega)|refine⟨by omega,?_⟩|fail
    all_goals exact hQ _ _ _ _ _ (.inr rfl) rfl ⟨rfl,congrArg dB (a8A (hno fun h=>hj3 h.1.2.2)).symm⟩
   have e3:(j.left=gZ c.map (bT c who j.n))=True:=eq_true hj3
   have hok:a5K c who p j:=⟨hj1,by omega,hj3⟩
   cases hgm:jT M [(bT c who j.n).id] with
   |none=>
    have hI2:=hnx3 j rfl hok (by omega) fun v hv=>by rw[hgm] at hv;cases hv
    repeat' first| (first|apply bn1|apply fE|apply DE (by omega)|refine iJ hp3 ⟨hk1,hk2,hk3⟩ ?_)<;>(simp only[go_sem,t1,bqT,hjd,e1,hd3,hsv,e3,bfZ,fm,hA2,hgm,Option.isSome,Option.getD];try simp (disch:=omega) only[Iw])|apply bn2 (by omega)|refine⟨by omega,?_⟩|fail
    exact hKM _ _ _ (k+1,j.n,vA M [(bT c who j.n).id] j.left) noF _ (by omega) (by dsimp only;omega) (by(repeat' first|exact bo2|refine xqI rfl rfl ?_|refine xqP (by omega) rfl rfl ?_| (with_reducible apply bo3)| ((with_reducible apply bo0);exact bpD (by omega) rfl)| ((with_reducible apply bo1);apply bo7)|fail);all_goals exact hom (by omega)) aK ⟨by dsimp only;omega,by rw[aA.aC (by omega),aA.aC (by omega)];exact bfZ,aA.bH,hI2⟩
   |some v=>
    by_cases hj4:v=j.left
    case neg=>
     have e4:(v=j.left)=False:=eq_false hj4
     repeat' first| (first|apply bn1|apply fE|apply DE (by omega)|refine iJ hp3 ⟨hk1,hk2,hk3⟩ ?_)<;>(simp only[go_sem,t1,bqT,hjd,e1,hd3,hsv,e3,e4,bfZ,fm,hA2,hgm,Option.isSome,Option.getD];try simp (disch:=omega) only[Iw])|apply bn2 (by omega)|refine⟨by omega,?_⟩|fail
     all_goals exact hQ _ _ _ _ _ (.inr rfl) rfl ⟨rfl,congrArg dB (a8A (hno fun h=>hj4 (h.2.2 _ hgm))).symm⟩
    subst hj4
    have hI2:=hnx3 j rfl hok (by omega) fun v hv=>by rw[hgm] at hv;exact(Option.some.inj hv).symm
    repeat' first| (first|apply bn1|apply fE|apply DE (by omega)|refine iJ hp3 ⟨hk1,hk2,hk3⟩ ?_)<;>(simp only[go_sem,t1,bqT,hjd,e1,hd3,hsv,e3,bfZ,fm,hA2,hgm,Option.isSome,Option.getD];try simp (disch:=omega) only[Iw])|apply bn2 (by omega)|refine⟨by omega,?_⟩|fail
    exact hKM _ _ _ (k+1,j.n,vA M [(bT c who j.n).id] j.left) noF _ (by omega) (by dsimp only;omega) (by(repeat' first|exact bo2|refine xqI rfl rfl ?_|refine xqP (by omega) rfl rfl ?_| (with_reducible apply bo3)| ((with_reducible apply bo0);exact bpD (by omega) rfl)| ((with_reducible apply bo1);apply bo7)|fail);all_goals exact hom (by omega)) aK ⟨by dsimp only;omega,by rw[aA.aC (by omega),aA.aC (by omega)];exact bfZ,aA.bH,hI2⟩
  ·repeat' first|apply bn1<;>(simp only[go_sem])|apply bn3 (by omega)|fail
   have hk2:k=p.out.length:=by omega
   rw[hk2] at hI
   obtain⟨q1,q2,q3⟩:=hI.end
   exact hQ _ _ _ _ _ (.inr rfl) rfl ⟨rfl,congrArg dB (beT ⟨⟨hn1,hn2⟩,by omega,by omega,⟨hl1,hl2⟩,hqi,q1,q2,q3⟩).symm⟩
theorem a2P {c:Cfg} {who:Nat} {p:fR} (hb:aQ c) (hw:who<3) (hpq:p.queue.length<2^21) (hpo:p.out.length<2^21) (h:K (dB (ptB c who p)) H nx):aB Tryz.prog jK [boR (cU c),boP who,boR (cD p)] H nx K:=
 (a5J c who p hb hw hpq hpo).pure rfl (aI ⟨aE rfl,aE rfl,aE rfl,trivial⟩) fun r hr=>hr▸h
end
end Go.Proofs.YtmccpdapaccnoaaGreat
