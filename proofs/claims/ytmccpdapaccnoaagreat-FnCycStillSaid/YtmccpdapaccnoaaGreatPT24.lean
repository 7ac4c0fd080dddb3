/- Texts laid together by a program: rules, contracts and the walk that leads to the law. -/
import Derived.Test.YtmccpdapaccnoaaGreatPT23
import Derived.Test.YtmccpdapaccnoaaGreatPT15
import Derived.Test.YtmccpdapaccnoaaGreatPT14
import Derived.Test.YtmccpdapaccnoaaGreatPT8
import Derived.Test.YtmccpdapaccnoaaGreatPT21
import Derived.Test.YtmccpdapaccnoaaGreatPT22
import Derived.Test.YtmccpdapaccnoaaGreatPT3
import Derived.Test.YtmccpdapaccnoaaGreatPT11
set_option linter.unusedVariables false
set_option linter.unusedSimpArgs false
set_option linter.unusedSectionVars false
set_option maxRecDepth 100000
set_option maxHeartbeats 8000000
namespace Go.Proofs.YtmccpdapaccnoaaGreat
open Go Go.AM
attribute [local irreducible] aM wv aB vd wvH
theorem aTC{a b c:Job} (h1:uL a b=true) (h2:uL b c=true):uL a c=true:=by
 rw[qL] at*;omega
variable{l:List Job}
theorem aTV (h: ∀i,i<l.length→0<i→uL (l.getD (i-1) default) (l.getD i default)=true):kW l:=by
 have key: ∀d i,i+d+1<l.length→uL (l.getD i default) (l.getD (i+d+1) default)=true:=by
  intro d
  induction d with
  |zero=>exact fun i hi=>h (i+1) hi (by omega)
  |succ d ih=>exact fun i hi=>aTC (ih i (by omega)) (h (i+d+1+1) hi (by omega))
 refine Z6.2 fun i j hi hj hij=> ?_
 have:=key (j-i-1) i (by omega)
 rw[show i+(j-i-1)+1=j by omega] at this
 simpa [List.getD,hi,hj] using this
theorem aT4 (h:kW l){i:Nat} (hi:i<l.length) (h0:0<i):uL (l.getD (i-1) default) (l.getD i default)=true:=by
 have:=Z6.1 h (i-1) i (by omega) hi (by omega)
 simpa [List.getD,hi,show i-1<l.length by omega] using this
section
variable {H : aA} {nx : Nat} {K : D → aA → Nat → Prop}
theorem aMA {c:Cfg} {a:List Int} {l:List Job} {b:Bool} (hb:aQ c) (ha:a.length=3) (har:aTF c a) (hl:l.length<2^21) (hd: ∀j∈l,j.rsp.data.length<2^21) (h:K (dB (aPK c a l b)) H nx):aB Tryz.prog aIQ [boR (cU c),dS (a.map aJ),dS (l.map aS),dB b] H nx K:=by
 refine aB.pure (args0:=[boR (cU c),dS (a.map aJ),dS (l.map aS),dB b]) (R:=fun rr=>rr=dB (aPK c a l b)) ?_ rfl (aI ⟨aE rfl,aE rfl,aE rfl,aE rfl,trivial⟩) (fun r hr=>hr▸h)
 clear h
 refine aKZ rfl fun Q hQ=> ?_
 unfold aI9
 obtain⟨hp3,hp12⟩:=hC hb
 repeat' first|apply bn1<;>(simp only[go_sem])|fail
 (refine aM.loop (α:={k:Nat//k≤l.length∧(∀i,i<k→InA a (l.getD i default)∧(0<i→uL (l.getD (i-1) default) (l.getD i default)=true)∧(if b then as5 c (l.getD i default) else (l.getD i default).rsp=oW))}) (fun u=>en [(9,boP u.1),(4,.one (.c (.fQ (cU c)))),(3,dB b),(2,dS (l.map aS)),(1,dS (a.map aJ))]) (fun _=>.nil) _ (fun u=>l.length-u.1) ⟨0,by omega,(by intros;first|trivial|omega)⟩ (bU (m5 _) (by repeat' first|exact bo2|refine xqI rfl rfl ?_| (with_reducible apply bo3)| ((with_reducible apply bo1);exact bpH rfl (by simp) rfl rfl rfl)|fail)) ?_);(rintro⟨k,hk,hinv⟩ bpQ hKL)
 by_cases hlt:k<l.length
 ·obtain⟨j,hj⟩: ∃j,j=l.getD k default:=⟨_,rfl⟩
  have hj':=hj.symm
  have hm:j∈l:=by rw[hj];exact cC hlt
  have hdl:=hd j hm
  have hgood:InA a j→(0<k→uL (l.getD (k-1) default) j=true)→(if b then as5 c j else j.rsp=oW)→∀i,i<k+1→InA a (l.getD i default)∧(0<i→uL (l.getD (i-1) default) (l.getD i default)=true)∧(if b then as5 c (l.getD i default) else (l.getD i default).rsp=oW):=fun h1 h2 h3=>iS hinv ⟨by rw[hj'];exact h1,by rw[hj'];exact h2,by rw[hj'];exact h3⟩
  have hbad: ¬(InA a j∧(0<k→uL (l.getD (k-1) default) j=true)∧(if b then as5 c j else j.rsp=oW))→aPK c a l b=false:=fun h=>aSY fun aIF=>h ⟨aIF.inA j hm,fun h0=>by rw[hj];exact aT4 aIF.sorted hlt h0,aIF.rsp j hm⟩
  have hkm:((k:Int)-1).toNat=k-1:=by omega
  have hrs:j.rsp=oW↔j.rsp.id=0∧j.rsp.code=0∧(j.rsp.data.length:Int)=0:=by
   obtain⟨w,n,⟨i,d,x⟩⟩:=j
   simp only[oW,Rsp.mk.injEq]
   refine⟨fun⟨h1,h2,h3⟩=>⟨h1,h2,by rw[h3];rfl⟩,fun⟨h1,h2,h3⟩=>⟨h1,h2,H4.1 (by omega)⟩⟩
  by_cases hw:0≤j.who∧j.who≤2
  ·have hask:=har j.who.toNat (by omega)
   have hw12:=hp12 j.who.toNat
   by_cases hn:0≤j.n∧j.n≤a.getD j.who.toNat default-1
   ·have hin:InA a j:=⟨hw,hn.1,by omega⟩
    cases b with
    |false=>
     by_cases h0:0<k
     ·by_cases hbef:uL (l.getD (k-1) default) j=true
      ·repeat' first| (first|apply bn1|apply bpJ (by omega)|refine bpL (fun h=> ?_) fun h=> ?_|apply aBC|apply c9)<;>(simp only[go_sem,hj',eq_true hw,eq_true hn,hbef,hp3,ha,hkm];try simp (disch:=omega) only[Iw])|apply bn2 (by omega)|refine bnE (fun h=> ?_) fun h=> ?_|refine⟨by omega,?_⟩|fail
       all_goals first| (refine hKL _ _ _ ⟨k+1,by omega,hgood hin (fun _=>hbef) (by rw[if_neg (by decide)];exact hrs.2 ⟨by omega,by omega,by omega⟩)⟩ (by omega) (by(try dsimp only);omega) (bU (m5 _) (by repeat' first|exact bo2|refine xqI rfl rfl ?_|fail)))|exact aZ hQ (dB false) rfl rfl (congrArg dB (hbad fun⟨_,_,h3⟩=>by rw[if_neg (by decide)] at h3;have:=hrs.1 h3;omega)).symm
      ·have hbf:=eq_false_of_ne_true hbef
       repeat' first| (first|apply bn1|apply bpJ (by omega)|apply aBC|apply c9)<;>(simp only[go_sem,hj',eq_true hw,eq_true hn,hbf,hp3,ha,hkm];try simp (disch:=omega) only[Iw])|apply bn2 (by omega)|refine⟨by omega,?_⟩|fail
       all_goals exact aZ hQ (dB false) rfl rfl (congrArg dB (hbad fun⟨_,h2,_⟩=>hbef (h2 h0))).symm
     ·repeat' first| (first|apply bn1|apply bpK (by omega)|refine bpL (fun h=> ?_) fun h=> ?_|apply aBC)<;>(simp only[go_sem,hj',eq_true hw,eq_true hn,hp3,ha,hkm];try simp (disch:=omega) only[Iw])|apply bn2 (by omega)|refine bnE (fun h=> ?_) fun h=> ?_|refine⟨by omega,?_⟩|fail
      all_goals first| (refine hKL _ _ _ ⟨k+1,by omega,hgood hin (fun h=>absurd h h0) (by rw[if_neg (by decide)];exact hrs.2 ⟨by omega,by omega,by omega⟩)⟩ (by omega) (by(try dsimp only);omega) (bU (m5 _) (by repeat' first|exact bo2|refine xqI rfl rfl ?_|fail)))|exact aZ hQ (dB false) rfl rfl (congrArg dB (hbad fun⟨_,_,h3⟩=>by rw[if_neg (by decide)] at h3;have:=hrs.1 h3;omega)).symm
    |true=>
     by_cases h0:0<k
     ·by_cases hbef:uL (l.getD (k-1) default) j=true
      ·repeat' first| (first|apply bn1|apply bpJ (by omega)|refine bpL (fun h=> ?_) fun h=> ?_|apply aBC|apply c9|apply aMP (show j.rsp.data.length<2^40 by omega))<;>(simp only[go_sem,hj',eq_true hw,eq_true hn,hbef,hp3,ha,hkm];try simp (disch:=omega) only[Iw])|apply bn2 (by omega)|refine⟨by omega,?_⟩|fail
       all_goals first| (refine hKL _ _ _ ⟨k+1,by omega,hgood hin (fun _=>hbef) (by rw[if_pos rfl];exact⟨Classical.not_not.1 (by assumption),by unfold bT;omega⟩)⟩ (by omega) (by(try dsimp only);omega) (bU (m5 _) (by repeat' first|exact bo2|refine xqI rfl rfl ?_|fail)))|exact aZ hQ (dB false) rfl rfl (congrArg dB (hbad fun⟨_,_,h3⟩=>by rw[if_pos rfl] at h3;obtain⟨h4,h5⟩:=h3;unfold bT at h5;first|omega|exact absurd h4 (by assumption)|simp_all)).symm
      ·have hbf:=eq_false_of_ne_true hbef
       repeat' first| (first|apply bn1|apply bpJ (by omega)|apply aBC|apply c9)<;>(simp only[go_sem,hj',eq_true hw,eq_true hn,hbf,hp3,ha,hkm];try simp (disch:=omega) only[Iw])|apply bn2 (by omega)|refine⟨by omega,?_⟩|fail
       all_goals exact aZ hQ (dB false) rfl rfl (congrArg dB (hbad fun⟨_,h2,_⟩=>hbef (h2 h0))).symm
     ·repeat' first| (first|apply bn1|apply bpK (by omega)|refine bpL (fun h=> ?_) fun h=> ?_|apply aBC|apply aMP (show j.rsp.data.length<2^40 by omega))<;>(simp only[go_sem,hj',eq_true hw,eq_true hn,hp3,ha,hkm];try simp (disch:=omega) only[Iw])|apply bn2 (by omega)|refine⟨by omega,?_⟩|fail
      all_goals first| (refine hKL _ _ _ ⟨k+1,by omega,hgood hin (fun h=>absurd h h0) (by rw[if_pos rfl];exact⟨Classical.not_not.1 (by assumption),by unfold bT;omega⟩)⟩ (by omega) (by(try dsimp only);omega) (bU (m5 _) (by repeat' first|exact bo2|refine xqI rfl rfl ?_|fail)))|exact aZ hQ (dB false) rfl rfl (congrArg dB (hbad fun⟨_,_,h3⟩=>by rw[if_pos rfl] at h3;obtain⟨h4,h5⟩:=h3;unfold bT at h5;first|omega|exact absurd h4 (by assumption)|simp_all)).symm
   ·repeat' first| (first|apply bn1|apply aBC)<;>(simp only[go_sem,hj',eq_true hw,eq_false hn,ha];try simp (disch:=omega) only[Iw])|apply bn2 (by omega)|refine⟨by omega,?_⟩|fail
    all_goals first| (exfalso;omega)|exact aZ hQ (dB false) rfl rfl (congrArg dB (hbad fun⟨h1,_,_⟩=>hn ⟨h1.2.1,by have:=h1.2.2;omega⟩)).symm
  ·repeat' first| (first|apply bn1|apply aBC)<;>(simp only[go_sem,hj',eq_false hw])|apply bn2 (by omega)|refine⟨by omega,?_⟩|fail
   all_goals first| (exfalso;omega)|exact aZ hQ (dB false) rfl rfl (congrArg dB (hbad fun⟨h1,_,_⟩=>hw h1.1)).symm
 ·repeat' first|apply bn1<;>(simp only[go_sem])|apply bn3 (by omega)|fail
  have hk2:k=l.length:=by omega
  subst hk2
  exact aZ hQ (dB true) rfl rfl (congrArg dB (aQD ⟨fun x hx=>aKJ (fun i hi=>(hinv i hi).1) x hx,aTV fun i hi=>(hinv i hi).2.1,fun x hx=>aKJ (P:=fun x=>if b then as5 c x else x.rsp=oW) (fun i hi=>(hinv i hi).2.2) x hx⟩).symm)
end
theorem aTP (h: ∀i,i<l.length→key (l.getD i default)∉(l.take i).map key):(l.map key).Nodup:=by
 refine brY.2 (Z6.2 fun i j hi hj hij he=> ?_)
 apply h j hj
 rw[show l.getD j default=l[j] by simp[List.getD,hj],←he]
 exact brI (bqY.2 ⟨i,by simp;omega,by simp⟩)
theorem aTN (h:(l.map key).Nodup){i:Nat} (hi:i<l.length):key (l.getD i default)∉(l.take i).map key:=by
 intro hm
 obtain⟨x,hx,he⟩:=CF.1 hm
 obtain⟨j,hj,rfl⟩:=bqY.1 hx
 have hji:j<i:=by simp at hj;omega
 have h1:=Z6.1 (brY.1 h) j i (by omega) hi hji
 rw[show l.getD i default=l[i] by simp[List.getD,hi]] at he
 simp only[brU] at he
 exact h1 he
section
variable {H : aA} {nx : Nat} {K : D → aA → Nat → Prop}
theorem aMG {c:Cfg} {s:TSt} (hb:aQ c) (ha:s.asked.length=3) (har:aTF c s.asked) (hl:s.told.length<2^21) (hd: ∀j∈s.told,j.rsp.data.length<2^21) (h:K (dB (aRF c s)) H nx):aB Tryz.prog aIX [boR (cU c),boR (eSt s)] H nx K:=by
 refine aB.pure (args0:=[boR (cU c),boR (eSt s)]) (R:=fun rr=>rr=dB (aRF c s)) ?_ rfl (aI ⟨aE rfl,aE rfl,trivial⟩) (fun r hr=>hr▸h)
 clear h
 refine aK7 rfl fun Q hQ=> ?_
 unfold aJD
 obtain⟨hp3,hp12⟩:=hC hb
 repeat' first|apply bn1<;>(simp only[go_sem])|fail
 (refine aM.loop (α:={k:Nat//k≤s.told.length∧(∀i,i<k→InA s.asked (s.told.getD i default)∧as5 c (s.told.getD i default)∧key (s.told.getD i default)∉(s.told.take i).map key)}) (fun u=>en [(5,boP u.1),(3,.one (.c (.fQ (eSt s)))),(2,.one (.c (.fQ (cU c))))]) (fun _=>.nil) _ (fun u=>s.told.length-u.1) ⟨0,by omega,(by intros;first|trivial|omega)⟩ (bU (m5 _) (by repeat' first|exact bo2|refine xqI rfl rfl ?_| (with_reducible apply bo3)| ((with_reducible apply bo1);exact bpH rfl (by simp) rfl rfl rfl)|fail)) ?_);(rintro⟨k,hk,hinv⟩ bpQ hKL)
 by_cases hlt:k<s.told.length
 ·obtain⟨j,hj⟩: ∃j,j=s.told.getD k default:=⟨_,rfl⟩
  have hj':=hj.symm
  have hm:j∈s.told:=by rw[hj];exact cC hlt
  have hdl:=hd j hm
  have hgood:InA s.asked j→as5 c j→key j∉(s.told.take k).map key→∀i,i<k+1→InA s.asked (s.told.getD i default)∧as5 c (s.told.getD i default)∧key (s.told.getD i default)∉(s.told.take i).map key:=fun h1 h2 h3=>iS hinv (by rw[hj'];exact⟨h1,h2,h3⟩)
  have hbad: ¬(InA s.asked j∧as5 c j∧key j∉(s.told.take k).map key)→aRF c s=false:=fun h=>aTL fun aIF=>h ⟨aIF.inA j hm,aIF.rsp j hm,by rw[hj];exact aTN aIF.once hlt⟩
  by_cases hw:0≤j.who∧j.who≤2
  ·have hask:=har j.who.toNat (by omega)
   have hw12:=hp12 j.who.toNat
   by_cases hn:0≤j.n∧j.n≤s.asked.getD j.who.toNat default-1
   ·have hin:InA s.asked j:=⟨hw,hn.1,by omega⟩
    by_cases hr:pA j.rsp
    ·by_cases hid:j.rsp.id=((c.cP.getD j.who.toNat default).getD j.n.toNat default).id
     ·have hra:as5 c j:=⟨hr,hid⟩
      by_cases hk0:0≤bK (iM j.who j.n) (s.told.take k)
      ·repeat' first| (first|apply bn1|apply aBC|apply aMP (show j.rsp.data.length<2^40 by omega)| (apply aKK (l:=s.told.take k) (by simp;omega)))<;>(simp only[go_sem,hj',eq_true hw,eq_true hn,eq_true hr,hid.symm,hp3,ha];try simp (disch:=omega) only[Iw])|apply bn2 (by omega)|refine⟨by omega,?_⟩|fail
       all_goals first| (exfalso;omega)|exact aZ hQ (dB false) rfl rfl (congrArg dB (hbad fun⟨_,_,h⟩=>h (ZP.1 hk0))).symm
      ·repeat' first| (first|apply bn1|apply aBC|apply aMP (show j.rsp.data.length<2^40 by omega)| (apply aKK (l:=s.told.take k) (by simp;omega)))<;>(simp only[go_sem,hj',eq_true hw,eq_true hn,eq_true hr,hid.symm,hp3,ha];try simp (disch:=omega) only[Iw])|apply bn2 (by omega)|apply bn3 (by omega)|refine⟨by omega,?_⟩|fail
       all_goals first| (exfalso;omega)| (refine hKL _ _ _ ⟨k+1,by omega,hgood hin hra (fun h=>hk0 (ZP.2 h))⟩ (by omega) (by(try dsimp only);omega) (bU (m5 _) (by repeat' first|exact bo2|refine xqI rfl rfl ?_|fail)))
     ·repeat' first| (first|apply bn1|apply bpJ (by omega)|apply aBC|apply aMP (show j.rsp.data.length<2^40 by omega))<;>(simp only[go_sem,hj',eq_true hw,eq_true hn,eq_true hr,hp3,ha];try simp (disch:=omega) only[Iw])|apply bn2 (by omega)|refine⟨by omega,?_⟩|fail
      all_goals first| (exfalso;omega)|exact aZ hQ (dB false) rfl rfl (congrArg dB (hbad fun⟨_,h,_⟩=>hid h.2)).symm
    ·repeat' first| (first|apply bn1|apply aBC|apply aMP (show j.rsp.data.length<2^40 by omega))<;>(simp only[go_sem,hj',eq_true hw,eq_true hn,eq_false hr,hp3,ha];try simp (disch:=omega) only[Iw])|apply bn2 (by omega)|refine⟨by omega,?_⟩|fail
     all_goals first| (exfalso;omega)|exact aZ hQ (dB false) rfl rfl (congrArg dB (hbad fun⟨_,h,_⟩=>hr h.1)).symm
   ·repeat' first| (first|apply bn1|apply aBC)<;>(simp only[go_sem,hj',eq_true hw,eq_false hn,ha];try simp (disch:=omega) only[Iw])|apply bn2 (by omega)|refine⟨by omega,?_⟩|fail
    all_goals first| (exfalso;omega)|exact aZ hQ (dB false) rfl rfl (congrArg dB (hbad fun⟨h1,_,_⟩=>hn ⟨h1.2.1,by have:=h1.2.2;omega⟩)).symm
  ·repeat' first| (first|apply bn1|apply aBC)<;>(simp only[go_sem,hj',eq_false hw])|apply bn2 (by omega)|refine⟨by omega,?_⟩|fail
   all_goals first| (exfalso;omega)|exact aZ hQ (dB false) rfl rfl (congrArg dB (hbad fun⟨h1,_,_⟩=>hw h1.1)).symm
 ·repeat' first|apply bn1<;>(simp only[go_sem])|apply bn3 (by omega)|fail
  have hk2:k=s.told.length:=by omega
  subst hk2
  exact aZ hQ (dB true) rfl rfl (congrArg dB (aTM ⟨fun x hx=>aKJ (fun i hi=>(hinv i hi).1) x hx,aTP fun i hi=>(hinv i hi).2.2,fun x hx=>aKJ (P:=as5 c) (fun i hi=>(hinv i hi).2.1) x hx⟩).symm)
theorem aMQ {c:Cfg} {s:TSt} (hcf:jO c) (hf:aTQ s) (h:K (dB (tlB c s)) H nx):aB Tryz.prog aI6 [boR (cU c),boR (eSt s)] H nx K:=by
 refine aB.pure (args0:=[boR (cU c),boR (eSt s)]) (R:=fun rr=>rr=dB (tlB c s)) ?_ rfl (aI ⟨aE rfl,aE rfl,trivial⟩) (fun r hr=>hr▸h)
 clear h
 refine aMM rfl fun Q hQ=> ?_
 unfold aJP
 have hwf:=hf.words
 have hhf:=hf.holds
 have haf:=hf.asked
 have hl3:=hf.wait
 have hl4:=hf.done
 have hl5:=hf.told
 have hd3: ∀j∈s.wait,j.rsp.data.length<2^21:=fun j hj=>hf.data j (by simp[hj])
 have hd4: ∀j∈s.done,j.rsp.data.length<2^21:=fun j hj=>hf.data j (by simp[hj])
 have hd5: ∀j∈s.told,j.rsp.data.length<2^21:=fun j hj=>hf.data j (by simp[hj])
 by_cases hb:aQ c
 case neg=>
  repeat' first| (first|apply bn1|apply aKG hcf)<;>(simp only[go_sem,eq_false hb])|fail
  all_goals exact aZ hQ (dB false) rfl rfl (congrArg dB (aOH fun h=>hb h.1)).symm
 by_cases hat:JS s.words s.holds
 case neg=>
  repeat' first| (first|apply bn1|apply aKG hcf|apply aKH (show s.words.length<2^40 by omega) (show s.holds.length<2^40 by omega))<;>(simp only[go_sem,eq_true hb,eq_false hat])|fail
  all_goals exact aZ hQ (dB false) rfl rfl (congrArg dB (aOH fun h=>hat ⟨⟨by rw[h.2.atm.wl];rfl,h.2.atm.wr⟩,by rw[h.2.atm.hl];rfl,h.2.atm.hr⟩)).symm
 by_cases ha:s.asked.length=3
 case neg=>
  repeat' first| (first|apply bn1|apply aKG hcf|apply aKH (show s.words.length<2^40 by omega) (show s.holds.length<2^40 by omega))<;>(simp only[go_sem,eq_true hb,eq_true hat])|apply bn2 (by omega)|fail
  all_goals first| (exfalso;omega)|exact aZ hQ (dB false) rfl rfl (congrArg dB (aOH fun h=>ha h.2.JI)).symm
 obtain⟨hp3,hp12⟩:=hC hb
 repeat' first| (first|apply bn1|apply aKG hcf|apply aKH (show s.words.length<2^40 by omega) (show s.holds.length<2^40 by omega))<;>(simp only[go_sem,eq_true hb,eq_true hat,ha])|apply bn3 (by omega)|fail
 have hsz: ∀k,k≤3→(∀i,i<k→0≤s.asked.getD i default∧s.asked.getD i default≤((c.cP.getD i default).length:Int))→0≤jS (fun j=>s.asked.getD j default) k∧jS (fun j=>s.asked.getD j default) k≤12*k:=fun k hk h=>KF (m:=12) (by omega) k fun j hj=>by have:=h j hj;have:=hp12 j;(try dsimp only);omega
 (refine aM.loop (α:={k:Nat//k≤3∧(∀i,i<k→0≤s.asked.getD i default∧s.asked.getD i default≤((c.cP.getD i default).length:Int))}) (fun u=>en [(6,boP u.1),(5,boP (jS (fun j=>s.asked.getD j default) u.1)),(3,.one (.c (.fQ (eSt s)))),(2,.one (.c (.fQ (cU c))))]) (fun _=>.nil) _ (fun u=>3-u.1) ⟨0,by omega,(by intros;first|trivial|omega)⟩ (bU (m5 _) (by repeat' first|exact bo2|refine xqI rfl rfl ?_| (with_reducible apply bo3)| ((with_reducible apply bo1);exact bpH rfl (by simp) rfl rfl rfl)|fail)) ?_);(rintro⟨k,hk,hinv⟩ bpQ hKL)
 have hz:=hsz k hk hinv
 by_cases hlt:k<3
 ·have hpk:=hp12 k
  have hss:jS (fun j=>s.asked.getD j default) (k+1)=jS (fun j=>s.asked.getD j default) k+s.asked.getD k default:=rfl
  by_cases hr:0≤s.asked.getD k default∧s.asked.getD k default≤((c.cP.getD k default).length:Int)
  ·repeat' first| (first|apply bn1|apply aBC)<;>(simp only[go_sem,eq_true hr,hp3,ha];try simp (disch:=omega) only[Iw])|apply bn2 (by omega)|refine⟨by omega,?_⟩|fail
   all_goals (rw[←hss];(refine hKL _ _ _ ⟨k+1,by omega,iS hinv hr⟩ (by omega) (by(try dsimp only);omega) (bU (m5 _) (by repeat' first|exact bo2|refine xqI rfl rfl ?_|fail))))
  ·repeat' first| (first|apply bn1|apply aBC)<;>(simp only[go_sem,eq_false hr,hp3,ha])|apply bn2 (by omega)|refine⟨by omega,?_⟩|fail
   all_goals exact aZ hQ (dB false) rfl rfl (congrArg dB (aOH fun h=>hr (h.2.DC k hlt))).symm
 have hk3:k=3:=by omega
 subst hk3
 have har:aTF c s.asked:=hinv
 have hsum3:jS (fun j=>s.asked.getD j default) 3=s.asked.getD 0 default+s.asked.getD 1 default+s.asked.getD 2 default:=by simp[jS]
 have hj1: ∀{H:aA} {nx:Nat} {K:D→aA→Nat→Prop},K (dB (aPK c s.asked s.wait false)) H nx→aB Tryz.prog aIQ [boR (cU c),dS (s.asked.map aJ),dS (s.wait.map aS),dB false] H nx K:=fun h=>aMA hb ha har hl3 hd3 h
 have hj2: ∀{H:aA} {nx:Nat} {K:D→aA→Nat→Prop},K (dB (aPK c s.asked s.done true)) H nx→aB Tryz.prog aIQ [boR (cU c),dS (s.asked.map aJ),dS (s.done.map aS),dB true] H nx K:=fun h=>aMA hb ha har hl4 hd4 h
 by_cases hw:aPN c s.asked s.wait false
 case neg=>
  have e1:=aSY hw
  repeat' first| (first|apply bn1|apply hj1)<;>(simp only[go_sem,e1])|apply bn3 (by omega)|fail
  all_goals exact aZ hQ (dB false) rfl rfl (congrArg dB (aOH fun h=>hw h.2.aUL)).symm
 by_cases hdn:aPN c s.asked s.done true
 case neg=>
  have e1:=aQD hw
  have e2:=aSY hdn
  repeat' first| (first|apply bn1|apply hj1|apply hj2)<;>(simp only[go_sem,e1,e2])|apply bn3 (by omega)|fail
  all_goals exact aZ hQ (dB false) rfl rfl (congrArg dB (aOH fun h=>hdn h.2.aUM)).symm
 have e1:=aQD hw
 have e2:=aQD hdn
 by_cases ht:aSQ c s
 case neg=>
  have e3:=aTL ht
  repeat' first| (first|apply bn1|apply hj1|apply hj2|apply aMG hb ha har hl5 hd5)<;>(simp only[go_sem,e1,e2,e3])|apply bn3 (by omega)|fail
  all_goals exact aZ hQ (dB false) rfl rfl (congrArg dB (aOH fun h=>ht h.2.aUN)).symm
 have e3:=aTM ht
 by_cases hc:(s.wait.length:Int)+s.done.length+s.told.length=s.asked.getD 0 default+s.asked.getD 1 default+s.asked.getD 2 default
 case neg=>
  repeat' first| (first|apply bn1|apply hj1|apply hj2|apply aMG hb ha har hl5 hd5)<;>(simp only[go_sem,e1,e2,e3];try simp (disch:=omega) only[Iw])|apply bn2 (by omega)|apply bn3 (by omega)|fail
  all_goals first| (exfalso;omega)|exact aZ hQ (dB false) rfl rfl (congrArg dB (aOH fun h=>hc h.2.count)).symm
 repeat' first| (first|apply bn1|apply hj1|apply hj2|apply aMG hb ha har hl5 hd5)<;>(simp only[go_sem,e1,e2,e3];try simp (disch:=omega) only[Iw])|apply bn3 (by omega)|fail
 refine aM.loop (α:={k:Nat//k≤s.told.length∧ ∀i,i<k→key (s.told.getD i default)∉s.wait.map key∧key (s.told.getD i default)∉s.done.map key}) (fun u=>en [(7,boP u.1),(3,.one (.c (.fQ (eSt s))))]) (fun _=>.nil) _ (fun u=>s.told.length-u.1) ⟨0,by omega,fun i hi=>by omega⟩ (bU (m5 _) (by repeat' first|exact bo2|refine xqI rfl rfl ?_|fail)) ?_
 rintro⟨k,hk,hinv2⟩ bpQ hKL
 by_cases hlt:k<s.told.length
 ·obtain⟨j,hj⟩: ∃j,j=s.told.getD k default:=⟨_,rfl⟩
  have hj':=hj.symm
  have hm:j∈s.told:=by rw[hj];exact cC hlt
  by_cases h1:0≤bK (iM j.who j.n) s.wait
  ·repeat' first| (first|apply bn1|apply bpJ (by omega)|apply aKK (show s.wait.length<2^40 by omega))<;>(simp only[go_sem,hj'])|apply bn2 (by omega)|refine⟨by omega,?_⟩|fail
   all_goals first| (exfalso;omega)|exact aZ hQ (dB false) rfl rfl (congrArg dB (aOH fun h=>(h.2.apart.2.1 j hm).1 (ZP.1 h1))).symm
  ·by_cases h2:0≤bK (iM j.who j.n) s.done
   ·repeat' first| (first|apply bn1|apply bpK (by omega)|apply aKK (show s.wait.length<2^40 by omega)|apply aKK (show s.done.length<2^40 by omega))<;>(simp only[go_sem,hj'])|apply bn2 (by omega)|refine⟨by omega,?_⟩|fail
    all_goals first| (exfalso;omega)|exact aZ hQ (dB false) rfl rfl (congrArg dB (aOH fun h=>(h.2.apart.2.1 j hm).2 (ZP.1 h2))).symm
   ·repeat' first| (first|apply bn1|apply bpK (by omega)|apply aKK (show s.wait.length<2^40 by omega)|apply aKK (show s.done.length<2^40 by omega))<;>(simp only[go_sem,hj'];try simp (disch:=omega) only[Iw])|apply bn2 (by omega)|apply bn3 (by omega)|refine⟨by omega,?_⟩|fail
    all_goals first| (exfalso;omega)|exact hKL _ _ _ ⟨k+1,by omega,iS hinv2 (by rw[hj'];exact⟨fun h=>h1 (ZP.2 h),fun h=>h2 (ZP.2 h)⟩)⟩ (by omega) (by(try dsimp only);omega) (bU (m5 _) (by repeat' first|exact bo2|refine xqI rfl rfl ?_|fail))
 ·have hk2:k=s.told.length:=by omega
  subst hk2
  repeat' first|apply bn1<;>(simp only[go_sem])|apply bn3 (by omega)|fail
  refine aM.loop (α:={k:Nat//k≤s.done.length∧ ∀i,i<k→key (s.done.getD i default)∉s.wait.map key}) (fun u=>en [(8,boP u.1),(3,.one (.c (.fQ (eSt s))))]) (fun _=>.nil) _ (fun u=>s.done.length-u.1) ⟨0,by omega,fun i hi=>by omega⟩ (bU (m5 _) (by repeat' first|exact bo2|refine xqI rfl rfl ?_|fail)) ?_
  rintro⟨k,hk,hinv3⟩ bqG hKM
  by_cases hlt:k<s.done.length
  ·obtain⟨j,hj⟩: ∃j,j=s.done.getD k default:=⟨_,rfl⟩
   have hj':=hj.symm
   have hm:j∈s.done:=by rw[hj];exact cC hlt
   by_cases h1:0≤bK (iM j.who j.n) s.wait
   ·repeat' first| (first|apply bn1|apply aKK (show s.wait.length<2^40 by omega))<;>(simp only[go_sem,hj'])|apply bn2 (by omega)|refine⟨by omega,?_⟩|fail
    all_goals first| (exfalso;omega)|exact aZ hQ (dB false) rfl rfl (congrArg dB (aOH fun h=>(h.2.apart.2.2 j hm) (ZP.1 h1))).symm
   ·repeat' first| (first|apply bn1|apply aKK (show s.wait.length<2^40 by omega))<;>(simp only[go_sem,hj'];try simp (disch:=omega) only[Iw])|apply bn2 (by omega)|apply bn3 (by omega)|refine⟨by omega,?_⟩|fail
    all_goals first| (exfalso;omega)|exact hKM _ _ _ ⟨k+1,by omega,iS hinv3 (by rw[hj'];exact fun h=>h1 (ZP.2 h))⟩ (by omega) (by(try dsimp only);omega) (bU (m5 _) (by repeat' first|exact bo2|refine xqI rfl rfl ?_|fail))
  ·have hk2:k=s.done.length:=by omega
   subst hk2
   have hst:BA c s:=aTG hat ha har hw hdn ht hc (aKJ (P:=fun j=>key j∉s.wait.map key∧key j∉s.done.map key) hinv2) (aKJ (P:=fun j=>key j∉s.wait.map key) hinv3)
   repeat' first|apply bn1<;>(simp only[go_sem])|apply bn3 (by omega)|fail
   exact aZ hQ (dB true) rfl rfl (congrArg dB (aTX hb hst)).symm
end
theorem umM{b:Nat}{l:List Nat}{H:aA}:dT b l H (msk b l H)=H:=by
 funext j;simp only[dT,msk];split<;>rfl
theorem muM{b:Nat}{l:List Nat}{H G:aA}:msk b l (dT b l H G)=msk b l G:=by
 funext j;simp only[dT,msk];split<;>rfl
section
variable {H : aA} {nx : Nat} {K : D → aA → Nat → Prop}
theorem apY (h:K (dB true) H nx):aB Tryz.prog E2 [] H nx K:=by
 refine aB.pure (args0:=[]) (R:=fun rr=>rr=dB true) ?_ rfl (aI trivial) (fun r hr=>hr▸h)
 clear h
 refine XX rfl fun Q hQ=> ?_
 unfold CP
 repeat' first| (first|apply bn1|apply wS)<;>(simp only[go_sem])|fail
 all_goals first|with_reducible refine aZ hQ _ rfl rfl ?_|skip
 all_goals exact(q9 (by decide)).symm
end
end Go.Proofs.YtmccpdapaccnoaaGreat
namespace Go.AM
theorem a7H {l:List Job} {x:Job}:jX (l++[x])=BM (jX l) x:=by unfold jX;rw[List.foldl_append];rfl
theorem bbP {l:List Job}:(jX l).length=l.length:=(fH l).length_eq
end Go.AM
namespace Go.Proofs.YtmccpdapaccnoaaGreat
open Go Go.AM
attribute [local irreducible] aM wv aB vd wvH
section
variable {H : aA} {nx : Nat} {K : D → aA → Nat → Prop}
theorem bdR {s:CSt} (hf:bdV s) (h:K (boR (eSt (cX s))) H nx):aB Tryz.prog aIZ [boR (eI s)] H nx K:=by
 refine aB.fresh (R:=fun rr=>rr=boR (eSt (cX s))) ?_ rfl (fun r hr=>hr▸h)
 clear h
 refine aLK rfl fun Q hQ=> ?_
 unfold aJA
 have hpl:=hf.pl
 have hsl:=hf.sl
 obtain⟨N,hN⟩: ∃N,N=s.dD.length:=⟨_,rfl⟩
 rw[←hN] at hsl
 have hN':=hN.symm
 have hst:=hf.st
 have hwl:s.words.length<2^21:=hst.words
 have hhl:s.holds.length<2^21:=hst.holds
 have htl:s.told.length<2^21:=hst.told
 have hSr: ∀j∈s.told,j.rsp.data.length<2^21:=fun j hj=>hst.data j (brH _ hj)
 repeat' first| (first|apply bn1|apply aKA (w:=s.words) (u:=s.holds) (by omega) (by omega)|apply aI1 (l:=s.told) (by omega) hSr)<;>(simp only[go_sem,umB,umS,umM,muM])|fail
 apply aM.EJ 1
 refine aM.tW _ _ noF (fun t=>.inl rfl) (KO (i:=9) (o':=⟨6,1,[[.isl (s.words.map aJ),.isl (s.holds.map aJ),.osl 1 12 0 0 0,.isl ((jX []).map aS),.isl ((jX []).map aS),.isl (s.told.map aS)]]⟩) (by rw[aA.aC (by omega)];exact aA.bH) (aP (aH (bB rfl) (aH (bB rfl) (aH (.VS ..) (aH xG (aH xG (aH (bB rfl) eP)))))))) ?_
 refine aM.TF fun bqO hG0=> ?_
 have c0:bqO 0=some ⟨5,1,[eI s]⟩:=by rw[hG0];rfl
 have c1:bqO 1=some ⟨6,1,[[.osl 0 0 0 0 0,.osl 0 0 0 0 0,.osl 0 0 0 0 0,.osl 0 0 0 0 0,.osl 0 0 0 0 0,.osl 0 0 0 0 0]]⟩:=by rw[hG0];rfl
 have bf1:bqO 9=some ⟨6,1,[[.isl (s.words.map aJ),.isl (s.holds.map aJ),.osl 1 12 0 0 0,.isl ((jX []).map aS),.isl ((jX []).map aS),.isl (s.told.map aS)]]⟩:=by rw[hG0];exact aA.bH
 have c12:bqO 12=some ⟨1,0,[]⟩:=by rw[hG0];rfl
 clear hG0
 obtain⟨A,hA0⟩: ∃A:Nat→List Int,A=fun k=>(s.bM.take k).map (·.next):=⟨_,rfl⟩
 have hAl: ∀k,k≤3→(A k).length=k:=fun k hk=>by rw[hA0];simp;omega
 have hAs: ∀k,k<3→A (k+1)=A k++[(s.bM.getD k default).next]:=fun k hk=>by
  rw[hA0]
  dsimp only
  rw[brQ (by omega),bqX]
  simp[List.getD,show k<s.bM.length by omega]
 have hA3:A 3=(cX s).asked:=by rw[hA0];dsimp only;rw[boL (by omega)];rfl
 have hqs: ∀k,k<3→(jJ s k).length≤3:=fun k hk=>by have:=hf.q k hk;simpa [jJ] using this
 have hvs: ∀k,k<N→(hJ s k).length≤3∧(aL s k).done.length≤3:=fun k hk=>⟨by have:=(hf.v k (by omega)).1;simpa [hJ] using this,(hf.v k (by omega)).2⟩
 obtain⟨bf5,hQJ⟩: ∃bf5:Nat→List Job,bf5=fun k=>(List.range k).flatMap (jJ s):=⟨_,rfl⟩
 have hQJs: ∀k,bf5 (k+1)=bf5 k++jJ s k:=fun k=>by rw[hQJ];exact CL
 have hQJl: ∀k,k≤3→(bf5 k).length≤3*k:=fun k hk=>by rw[hQJ];exact QU k fun j hj=>hqs j (by omega)
 have hQJ0:bf5 0=[]:=by rw[hQJ];rfl
 refine aM.gP (β:=Nat×Nat×Nat) (fun u=>en [(4,boP u.1),(3,.one (.c (.ptr 6 9 0 0))),(2,.one (.c (.ptr 6 1 0 0))),(1,.one (.c (.ptr 5 0 0 0)))])
  (fun u H1 bp0=>u.1≤3∧H1 0=some ⟨5,1,[eI s]⟩∧H1 1=some ⟨6,1,[[.osl 0 0 0 0 0,.osl 0 0 0 0 0,.osl 0 0 0 0 0,.osl 0 0 0 0 0,.osl 0 0 0 0 0,.osl 0 0 0 0 0]]⟩∧H1 9=some ⟨6,1,[[.isl (s.words.map aJ),.isl (s.holds.map aJ),.osl 1 u.2.1 0 u.1 u.2.2,.isl ((jX (bf5 u.1)).map aS),.isl ((jX []).map aS),.isl (s.told.map aS)]]⟩∧(∃m,H1 u.2.1=some ⟨1,m,(A u.1).map aJ⟩∧u.1≤u.2.2∧u.2.2≤m)∧12≤u.2.1∧u.2.1<bp0) (fun u=>3-u.1) (0,12,0)
  ⟨noF,_,by repeat' first|exact bo2|refine xqI rfl rfl ?_|refine xqP (by omega) rfl rfl ?_|fail,aK,by dsimp only;omega,c0,c1,by dsimp only;rw[hQJ0];exact bf1,⟨0,by rw[c12,hA0];rfl,m5 _,m5 _⟩,by dsimp only;omega,by dsimp only;omega⟩ ?_
 clear c0 c1 bf1 c12
 rintro⟨k,ia,ca⟩ H1 nx1 hnx1 ⟨hk,bqC,g1,bp5,⟨m,ga,ga1,ga2⟩,hia1,hia2⟩ bpQ hKL
 dsimp only at hk bp5 ga ga1 ga2 hia1 hia2
 have hA:bQ nx1 [0,1,9,ia]:=AM.apart (by simp;omega) (by simp;omega)
 simp only[bQ,eZ] at hA
 have hAk:=hAl k hk
 by_cases hlt:k<3
 ·obtain⟨P,boS⟩: ∃P,P=aF s k:=⟨_,rfl⟩
  have hP':s.bM.getD k default=P:=boS.symm
  have hPq:=hf.q k hlt
  rw[←boS] at hPq
  have a6: ∀G:aA,msk (nx1+5) [8] G 9=G 9:=fun G=>by unfold msk;rw[if_neg (by simp)]
  rw[←hAk] at bp5 ga1
  repeat' first|apply bn1<;>(simp only[go_sem,boC,bqC,g1,bp5,a6,ga,hpl,hP',hA])|apply bn2 (by omega)| (with_reducible first|refine fun(cap:Nat) (hcap:_≤cap)=> ?_|refine fun(hcp:_≤cap)=> ?_)|refine⟨by omega,?_⟩|fail
  refine aM.TF fun aHF hG1=> ?_
  have hc:A k++[P.next]=A (k+1):=by rw[hAs k hlt,hP']
  have d0:aHF 0=some ⟨5,1,[eI s]⟩:=by rw[hG1];simp[aA.set,aA.del,hA,bqC]
  have d1:aHF 1=some ⟨6,1,[[.osl 0 0 0 0 0,.osl 0 0 0 0 0,.osl 0 0 0 0 0,.osl 0 0 0 0 0,.osl 0 0 0 0 0,.osl 0 0 0 0 0]]⟩:=by rw[hG1];simp[aA.set,aA.del,hA,g1]
  have aHG:aHF 9=some ⟨6,1,[[.isl (s.words.map aJ),.isl (s.holds.map aJ),.osl 1 (nx1+14) 0 (k+1) cap,.isl ((jX (bf5 k)).map aS),.isl ((jX []).map aS),.isl (s.told.map aS)]]⟩:=by rw[hG1,hAk];exact aA.bH
  have boR:aHF (nx1+14)=some ⟨1,cap,(A (k+1)).map aJ⟩:=by rw[hG1,aA.aC (by omega),←hc];exact aA.bH
  clear hG1 bqC g1 bp5 ga hA
  refine aM.gP (β:=Nat) (fun j=>en [(5,boP j),(4,boP k),(3,.one (.c (.ptr 6 9 0 0))),(2,.one (.c (.ptr 6 1 0 0))),(1,.one (.c (.ptr 5 0 0 0)))])
   (fun j H2 _=>j≤P.queue.length∧H2 0=some ⟨5,1,[eI s]⟩∧H2 1=some ⟨6,1,[[.osl 0 0 0 0 0,.osl 0 0 0 0 0,.osl 0 0 0 0 0,.osl 0 0 0 0 0,.osl 0 0 0 0 0,.osl 0 0 0 0 0]]⟩∧H2 9=some ⟨6,1,[[.isl (s.words.map aJ),.isl (s.holds.map aJ),.osl 1 (nx1+14) 0 (k+1) cap,.isl ((jX (bf5 k++(jJ s k).take j)).map aS),.isl ((jX []).map aS),.isl (s.told.map aS)]]⟩∧H2 (nx1+14)=some ⟨1,cap,(A (k+1)).map aJ⟩) (fun j=>P.queue.length-j) 0
   ⟨noF,_,by repeat' first|exact bo2|refine xqI rfl rfl ?_|refine xqP (by omega) rfl rfl ?_|fail,aK,by omega,d0,d1,by rw[List.take_zero,bq6];exact aHG,boR⟩ ?_
  clear d0 d1 aHG boR
  rintro j H2 nx2 hnx2 ⟨hj,bqC,g1,bp5,ga⟩ bqG hKM
  obtain⟨W,aYL⟩: ∃W,W=bf5 k++(jJ s k).take j:=⟨_,rfl⟩
  rw[←aYL] at bp5
  have hWl:(jX W).length<2^21:=by
   have h1:=hQJl k hk
   have h2:=hqs k hlt
   rw[bbP,aYL,t2,CG];omega
  have hA:bQ nx2 [0,1,9,nx1+14]:=AM.apart (by simp) (by simp;omega)
  simp only[bQ,eZ] at hA
  by_cases hlt2:j<P.queue.length
  ·obtain⟨n,hn⟩: ∃n,P.queue.getD j default=n:=⟨_,rfl⟩
   repeat' first| (first|apply bn1|apply aR1 hWl)<;>(simp only[go_sem,boC,bqC,g1,bp5,hpl,hP',hn,hA];try simp (disch:=omega) only[Iw])|apply bn2 (by omega)|refine⟨by omega,?_⟩|fail
   have hWe:bf5 k++(jJ s k).take (j+1)=W++[(⟨k,n,oW⟩:Job)]:=by
    rw[nK (by simpa [jJ,←boS] using hlt2),←C0,←aYL]
    congr 2
    rw[←hn]
    simp[jJ,←boS,List.getD,hlt2]
   exact hKM _ _ _ (j+1) noF _ (by omega) (by omega) (by repeat' first|exact bo2|refine xqI rfl rfl ?_|refine xqP (by omega) rfl rfl ?_|fail) aK ⟨by omega,by rw[aA.aC (by omega)];exact bqC,by rw[aA.aC (by omega)];exact g1,by rw[hWe,a7H];exact aA.bH,by rw[aA.aC (by omega)];exact ga⟩
  ·have hj2:j=P.queue.length:=by omega
   have hWe:W=bf5 (k+1):=by rw[aYL,hQJs,boL (by simp[jJ,←boS];omega)]
   repeat' first|apply bn1<;>(simp only[go_sem,bqC,hpl,hP'];try simp (disch:=omega) only[Iw])|apply bn3 (by omega)|refine⟨by omega,?_⟩|fail
   exact hKL _ _ _ (k+1,nx1+14,cap) noF _ (by omega) (by dsimp only;omega) (by repeat' first|exact bo2|refine xqI rfl rfl ?_|refine xqP (by omega) rfl rfl ?_|fail) aK ⟨by dsimp only;omega,bqC,g1,by dsimp only;rw[←hWe];exact bp5,⟨cap,ga,by dsimp only;omega,m5 _⟩,by dsimp only;omega,by dsimp only;omega⟩
 ·have hk3:k=3:=by omega
  subst hk3
  repeat' first|apply bn1<;>(simp only[go_sem,bqC,g1,bp5])|apply bn3 (by omega)|fail
  obtain⟨bf6,hPJ⟩: ∃bf6:Nat→List Job,bf6=fun k=>bf5 3++(List.range k).flatMap (hJ s):=⟨_,rfl⟩
  have hPJs: ∀k,bf6 (k+1)=bf6 k++hJ s k:=fun k=>by rw[hPJ];dsimp only;rw[CL,C0]
  have hPJl: ∀k,k≤N→(bf6 k).length≤9+3*k:=fun k hk=>by
   have h1:=hQJl 3 (by omega)
   have h2:=QU (f:=hJ s) (m:=3) k fun j hj=>(hvs j (by omega)).1
   rw[hPJ];dsimp only;rw[t2];omega
  have hPJ0:bf6 0=bf5 3:=by rw[hPJ];simp
  obtain⟨bf7,hDJ⟩: ∃bf7:Nat→List Job,bf7=fun k=>(List.range k).flatMap fun k=>(aL s k).done:=⟨_,rfl⟩
  have hDJs: ∀k,bf7 (k+1)=bf7 k++(aL s k).done:=fun k=>by rw[hDJ];exact CL
  have hDJl: ∀k,k≤N→(bf7 k).length≤3*k:=fun k hk=>by rw[hDJ];exact QU k fun j hj=>(hvs j (by omega)).2
  have hDJ0:bf7 0=[]:=by rw[hDJ];rfl
  refine aM.gP (β:=Nat) (fun k=>en [(6,boP k),(3,.one (.c (.ptr 6 9 0 0))),(2,.one (.c (.ptr 6 1 0 0))),(1,.one (.c (.ptr 5 0 0 0)))])
   (fun k H2 _=>k≤N∧H2 0=some ⟨5,1,[eI s]⟩∧H2 1=some ⟨6,1,[[.osl 0 0 0 0 0,.osl 0 0 0 0 0,.osl 0 0 0 0 0,.osl 0 0 0 0 0,.osl 0 0 0 0 0,.osl 0 0 0 0 0]]⟩∧H2 9=some ⟨6,1,[[.isl (s.words.map aJ),.isl (s.holds.map aJ),.osl 1 ia 0 3 ca,.isl ((jX (bf6 k)).map aS),.isl ((jX (bf7 k)).map aS),.isl (s.told.map aS)]]⟩∧H2 ia=some ⟨1,m,(A 3).map aJ⟩) (fun k=>N-k) 0
   ⟨noF,_,by repeat' first|exact bo2|refine xqI rfl rfl ?_|refine xqP (by omega) rfl rfl ?_|fail,aK,by omega,bqC,g1,by rw[hPJ0,hDJ0];exact bp5,ga⟩ ?_
  clear bqC g1 bp5 ga hA
  rintro k H2 nx2 hnx2 ⟨hk4,bqC,g1,bp5,ga⟩ bqG hKM
  have hA:bQ nx2 [0,1,9,ia]:=AM.apart (by simp;omega) (by simp;omega)
  simp only[bQ,eZ] at hA
  by_cases hlt4:k<N
  ·obtain⟨V,hV⟩: ∃V,V=aL s k:=⟨_,rfl⟩
   have hV':s.dD.getD k default=V:=hV.symm
   obtain⟨hV1,hV2⟩:=hvs k hlt4
   have hV1':V.pipe.length≤3:=by simpa [hJ,←hV] using hV1
   rw[←hV] at hV2
   repeat' first|apply bn1<;>(simp only[go_sem,bqC,g1,bp5,hN'])|apply bn2 (by omega)|fail
   refine aM.gP (β:=Nat) (fun j=>en [(7,boP j),(6,boP k),(3,.one (.c (.ptr 6 9 0 0))),(2,.one (.c (.ptr 6 1 0 0))),(1,.one (.c (.ptr 5 0 0 0)))])
    (fun j H3 _=>j≤V.pipe.length∧H3 0=some ⟨5,1,[eI s]⟩∧H3 1=some ⟨6,1,[[.osl 0 0 0 0 0,.osl 0 0 0 0 0,.osl 0 0 0 0 0,.osl 0 0 0 0 0,.osl 0 0 0 0 0,.osl 0 0 0 0 0]]⟩∧H3 9=some ⟨6,1,[[.isl (s.words.map aJ),.isl (s.holds.map aJ),.osl 1 ia 0 3 ca,.isl ((jX (bf6 k++(hJ s k).take j)).map aS),.isl ((jX (bf7 k)).map aS),.isl (s.told.map aS)]]⟩∧H3 ia=some ⟨1,m,(A 3).map aJ⟩) (fun j=>V.pipe.length-j) 0
    ⟨noF,_,by repeat' first|exact bo2|refine xqI rfl rfl ?_|refine xqP (by omega) rfl rfl ?_|fail,aK,by omega,bqC,g1,by rw[List.take_zero,bq6];exact bp5,ga⟩ ?_
   clear bqC g1 bp5 ga
   rintro j H3 nx3 hnx3 ⟨hj,bqC,g1,bp5,ga⟩ bqR hKN
   obtain⟨W,aYL⟩: ∃W,W=bf6 k++(hJ s k).take j:=⟨_,rfl⟩
   rw[←aYL] at bp5
   have hWl:(jX W).length<2^21:=by
    have h1:=hPJl k hk4
    rw[bbP,aYL,t2,CG];omega
   have hA3:bQ nx3 [0,1,9,ia]:=AM.apart (by simp;omega) (by simp;omega)
   simp only[bQ,eZ] at hA3
   by_cases hlt2:j<V.pipe.length
   ·obtain⟨x,hx⟩: ∃x,V.pipe.getD j default=x:=⟨_,rfl⟩
    repeat' first| (first|apply bn1|apply aR1 hWl)<;>(simp only[go_sem,boC,bqC,g1,bp5,hN',hV',hx,hA3];try simp (disch:=omega) only[Iw])|apply bn2 (by omega)|refine⟨by omega,?_⟩|fail
    have hWe:bf6 k++(hJ s k).take (j+1)=W++[(⟨x.who,x.n,oW⟩:Job)]:=by
     rw[nK (by simpa [hJ,←hV] using hlt2),←C0,←aYL]
     congr 2
     rw[←hx]
     simp[hJ,←hV,List.getD,hlt2]
    exact hKN _ _ _ (j+1) noF _ (by omega) (by omega) (by repeat' first|exact bo2|refine xqI rfl rfl ?_|refine xqP (by omega) rfl rfl ?_|fail) aK ⟨by omega,by rw[aA.aC (by omega)];exact bqC,by rw[aA.aC (by omega)];exact g1,by rw[hWe,a7H];exact aA.bH,by rw[aA.aC (by omega)];exact ga⟩
   ·have hj2:j=V.pipe.length:=by omega
    have hWe:W=bf6 (k+1):=by rw[aYL,hPJs,boL (by simp[hJ,←hV];omega)]
    rw[hWe] at bp5
    repeat' first|apply bn1<;>(simp only[go_sem,bqC,hN',hV'])|apply bn3 (by omega)|refine⟨by omega,?_⟩|fail
    refine aM.gP (β:=Nat) (fun j=>en [(8,boP j),(6,boP k),(3,.one (.c (.ptr 6 9 0 0))),(2,.one (.c (.ptr 6 1 0 0))),(1,.one (.c (.ptr 5 0 0 0)))])
     (fun j H3 _=>j≤V.done.length∧H3 0=some ⟨5,1,[eI s]⟩∧H3 1=some ⟨6,1,[[.osl 0 0 0 0 0,.osl 0 0 0 0 0,.osl 0 0 0 0 0,.osl 0 0 0 0 0,.osl 0 0 0 0 0,.osl 0 0 0 0 0]]⟩∧H3 9=some ⟨6,1,[[.isl (s.words.map aJ),.isl (s.holds.map aJ),.osl 1 ia 0 3 ca,.isl ((jX (bf6 (k+1))).map aS),.isl ((jX (bf7 k++V.done.take j)).map aS),.isl (s.told.map aS)]]⟩∧H3 ia=some ⟨1,m,(A 3).map aJ⟩) (fun j=>V.done.length-j) 0
     ⟨noF,_,by repeat' first|exact bo2|refine xqI rfl rfl ?_|refine xqP (by omega) rfl rfl ?_|fail,aK,by omega,bqC,g1,by rw[List.take_zero,bq6];exact bp5,ga⟩ ?_
    clear bqC g1 bp5 ga hA3 hWl aYL hWe W hj hj2 hlt2
    rintro j bqL nx4 hnx4 ⟨hj,bqC,g1,bp5,ga⟩ aNB hKO
    obtain⟨W,aYL⟩: ∃W,W=bf7 k++V.done.take j:=⟨_,rfl⟩
    rw[←aYL] at bp5
    have hWl:(jX W).length<2^21:=by
     have h1:=hDJl k hk4
     rw[bbP,aYL,t2,CG];omega
    have hA3:bQ nx4 [0,1,9,ia]:=AM.apart (by simp;omega) (by simp;omega)
    simp only[bQ,eZ] at hA3
    by_cases hlt2:j<V.done.length
    ·obtain⟨x,hx⟩: ∃x,V.done.getD j default=x:=⟨_,rfl⟩
     repeat' first| (first|apply bn1|apply aS4 (l:=jX W) (j:=x) hWl)<;>(simp only[go_sem,boC,bqC,g1,bp5,hN',hV',hx,hA3];try simp (disch:=omega) only[Iw])|apply bn2 (by omega)|refine⟨by omega,?_⟩|fail
     have hWe:bf7 k++V.done.take (j+1)=W++[x]:=by
      rw[nK hlt2,←C0,←aYL,hx]
     exact hKO _ _ _ (j+1) noF _ (by omega) (by omega) (by repeat' first|exact bo2|refine xqI rfl rfl ?_|refine xqP (by omega) rfl rfl ?_|fail) aK ⟨by omega,by rw[aA.aC (by omega)];exact bqC,by rw[aA.aC (by omega)];exact g1,by rw[hWe,a7H];exact aA.bH,by rw[aA.aC (by omega)];exact ga⟩
    ·have hj2:j=V.done.length:=by omega
     have hWe:W=bf7 (k+1):=by rw[aYL,hDJs,boL (by omega),hV]
     rw[hWe] at bp5
     repeat' first|apply bn1<;>(simp only[go_sem,bqC,hN',hV'];try simp (disch:=omega) only[Iw])|apply bn3 (by omega)|refine⟨by omega,?_⟩|fail
     exact hKM _ _ _ (k+1) noF _ (by omega) (by omega) (by repeat' first|exact bo2|refine xqI rfl rfl ?_|refine xqP (by omega) rfl rfl ?_|fail) aK ⟨by omega,bqC,g1,bp5,ga⟩
  ·have hk5:k=N:=by omega
   have hW3:jX (bf6 k)=(cX s).wait:=by rw[hPJ,hQJ,hk5];show _=jX (qU s);unfold qU;rw[hpl,hN]
   have hD3:jX (bf7 k)=(cX s).done:=by rw[hDJ,hk5];show _=jX (uQ s);unfold uQ;rw[hN]
   rw[hW3,hD3] at bp5
   repeat' first|apply bn1<;>(simp only[go_sem,bqC,g1,bp5,hN',hA])|apply bn3 (by omega)|fail
   refine aB.ao4 (args':=[boR (eSt (cX s))]) (without (fun j=>j=ia) H2) (fun j=>j=ia) rfl (fun i d0 d h1 h2=> ?_) kS ?_
   ·cases i with
    |succ i=>simp at h1
    |zero=>
     simp only[List.getElem?_cons_zero,Option.some.injEq] at h1 h2
     subst h1;subst h2
     apply lY
     show CvL _ _ _ _ [.isl (s.words.map aJ),.isl (s.holds.map aJ),.isl ((cX s).asked.map aJ),.isl ((cX s).wait.map aS),.isl ((cX s).done.map aS),.isl (s.told.map aS)] _
     rw[←hA3]
     exact aH (bB rfl) (aH (bB rfl) (aH (bW bF ga (by rw[hAl 3 (by omega)]) (by rw[hAl 3 (by omega)];exact ga1) rfl) (aH (bB rfl) (aH (bB rfl) (aH (bB rfl) eP)))))
   have bqH:(without (fun j=>j=ia) H2) 1=some ⟨6,1,[[.osl 0 0 0 0 0,.osl 0 0 0 0 0,.osl 0 0 0 0 0,.osl 0 0 0 0 0,.osl 0 0 0 0 0,.osl 0 0 0 0 0]]⟩:=by rw[iI (F:=fun j=>j=ia) (by omega)];exact g1
   refine aQR hst fun aZJ nx5 boW b1 b2 boX boY boZ k0 k1 k2 k3 k4 k5 aUV aUW aIG aII aUX aIH aUY o0 o1 o2 bqD bqE bqF fr=> ?_
   have bqI:=(fr 1 (by omega)).trans bqH
   simp only[go_sem,bqI]
   try apply bn0
   repeat' first|apply bn1<;>(simp only[go_sem])|fail
   refine V4 hQ (boR (eSt (cX s))) _ (fZ (m:=1) rfl aA.bH rfl) (lY (aH ((o0.of (aA.aC (by omega))).frz bF (by simp)) (aH ((o1.of (aA.aC (by omega))).frz bF (by simp)) (aH ((o2.of (aA.aC (by omega))).frz bF (by simp)) (aH ((bqD.of (aA.aC (by omega))).frz dZ (by simp)) (aH ((bqE.of (aA.aC (by omega))).frz dZ (by simp)) (aH ((bqF.of (aA.aC (by omega))).frz dZ (by simp)) eP))))))) rfl rfl
theorem bd7 {c:Cfg} {s:CSt} (hcf:jO c) (hf:beL s) (h:K (dB (cyB c s)) H nx):aB Tryz.prog aI5 [boR (cU c),boR (eI s)] H nx K:=by
 refine aB.pure (args0:=[boR (cU c),boR (eI s)]) (R:=fun rr=>rr=dB (cyB c s)) ?_ rfl (aI ⟨aE rfl,aE rfl,trivial⟩) (fun r hr=>hr▸h)
 clear h
 refine aLQ rfl fun Q hQ=> ?_
 unfold aJO
 have hwl:=hf.w
 have hhl:=hf.h
 have hfp:=hf.pl
 have hfs:=hf.sl
 have hfail: ¬(aQ c∧COk c s)→dB false=dB (cyB c s):=fun h=>congrArg dB (beP h).symm
 by_cases hb:aQ c
 case neg=>
  repeat' first| (first|apply bn1|apply aKG hcf)<;>(simp only[go_sem,eq_false hb])|fail
  all_goals exact aZ hQ _ rfl rfl (hfail fun h=>hb h.1)
 have e1:=eq_true hb
 by_cases h0:JS s.words s.holds
 case neg=>
  repeat' first| (first|apply bn1|apply aKG hcf|apply aKH (show s.words.length<2^40 by omega) (show s.holds.length<2^40 by omega))<;>(simp only[go_sem,e1,eq_false h0])|fail
  all_goals exact aZ hQ _ rfl rfl (hfail fun h=>h0 (ZS h.2.atm))
 have e2:=eq_true h0
 by_cases hpl:(s.bM.length:Int)=3∧(s.dD.length:Int)=4
 case neg=>
  have hno: ¬(aQ c∧COk c s):=fun⟨_,h⟩=>hpl ⟨by rw[h.pl];rfl,by rw[h.sl];rfl⟩
  repeat' first| (first|apply bn1|refine bpL (fun h=> ?_) fun h=> ?_|apply aKG hcf|apply aKH (show s.words.length<2^40 by omega) (show s.holds.length<2^40 by omega))<;>(simp only[go_sem,e1,e2])|apply bn2 (by omega)|fail
  all_goals first|exact aZ hQ _ rfl rfl (hfail hno)| (exfalso;omega)
 have hsl:s.dD.length=4:=by omega
 have hpl:s.bM.length=3:=by omega
 repeat' first| (first|apply bn1|apply bpK (by omega)|apply aKG hcf|apply aKH (show s.words.length<2^40 by omega) (show s.holds.length<2^40 by omega))<;>(simp only[go_sem,e1,e2,hpl,hsl])|apply bn3 (by omega)|fail
 obtain⟨fo,hfo⟩: ∃fo:Nat→Int,fo=fun k=>((aF s k).out.length:Int):=⟨_,rfl⟩
 obtain⟨fh,hfh⟩: ∃fh:Nat→Int,fh=fun k=>(((aL s k).pipe.length:Int)+(aL s k).done.length):=⟨_,rfl⟩
 (refine aM.loop (α:={k:Nat//k≤3∧(∀i,i<k→mD c i (aF s i))}) (fun u=>en [(6,boP u.1),(5,boP (jS fo u.1)),(3,.one (.c (.fQ (eI s)))),(2,.one (.c (.fQ (cU c))))]) (fun _=>.nil) _ (fun u=>3-u.1) ⟨0,by omega,(by intros;first|trivial|omega)⟩ (bU (m5 _) (by repeat' first|exact bo2|refine xqI rfl rfl ?_| (with_reducible apply bo3)| ((with_reducible apply bo1);exact bpH rfl (by simp) rfl rfl rfl)|fail)) ?_);(rintro⟨k,hk,hinv⟩ bpQ hKL)
 have hs1:=KF (f:=fo) (m:=4) (by omega) k fun j hj=>by have:=(hinv j (by omega)).ol;rw[hfo];dsimp only;omega
 by_cases hlt:k<3
 ·obtain⟨P,boS⟩: ∃P,P=aF s k:=⟨_,rfl⟩
  have hP':s.bM.getD k default=P:=boS.symm
  obtain⟨hf1,hf2⟩:=hf.port k
  by_cases hok:mD c k (aF s k)
  ·have hpt:=beT hok
   have hol:=hok.ol
   rw[←boS] at hol
   have hsum:jS fo (k+1)=jS fo k+P.out.length:=by rw[jS,hfo,boS]
   have hin:=iS hinv hok
   repeat' first| (first|apply bn1|apply a5O hb hpl hlt hf1 hf2)<;>(simp only[go_sem,hP',hpl,hpt];try simp (disch:=omega) only[Iw])|apply bn2 (by omega)|refine⟨by omega,?_⟩|fail
   all_goals (rw[←hsum];(refine hKL _ _ _ ⟨k+1,by omega,hin⟩ (by omega) (by(try dsimp only);omega) (bU (m5 _) (by repeat' first|exact bo2|refine xqI rfl rfl ?_|fail))))
  ·have hpt:=a8A hok
   repeat' first| (first|apply bn1|apply a5O hb hpl hlt hf1 hf2)<;>(simp only[go_sem,hP',hpl,hpt])|apply bn2 (by omega)|fail
   all_goals exact aZ hQ _ rfl rfl (hfail fun h=>hok (h.2.port k hlt))
 ·have hk3:k=3:=by omega
  subst hk3
  have hPs:a19 c s:=⟨hpl,hinv⟩
  have hz0:jS fh 0=0:=rfl
  repeat' first|apply bn1<;>(simp only[go_sem])|apply bn3 (by omega)|fail
  refine aM.loop (α:={k:Nat//k≤4∧ ∀i,i<k→Z0 c s i}) (fun u=>en [(7,boP u.1),(5,boP (jS fo 3-jS fh u.1)),(3,.one (.c (.fQ (eI s)))),(2,.one (.c (.fQ (cU c))))]) (fun _=>.nil) _ (fun u=>4-u.1) ⟨0,by omega,fun i hi=>by omega⟩ (bU (m5 _) (by repeat' first|exact bo2|refine xqI rfl rfl ?_| (with_reducible apply bo3)| ((with_reducible apply bo0);(exact bpF (by((try dsimp only);exact diE (by omega))) rfl))| ((with_reducible apply bo1);apply bo7)|fail)) ?_
  rintro⟨k,hk,hvo⟩ bqG hKM
  have hs2:=KF (f:=fh) (m:=4) (by omega) k fun j hj=>by have h1:=(hvo j (by omega)).pl;have h2:=(hvo j (by omega)).dl;rw[hfh];dsimp only;omega
  by_cases hlt4:k<4
  ·obtain⟨V,hV⟩: ∃V,V=aL s k:=⟨_,rfl⟩
   have hV':s.dD.getD k default=V:=hV.symm
   obtain⟨hf1,hf2,hf3⟩:=hf.slv k
   by_cases hok:Z0 c s k
   ·have hv1:=hok.pl
    have hv2:=hok.dl
    rw[←hV] at hv1 hv2
    have hpt:=beR hok
    have hsum:jS fo 3-jS fh (k+1)=jS fo 3-jS fh k-V.pipe.length-V.done.length:=by
     have h1:fh k=V.pipe.length+V.done.length:=by rw[hfh,hV]
     have h2:jS fh (k+1)=jS fh k+fh k:=rfl
     omega
    have hin:=iS hvo hok
    repeat' first| (first|apply bn1|apply a5I hb hPs hsl hlt4 hf1 hf2 hf3)<;>(simp only[go_sem,hV',hsl,hpt];try simp (disch:=omega) only[Iw])|apply bn2 (by omega)|refine⟨by omega,?_⟩|fail
    all_goals (rw[←hsum];exact hKM _ _ _ ⟨k+1,by omega,hin⟩ (by omega) (by(try dsimp only);omega) (bU (m5 _) (by repeat' first|exact bo2|refine xqI rfl rfl ?_|fail)))
   ·have hpt:=a6D hok
    repeat' first| (first|apply bn1|apply a5I hb hPs hsl hlt4 hf1 hf2 hf3)<;>(simp only[go_sem,hV',hsl,hpt])|apply bn2 (by omega)|fail
    all_goals exact aZ hQ _ rfl rfl (hfail fun h=>hok (h.2.slv k hlt4))
  ·have hk4:k=4:=by omega
   subst hk4
   have hab:=bd9 hf hPs hsl hvo
   by_cases hct:jS fo 3=jS fh 4
   case neg=>
    have hno: ¬(aQ c∧COk c s):=fun⟨_,h⟩=>hct (by
     have:=h.count
     unfold hU at this
     rw[hfo,hfh]
     simp only[jS]
     omega)
    have hct':(jS fo 3-jS fh 4=0)=False:=eq_false (by omega)
    repeat' first|apply bn1<;>(simp only[go_sem,hct'])|apply bn3 (by omega)|fail
    all_goals exact aZ hQ _ rfl rfl (hfail hno)
   have hct':(jS fo 3-jS fh 4=0)=True:=eq_true (by omega)
   have htl:=aXH (s:=cX s) hb
   repeat' first| (first|apply bn1|apply bdR hab|apply aMQ hcf hab.st)<;>(simp only[go_sem,hct',htl])|apply bn3 (by omega)|fail
   all_goals (
    refine aZ hQ _ rfl rfl (congrArg dB ?_)
    by_cases hst:BA c (cX s)
    ·rw[aXJ hst]
     refine(bfB hb ⟨⟨by have:=h0.1.1;omega,h0.1.2,by have:=h0.2.1;omega,h0.2.2⟩,hpl,hsl,hinv,hvo,?_,hst⟩).symm
     unfold hU
     rw[hfo,hfh] at hct
     simp only[jS] at hct
     omega
    ·rw[aWH hst,beP fun h=>hst h.2.st])
end
end Go.Proofs.YtmccpdapaccnoaaGreat
namespace Go.AM
def bmC:CSt:=⟨[],[],[],[],[]⟩
def inB (i:CIn):Bool:=decide (i.ready.length=3∧i.n9.length=4∧i.send.length=3)
theorem bm2 {i:CIn}:inB i=true↔vZ i:=decide_eq_true_iff
noncomputable def bmA (c:Cfg) (s:CSt) (i:CIn):CSt:=if cyB c s=true∧inB i=true then vF c i s else bmC
end Go.AM
namespace Go.Proofs.YtmccpdapaccnoaaGreat
open Go Go.AM
attribute [local irreducible] aM wv aB vd wvH
section
variable {H : aA} {nx : Nat} {K : D → aA → Nat → Prop}
theorem bl6 {i:CIn} (h1:i.ready.length<2^20) (h2:i.n9.length<2^20) (h3:i.send.length<2^20) (h:K (dB (inB i)) H nx):aB Tryz.prog uJ [boR (eIn i)] H nx K:=by
 refine aB.pure (args0:=[boR (eIn i)]) (R:=fun rr=>rr=dB (inB i)) ?_ rfl (aI ⟨aE rfl,trivial⟩) (fun r hr=>hr▸h)
 clear h
 refine XL rfl fun Q hQ=> ?_
 unfold CT
 by_cases g1:i.ready.length=3
 ·by_cases g2:i.n9.length=4
  ·by_cases g3:i.send.length=3
   ·have hd:inB i=true:=decide_eq_true ⟨g1,g2,g3⟩
    repeat' first| (first|apply bn1|apply bpJ (by omega))<;>(simp only[go_sem,g1,g2,g3])|fail
    all_goals exact aZ hQ _ rfl rfl (congrArg dB hd.symm)
   ·have hd:inB i=false:=decide_eq_false fun h=>g3 h.2.2
    have e3:decide ((i.send.length:Int)=3)=false:=decide_eq_false (by omega)
    repeat' first| (first|apply bn1|apply bpJ (by omega))<;>(simp only[go_sem,g1,g2,e3])|fail
    all_goals first|exact aZ hQ _ rfl rfl (congrArg dB hd.symm)|omega
  ·have hd:inB i=false:=decide_eq_false fun h=>g2 h.2.1
   repeat' first| (first|apply bn1|apply bpJ (by omega)|apply bpK (by omega))<;>(simp only[go_sem,g1])|fail
   all_goals first|exact aZ hQ _ rfl rfl (congrArg dB hd.symm)|omega
 ·have hd:inB i=false:=decide_eq_false fun h=>g1 h.1
  repeat' first| (first|apply bn1|apply bpK (by omega))<;>(simp only[go_sem])|fail
  all_goals first|exact aZ hQ _ rfl rfl (congrArg dB hd.symm)|omega
theorem bmP {c:Cfg} {s:CSt} {i:CIn} (hcf:jO c) (hf:beL s) (hi:bm3 i)
 (h: ∀H' nx',nx≤nx'→(∀id,id<nx→H' id=H id)→K (boR (eI (bmA c s i))) H' nx'):aB Tryz.prog FO [boR (cU c),boR (eI s),boR (eIn i)] H nx K:=by
 obtain⟨l1,l2,l3⟩:=hi
 by_cases hg:cyB c s=true∧inB i=true
 ·obtain⟨hb,hs⟩:=bmR.1 hg.1
  unfold bmA at h
  rw[if_pos hg] at h
  obtain⟨h1,h2⟩:=hg
  apply aB.tW
  refine PB rfl fun Q hQ=> ?_
  unfold vJ
  repeat' first| (first|apply bn1|apply bd4 hcf hf|apply bl6 (i:=i) (by omega) (by omega) (by omega)|refine fJ (hs.sz hb) (fun H' nx' nm cells hx hR boS ffr=> ?_))<;>(simp only[go_sem,h1,h2,boC])|fail
  have hcl:cells.length=5:=by obtain⟨_,_,_,_,_,rfl,_⟩:=hR.ex;rfl
  have hrow:cells++List.drop cells.length [D1.osl 0 0 0 0 0,.osl 0 0 0 0 0,.osl 0 0 0 0 0,.osl 0 0 0 0 0,.osl 0 0 0 0 0]=cells:=by rw[hcl];simp
  refine⟨hcl,by omega,?_⟩
  rw[hrow]
  try apply bn0
  refine aM.TF fun bqO hG0=> ?_
  have gfr: ∀id,id<nx+4→bqO id=H' id:=fun id hid=>by
   rw[hG0,aA.aC (by omega)]
  have c0:bqO nx=some ⟨3,1,[cU c]⟩:=by rw[gfr _ (by omega),ffr _ (by omega)];simp only[aA.set,bqT,Nat.reduceEqDiff,if_false,if_true,brN,reduceIte]
  have c2:bqO (nx+2)=some ⟨3,1,[eIn i]⟩:=by rw[gfr _ (by omega),ffr _ (by omega)];simp only[aA.set,bqU,Nat.reduceEqDiff,bqV,if_false,if_true,reduceIte]
  have c3:bqO (nx+3)=some ⟨5,1,[[.osl 0 0 0 0 0,.osl 0 0 0 0 0,.osl 0 0 0 0 0,.osl 0 0 0 0 0,.osl 0 0 0 0 0]]⟩:=by rw[gfr _ (by omega),ffr _ (by omega)];simp only[aA.set,bqU,Nat.reduceEqDiff,bqV,if_false,if_true,reduceIte]
  have glo: ∀id,id<nx→bqO id=H id:=fun id hid=>by
   rw[gfr _ (by omega),ffr _ (by omega)];simp only[aA.set,show ¬id=nx by omega,show ¬id=nx+1 by omega,show ¬id=nx+2 by omega,show ¬id=nx+3 by omega,if_false]
  have bnC:Rep (fun id=>id<nx+4) bqO nx' (nx+15) nm s:=by
   have hlo:=fun k hk=>boS.rng k hk
   refine⟨⟨cells,by rw[hG0];exact aA.bH,hR.frame fun k hk=>by have:=hlo k hk;rw[hG0,aA.aC (by omega)]⟩,⟨boS.inj,fun k hk=>by have:=hlo k hk;omega,fun k hk hn=>by have:=hlo k hk;omega⟩,fun k hk=>by have:=hlo k hk;omega,⟨by omega,by omega⟩,fun id hid=>by omega⟩
  clear hG0 hR boS ffr gfr
  have hA:bQ nx' [nx,nx+2]:=AM.apart (by simp) (by simp;omega)
  simp only[bQ,eZ] at hA
  repeat' first|apply bn1<;>(simp only[go_sem,t1,bqT,c0,c2,hA])|fail
  refine tX (X:=fun id=>id<nx+4) hb hs (bm2.1 h2) (bnC.frame (by omega) rfl (fun _ _=>rfl) fun id hid2=>⟨by omega,by omega,fun k hk he=>bnC.names.av k hk (he▸hid2)⟩) fun H2 nx2 nm2 a b d e hx2 hR2 hX2=> ?_
  have hS:COk c (vF c i s):=PN hb hs
  generalize vF c i s=S at*
  obtain⟨cells2,hst,hRL⟩:=hR2.st
  obtain⟨wc,hc,pc,vc,tc,hce,_⟩:=hRL.ex
  have hst2:=hst
  rw[hce] at hst2
  unfold U2 at hst2
  simp only[go_sem]
  repeat' first|apply bn1<;>(simp only[go_sem,hst2])|fail
  have hn1:=hR2.names.lt
  refine aB.ao4 (args':=[boR (eI S)]) (without (fun j=>∃k,k<19∧j=nm2 k) H2) (fun j=>∃k,k<19∧j=nm2 k) rfl (fun i d0 d h1 h2=> ?_) kS ?_
  ·match i with
   |0=>
    simp only[List.getElem?_cons_zero,Option.some.injEq] at h1 h2
    subst h1;subst h2
    have:=A8 (σ:=id) (nh:=nx2+3) (hRL.VI (F:=fun j=>∃k,k<19∧j=nm2 k) (fun k hk=>⟨k,hk,rfl⟩) hS.pl hS.sl)
    rw[hce] at this
    exact lY this
   |i+1=>simp at h1
  refine fJ (hS.sz hb) fun H3 nx3 nm3 cells3 hx3 hR3 hP3 ffr3=> ?_
  have hcl3:cells3.length=5:=by obtain⟨_,_,_,_,_,rfl,_⟩:=hR3.ex;rfl
  have hrow3:cells3++List.drop cells3.length [D1.osl 0 0 0 0 0,.osl 0 0 0 0 0,.osl 0 0 0 0 0,.osl 0 0 0 0 0,.osl 0 0 0 0 0]=cells3:=by rw[hcl3];simp
  have e3:H3 (nx+3)=some ⟨5,1,[[.osl 0 0 0 0 0,.osl 0 0 0 0 0,.osl 0 0 0 0 0,.osl 0 0 0 0 0,.osl 0 0 0 0 0]]⟩:=by
   rw[ffr3 _ (by omega),iI (fun⟨k,hk,he⟩=>hR2.names.av k hk (show nm2 k<nx+4 by omega)),hX2 _ (show nx+3<nx+4 by omega)];exact c3
  simp only[go_sem,e3]
  refine⟨hcl3,by omega,?_⟩
  rw[hrow3]
  try apply bn0
  repeat' first|apply bn1<;>(simp only[go_sem])|fail
  refine hQ _ _ _ _ _ (.inr rfl) (fZ rfl aA.bH hcl3) ⟨boR (eI S),_,fun j=>∃k,k<19∧j=nm3 k,?_,kS,h _ _ (by omega) fun id hid=> ?_⟩
  ·exact lY (A8 ((hR3.frame fun k hk=>aA.aC (by have:=hP3.rng k hk;omega)).VI (fun k hk=>⟨k,hk,rfl⟩) hS.pl hS.sl))
  ·rw[iI (fun⟨k,hk,he⟩=>by have:=hP3.rng k hk;omega),aA.aC (by omega),ffr3 _ (by omega),iI (fun⟨k,hk,he⟩=>hR2.names.av k hk (show nm2 k<nx+4 by omega)),hX2 _ (show id<nx+4 by omega)]
   exact glo id hid
 ·unfold bmA at h
  rw[if_neg hg] at h
  apply aB.tW
  refine PB rfl fun Q hQ=> ?_
  unfold vJ
  have hz:eI bmC=[.isl [],.isl [],.isl [],.isl [],.isl []]:=rfl
  by_cases h1:cyB c s=true
  ·have h2:inB i=false:=by cases hh:inB i;rfl;exact absurd ⟨h1,hh⟩ hg
   repeat' first| (first|apply bn1|apply bd4 hcf hf|apply bl6 (i:=i) (by omega) (by omega) (by omega))<;>(simp only[go_sem,h1,h2,boC])|fail
   exact hQ _ _ _ _ _ (.inr rfl) (LL rfl aA.bH rfl) ⟨boR (eI bmC),_,noF,lY (aH (.frz (.nil ..)) (aH (.frz (.nil ..)) (aH (.frz (.nil ..)) (aH (.frz (.nil ..)) (aH (.frz (.nil ..)) eP))))),aK,h _ _ (by omega) fun id hid=>by simp (disch:=omega) only[aA.aC]⟩
  ·have h2:cyB c s=false:=by cases hh:cyB c s;rfl;exact absurd hh h1
   repeat' first| (first|apply bn1|apply bd4 hcf hf)<;>(simp only[go_sem,h2,boC])|fail
   exact hQ _ _ _ _ _ (.inr rfl) (LL rfl aA.bH rfl) ⟨boR (eI bmC),_,noF,lY (aH (.frz (.nil ..)) (aH (.frz (.nil ..)) (aH (.frz (.nil ..)) (aH (.frz (.nil ..)) (aH (.frz (.nil ..)) eP))))),aK,h _ _ (by omega) fun id hid=>by simp (disch:=omega) only[aA.aC]⟩
end
def av4:AC:= (boG [f5 2 0,f5 3 1,dO 4 boD] [2,3] (boG [RF 5 0 2,f8 6 2 5,RF 7 0 3,f8 8 2 7,f6 9 wK [6,8],RM 10 9,g9 11 2 2 10 true,hD 12 11 10 true,g9 13 2 3 10 true,hD 14 13 10 true,GQ 15 (.call jM [12,14]) 10 true,f3 16 10 15 boD,RM 17 16,g9 18 3 2 17 true,hD 19 18 17 true,g9 20 3 3 17 true,hD 21 20 17 true,GQ 22 (.call jN [19,21]) 17 true,f3 23 17 22 boD,RM 24 23,g9 25 4 2 24 true,hD 26 25 24 true,g9 27 4 3 24 true,hD 28 27 24 true,GQ 29 (.call jN [26,28]) 24 true,f3 30 24 29 boD,RM 31 30,g9 32 5 2 31 true,hD 33 32 31 true,g9 34 5 3 31 true,hD 35 34 31 true,GQ 36 (.call jN [33,35]) 31 true,f3 37 31 36 boD,RM 4 37] [4] .ret))
def aw2:List aW:=[.tm 4]
theorem ayU:aO Tryz.prog Tryz.f43 (bnD av4)=some (av4,aw2):=by kernel_rfl
theorem ayR:aN Tryz.prog au9 Tryz.f43 av4 aw2:=
 aN.mk Tryz.func43 (by kernel_rfl) ayU
section
variable {H : aA} {nx : Nat} {K : D → aA → Nat → Prop}
theorem ayX (s:TSt) (hw:s.words.length<2^40) (hh:s.holds.length<2^40) (ha:s.asked.length<2^40) (h1:s.wait.length<2^40) (h2:s.done.length<2^40) (h3:s.told.length<2^40) (hd: ∀j∈s.wait++s.done++s.told,j.rsp.data.length<2^40):aB Tryz.prog au9 [boR (eSt s),boR (eSt s)] .nil 0 fun rr _ _=>rr.plain=true∧rr=dB true:=by
 refine ayR rfl fun Q hQ=> ?_
 unfold av4
 have hd1:=fun j (hj:j∈s.wait)=>hd j (by simp[hj])
 have hd2:=fun j (hj:j∈s.done)=>hd j (by simp[hj])
 have hd3:=fun j (hj:j∈s.told)=>hd j (by simp[hj])
 repeat' first| (with_reducible first| (apply hK _ _ _;clear hK K)|apply btD)| (first| (with_reducible refine btI fun K hK=> ?_)| (apply YN (a:=s.words) (b:=s.holds) (u:=s.words) (v:=s.holds) hw hh hw hh)| (apply tP ha ha)| (apply AL h1 h1 hd1 hd1)| (apply AL h2 h2 hd2 hd2)| (apply AL h3 h3 hd3 hd3))<;>(simp only[go_sem])| ((with_reducible apply btK);try simp only[AQ.then,AQ.blk,reduceIte,Nat.reduceEqDiff])|fail
 all_goals exact aZ hQ _ rfl rfl rfl
theorem ayZ {s:TSt} (hw:s.words.length<2^40) (hh:s.holds.length<2^40) (ha:s.asked.length<2^40) (h1:s.wait.length<2^40) (h2:s.done.length<2^40) (h3:s.told.length<2^40) (hd: ∀j∈s.wait++s.done++s.told,j.rsp.data.length<2^40) (h:K (dB true) H nx):aB Tryz.prog au9 [boR (eSt s),boR (eSt s)] H nx K:=
 (ayX s hw hh ha h1 h2 h3 hd).pure rfl (aI ⟨aE rfl,aE rfl,trivial⟩) (fun r hr=>hr▸h)
end
def btY:AC:= (boG [f5 3 0,f5 4 1,f5 5 2,dO 6 (.kv (.slice none 0 0))] [3,4,5] (.seq (boG [f8 8 3 3,f8 9 5 4,f6 10 mW [8,9],f4 11 10,RM 12 11,GQ 13 (.load 3 true 5) 12 false,GQ 14 (.call uJ [13]) 12 false,hP 15 14 12 false,f3 16 12 boE 15] [3,4,5,16] (.cond 16 (boG [dO 6 (.kv (.slice none 0 0))] [6] .ret) .skip)) (boG [f8 17 5 4,f6 18 cV [17],f7 7 [OZ,OZ,OZ,OZ,OZ],g0 5 true 7 18] [3,5,7] (boG [f8 19 3 3,f8 20 3 5,f6 21 jF [7,19,20],rq 22 (.field 0 1 false 21),f6 23 btW [22],RM 6 23] [6] .ret))))
def bt9:List aW:=[.tm 6]
theorem buE:aO Tryz.prog Tryz.f42 (bnD btY)=some (btY,bt9):=by kernel_rfl
def btU:AC:= (boG [dO 2 (.kv (.slice none 0 0))] [0] (boG [RM 3 0,f6 4 btT [3],f6 5 y4 [4],RM 2 5] [2] .ret))
def btZ:List aW:=[.tm 2]
theorem bt6:aO Tryz.prog Tryz.f120 (bnD btU)=some (btU,btZ):=by kernel_rfl
def btS:AC:= (boG [dO 2 (.kv (.slice none 0 0))] [0] (.seq (boG [RM 3 0,rq 4 (.xop (.qJ false) [3])] [0,4] (.cond 4 (boG [dO 2 (.kv (.slice none 0 0))] [2] .ret) .skip)) (boG [rq 5 (.bC 3 0 [VZ,VZ,VZ] []),RM 6 0,rq 7 (.append 3 5 6),RM 2 7] [2] .ret)))
def btV:List aW:=[.tm 2]
theorem bt0:aO Tryz.prog Tryz.f218 (bnD btS)=some (btS,btV):=by kernel_rfl
theorem bt1:aN Tryz.prog btT Tryz.f218 btS btV:=
 aN.mk Tryz.func218 (by kernel_rfl) bt0
end Go.Proofs.YtmccpdapaccnoaaGreat
