/- Texts laid together by a program: rules, contracts and the walk that leads to the law. -/
import Derived.Test.YtmccpdapaccnoaaGreatPK24
set_option linter.unusedVariables false
set_option linter.unusedSimpArgs false
set_option linter.unusedSectionVars false
set_option maxRecDepth 100000
set_option maxHeartbeats 8000000
namespace Go.Proofs.YtmccpdapaccnoaaGreat
open Go Go.AM
attribute [local irreducible] aM wv aB vd wvH
theorem aTP {l:List Job} (h: ∀i,i<l.length→key (l.getD i default)∉(l.take i).map key):(l.map key).Nodup:=by refine brY.2 (Z6.2 fun i j hi hj hij he=> ?_);apply h j hj;rw[show l.getD j default=l[j] by simp[List.getD,hj],←he];exact brI (bqY.2 ⟨i,by simp;omega,by simp⟩)
theorem aTN {l:List Job} (h:(l.map key).Nodup) {i:Nat} (hi:i<l.length):key (l.getD i default)∉(l.take i).map key:=by
 intro hm;obtain⟨x,hx,he⟩:=CF.1 hm;obtain⟨j,hj,rfl⟩:=bqY.1 hx;have hji:j<i:=by simp at hj;omega
 have h1:=Z6.1 (brY.1 h) j i (by omega) hi hji;rw[show l.getD i default=l[i] by simp[List.getD,hi]] at he;simp only[brU] at he;exact h1 he
section
variable {H : aA} {nx : Nat} {K : D → aA → Nat → Prop}
theorem aMG {c:Cfg} {s:TSt} (hb:aQ c) (ha:s.asked.length=3) (har:aTF c s.asked) (hl:s.told.length<2^21) (hd: ∀j∈s.told,j.rsp.data.length<2^21) (h:K (dB (aRF c s)) H nx):aB Tryz.prog aIX [boR (cU c),boR (eSt s)] H nx K:=by
 refine aB.pure (args0:=[boR (cU c),boR (eSt s)]) (R:=fun rr=>rr=dB (aRF c s)) ?_ rfl (aI ⟨aE rfl,aE rfl,trivial⟩) (fun r hr=>hr▸h);clear h;refine aK7 rfl fun Q hQ=> ?_;unfold aJD;obtain⟨hp3,hp12⟩:=hC hb;repeat' first|apply bn1<;>(simp only[go_sem])|fail
 (refine aM.loop (α:={k:Nat//k≤s.told.length∧(∀i,i<k→InA s.asked (s.told.getD i default)∧as5 c (s.told.getD i default)∧key (s.told.getD i default)∉(s.told.take i).map key)}) (fun u=>en [(5,boP u.1),(3,.one (.c (.fQ (eSt s)))),(2,.one (.c (.fQ (cU c))))]) (fun _=>.nil) _ (fun u=>s.told.length-u.1) ⟨0,by omega,(by intros;first|trivial|omega)⟩ (bU (m5 _) (by repeat' first|exact bo2|refine xqI rfl rfl ?_| (with_reducible apply bo3)| ((with_reducible apply bo1);exact bpH rfl (by simp) rfl rfl rfl)|fail)) ?_);(rintro⟨k,hk,hinv⟩ bpQ hKL);by_cases hlt:k<s.told.length
 ·obtain⟨j,hj⟩: ∃j,j=s.told.getD k default:=⟨_,rfl⟩
  have hj':=hj.symm;have hm:j∈s.told:=by rw[hj];exact cC hlt
  have hdl:=hd j hm;have hgood:InA s.asked j→as5 c j→key j∉(s.told.take k).map key→∀i,i<k+1→InA s.asked (s.told.getD i default)∧as5 c (s.told.getD i default)∧key (s.told.getD i default)∉(s.told.take i).map key:=fun h1 h2 h3=>iS hinv (by rw[hj'];exact⟨h1,h2,h3⟩);have hbad: ¬(InA s.asked j∧as5 c j∧key j∉(s.told.take k).map key)→aRF c s=false:=fun h=>aTL fun aIF=>h ⟨aIF.inA j hm,aIF.rsp j hm,by rw[hj];exact aTN aIF.once hlt⟩;by_cases hw:0≤j.who∧j.who≤2
  ·have hask:=har j.who.toNat (by omega);have hw12:=hp12 j.who.toNat;by_cases hn:0≤j.n∧j.n≤s.asked.getD j.who.toNat default-1
   ·have hin:InA s.asked j:=⟨hw,hn.1,by omega⟩
    by_cases hr:pA j.rsp
    ·by_cases hid:j.rsp.id=((c.cP.getD j.who.toNat default).getD j.n.toNat default).id
     ·have hra:as5 c j:=⟨hr,hid⟩
      by_cases hk0:0≤bK (iM j.who j.n) (s.told.take k)
      ·repeat' first| (first|apply bn1|apply aBC|apply aMP (show j.rsp.data.length<2^40 by omega)| (apply aKK (l:=s.told.take k) (by simp;omega)))<;>(simp only[go_sem,hj',eq_true hw,eq_true hn,eq_true hr,hid.symm,hp3,ha];try simp (disch:=omega) only[Iw])|apply bn2 (by omega)|refine⟨by omega,?_⟩|fail
       all_goals first| (exfalso;omega)|exact aZ hQ (dB false) rfl rfl (congrArg dB (hbad fun⟨_,_,h⟩=>h (ZP.1 hk0))).symm
      ·repeat' first| (first|apply bn1|apply aBC|apply aMP (show j.rsp.data.length<2^40 by omega)| (apply aKK (l:=s.told.take k) (by simp;omega)))<;>(simp only[go_sem,hj',eq_true hw,eq_true hn,eq_true hr,hid.symm,hp3,ha];try simp (disch:=omega) only[Iw])|apply bn2 (by omega)|apply bn3 (by omega)|refine⟨by omega,?_⟩|fail
       all_goals first| (exfalso;omega)| (refine hKL _ _ _ ⟨k+1,by omega,hgood hin hra (fun h=>hk0 (ZP.2 h))⟩ (by omega) (by(try dsimp only);omega) (bU (m5 _) (by repeat' first|exact bo2|refine xqI rfl rfl ?_|fail)))
     ·repeat' first| (first|apply bn1|apply bpJ (by omega)|apply aBC|apply aMP (show j.rsp.data.length<2^40 by omega))<;>(simp only[go_sem,hj',eq_true hw,eq_true hn,eq_true hr,hp3,ha];try simp (disch:=omega) only[Iw])|apply bn2 (by omega)|refine⟨by omega,?_⟩|fail
      all_goals first| (exfalso;omega)|exact aZ hQ (dB false) rfl rfl (congrArg dB (hbad fun⟨_,h,_⟩=>hid h.2)).symm
    ·repeat' first| (first|apply bn1|apply aBC|apply aMP (show j.rsp.data.length<2^40 by omega))<;>(simp only[go_sem,hj',eq_true hw,eq_true hn,eq_false hr,hp3,ha];try simp (disch:=omega) only[Iw])|apply bn2 (by omega)|refine⟨by omega,?_⟩|fail
     all_goals first| (exfalso;omega)|exact aZ hQ (dB false) rfl rfl (congrArg dB (hbad fun⟨_,h,_⟩=>hr h.1)).symm
   ·repeat' first| (first|apply bn1|apply aBC)<;>(simp only[go_sem,hj',eq_true hw,eq_false hn,ha];try simp (disch:=omega) only[Iw])|apply bn2 (by omega)|refine⟨by omega,?_⟩|fail
    all_goals first| (exfalso;omega)|exact aZ hQ (dB false) rfl rfl (congrArg dB (hbad fun⟨h1,_,_⟩=>hn ⟨h1.2.1,by have:=h1.2.2;omega⟩)).symm
  ·repeat' first| (first|apply bn1|apply aBC)<;>(simp only[go_sem,hj',eq_false hw])|apply bn2 (by omega)|refine⟨by omega,?_⟩|fail
   all_goals first| (exfalso;omega)|exact aZ hQ (dB false) rfl rfl (congrArg dB (hbad fun⟨h1,_,_⟩=>hw h1.1)).symm
 ·repeat' first|apply bn1<;>(simp only[go_sem])|apply bn3 (by omega)|fail
  have hk2:k=s.told.length:=by omega
  subst hk2;exact aZ hQ (dB true) rfl rfl (congrArg dB (aTM ⟨fun x hx=>aKJ (fun i hi=>(hinv i hi).1) x hx,aTP fun i hi=>(hinv i hi).2.2,fun x hx=>aKJ (P:=as5 c) (fun i hi=>(hinv i hi).2.1) x hx⟩).symm)
theorem aMQ {c:Cfg} {s:TSt} (hcf:jO c) (hf:aTQ s) (h:K (dB (tlB c s)) H nx):aB Tryz.prog aI6 [boR (cU c),boR (eSt s)] H nx K:=by
 refine aB.pure (args0:=[boR (cU c),boR (eSt s)]) (R:=fun rr=>rr=dB (tlB c s)) ?_ rfl (aI ⟨aE rfl,aE rfl,trivial⟩) (fun r hr=>hr▸h);clear h;refine aMM rfl fun Q hQ=> ?_;unfold aJP;have hwf:=hf.words;have hhf:=hf.holds;have haf:=hf.asked;have hl3:=hf.wait;have hl4:=hf.done;have hl5:=hf.told;have hd3: ∀j∈s.wait,j.rsp.data.length<2^21:=fun j hj=>hf.data j (by simp[hj]);have hd4: ∀j∈s.done,j.rsp.data.length<2^21:=fun j hj=>hf.data j (by simp[hj]);have hd5: ∀j∈s.told,j.rsp.data.length<2^21:=fun j hj=>hf.data j (by simp[hj]);by_cases hb:aQ c
 case neg=>
  repeat' first| (first|apply bn1|apply aKG hcf)<;>(simp only[go_sem,eq_false hb])|fail
  all_goals exact aZ hQ (dB false) rfl rfl (congrArg dB (aOH fun h=>hb h.1)).symm
 by_cases hat:JS s.words s.holds
 case neg=>
  repeat' first| (first|apply bn1|apply aKG hcf|apply aKH (show s.words.length<2^40 by omega) (show s.holds.length<2^40 by omega))<;>(simp only[go_sem,eq_true hb,eq_false hat])|fail
  all_goals exact aZ hQ (dB false) rfl rfl (congrArg dB (aOH fun h=>hat ⟨⟨by rw[h.2.atm.wl];rfl,h.2.atm.wr⟩,by rw[h.2.atm.hl];rfl,h.2.atm.hr⟩)).symm
 by_cases ha:s.asked.length=3
 case neg=>
  repeat' first| (first|apply bn1|apply aKG hcf|apply aKH (show s.words.length<2^40 by omega) (show s.holds.length<2^40 by omega))<;>(simp only[go_sem,eq_true hb,eq_true hat])|apply bn2 (by omega)|fail
  all_goals first| (exfalso;omega)|exact aZ hQ (dB false) rfl rfl (congrArg dB (aOH fun h=>ha h.2.JI)).symm
 obtain⟨hp3,hp12⟩:=hC hb;repeat' first| (first|apply bn1|apply aKG hcf|apply aKH (show s.words.length<2^40 by omega) (show s.holds.length<2^40 by omega))<;>(simp only[go_sem,eq_true hb,eq_true hat,ha])|apply bn3 (by omega)|fail
 have hsz: ∀k,k≤3→(∀i,i<k→0≤s.asked.getD i default∧s.asked.getD i default≤((c.cP.getD i default).length:Int))→0≤jS (fun j=>s.asked.getD j default) k∧jS (fun j=>s.asked.getD j default) k≤12*k:=fun k hk h=>KF (m:=12) (by omega) k fun j hj=>by have:=h j hj;have:=hp12 j;(try dsimp only);omega
 (refine aM.loop (α:={k:Nat//k≤3∧(∀i,i<k→0≤s.asked.getD i default∧s.asked.getD i default≤((c.cP.getD i default).length:Int))}) (fun u=>en [(6,boP u.1),(5,boP (jS (fun j=>s.asked.getD j default) u.1)),(3,.one (.c (.fQ (eSt s)))),(2,.one (.c (.fQ (cU c))))]) (fun _=>.nil) _ (fun u=>3-u.1) ⟨0,by omega,(by intros;first|trivial|omega)⟩ (bU (m5 _) (by repeat' first|exact bo2|refine xqI rfl rfl ?_| (with_reducible apply bo3)| ((with_reducible apply bo1);exact bpH rfl (by simp) rfl rfl rfl)|fail)) ?_);(rintro⟨k,hk,hinv⟩ bpQ hKL);have hz:=hsz k hk hinv;by_cases hlt:k<3
 ·have hpk:=hp12 k;have hss:jS (fun j=>s.asked.getD j default) (k+1)=jS (fun j=>s.asked.getD j default) k+s.asked.getD k default:=rfl;by_cases hr:0≤s.asked.getD k default∧s.asked.getD k default≤((c.cP.getD k default).length:Int)
  ·repeat' first| (first|apply bn1|apply aBC)<;>(simp only[go_sem,eq_true hr,hp3,ha];try simp (disch:=omega) only[Iw])|apply bn2 (by omega)|refine⟨by omega,?_⟩|fail
   all_goals (rw[←hss];(refine hKL _ _ _ ⟨k+1,by omega,iS hinv hr⟩ (by omega) (by(try dsimp only);omega) (bU (m5 _) (by repeat' first|exact bo2|refine xqI rfl rfl ?_|fail))))
  ·repeat' first| (first|apply bn1|apply aBC)<;>(simp only[go_sem,eq_false hr,hp3,ha])|apply bn2 (by omega)|refine⟨by omega,?_⟩|fail
   all_goals exact aZ hQ (dB false) rfl rfl (congrArg dB (aOH fun h=>hr (h.2.DC k hlt))).symm
 have hk3:k=3:=by omega
 subst hk3;have har:aTF c s.asked:=hinv;have hsum3:jS (fun j=>s.asked.getD j default) 3=s.asked.getD 0 default+s.asked.getD 1 default+s.asked.getD 2 default:=by simp[jS]
 have hj1: ∀{H:aA} {nx:Nat} {K:D→aA→Nat→Prop},K (dB (aPK c s.asked s.wait false)) H nx→aB Tryz.prog aIQ [boR (cU c),dS (s.asked.map aJ),dS (s.wait.map aS),dB false] H nx K:=fun h=>aMA hb ha har hl3 hd3 h;have hj2: ∀{H:aA} {nx:Nat} {K:D→aA→Nat→Prop},K (dB (aPK c s.asked s.done true)) H nx→aB Tryz.prog aIQ [boR (cU c),dS (s.asked.map aJ),dS (s.done.map aS),dB true] H nx K:=fun h=>aMA hb ha har hl4 hd4 h;by_cases hw:aPN c s.asked s.wait false
 case neg=>
  have e1:=aSY hw;repeat' first| (first|apply bn1|apply hj1)<;>(simp only[go_sem,e1])|apply bn3 (by omega)|fail
  all_goals exact aZ hQ (dB false) rfl rfl (congrArg dB (aOH fun h=>hw h.2.aUL)).symm
 by_cases hdn:aPN c s.asked s.done true
 case neg=>
  have e1:=aQD hw;have e2:=aSY hdn;repeat' first| (first|apply bn1|apply hj1|apply hj2)<;>(simp only[go_sem,e1,e2])|apply bn3 (by omega)|fail
  all_goals exact aZ hQ (dB false) rfl rfl (congrArg dB (aOH fun h=>hdn h.2.aUM)).symm
 have e1:=aQD hw;have e2:=aQD hdn;by_cases ht:aSQ c s
 case neg=>
  have e3:=aTL ht;repeat' first| (first|apply bn1|apply hj1|apply hj2|apply aMG hb ha har hl5 hd5)<;>(simp only[go_sem,e1,e2,e3])|apply bn3 (by omega)|fail
  all_goals exact aZ hQ (dB false) rfl rfl (congrArg dB (aOH fun h=>ht h.2.aUN)).symm
 have e3:=aTM ht;by_cases hc:(s.wait.length:Int)+s.done.length+s.told.length=s.asked.getD 0 default+s.asked.getD 1 default+s.asked.getD 2 default
 case neg=>
  repeat' first| (first|apply bn1|apply hj1|apply hj2|apply aMG hb ha har hl5 hd5)<;>(simp only[go_sem,e1,e2,e3];try simp (disch:=omega) only[Iw])|apply bn2 (by omega)|apply bn3 (by omega)|fail
  all_goals first| (exfalso;omega)|exact aZ hQ (dB false) rfl rfl (congrArg dB (aOH fun h=>hc h.2.count)).symm
 repeat' first| (first|apply bn1|apply hj1|apply hj2|apply aMG hb ha har hl5 hd5)<;>(simp only[go_sem,e1,e2,e3];try simp (disch:=omega) only[Iw])|apply bn3 (by omega)|fail
 refine aM.loop (α:={k:Nat//k≤s.told.length∧ ∀i,i<k→key (s.told.getD i default)∉s.wait.map key∧key (s.told.getD i default)∉s.done.map key}) (fun u=>en [(7,boP u.1),(3,.one (.c (.fQ (eSt s))))]) (fun _=>.nil) _ (fun u=>s.told.length-u.1) ⟨0,by omega,fun i hi=>by omega⟩ (bU (m5 _) (by repeat' first|exact bo2|refine xqI rfl rfl ?_|fail)) ?_;rintro⟨k,hk,hinv2⟩ bpQ hKL;by_cases hlt:k<s.told.length
 ·obtain⟨j,hj⟩: ∃j,j=s.told.getD k default:=⟨_,rfl⟩
  have hj':=hj.symm;have hm:j∈s.told:=by rw[hj];exact cC hlt
  by_cases h1:0≤bK (iM j.who j.n) s.wait
  ·repeat' first| (first|apply bn1|apply bpJ (by omega)|apply aKK (show s.wait.length<2^40 by omega))<;>(simp only[go_sem,hj'])|apply bn2 (by omega)|refine⟨by omega,?_⟩|fail
   all_goals first| (exfalso;omega)|exact aZ hQ (dB false) rfl rfl (congrArg dB (aOH fun h=>(h.2.apart.2.1 j hm).1 (ZP.1 h1))).symm
  ·by_cases h2:0≤bK (iM j.who j.n) s.done
   ·repeat' first| (first|apply bn1|apply bpK (by omega)|apply aKK (show s.wait.length<2^40 by omega)|apply aKK (show s.done.length<2^40 by omega))<;>(simp only[go_sem,hj'])|apply bn2 (by omega)|refine⟨by omega,?_⟩|fail
    all_goals first| (exfalso;omega)|exact aZ hQ (dB false) rfl rfl (congrArg dB (aOH fun h=>(h.2.apart.2.1 j hm).2 (ZP.1 h2))).symm
   ·repeat' first| (first|apply bn1|apply bpK (by omega)|apply aKK (show s.wait.length<2^40 by omega)|apply aKK (show s.done.length<2^40 by omega))<;>(simp only[go_sem,hj'];try simp (disch:=omega) only[Iw])|apply bn2 (by omega)|apply bn3 (by omega)|refine⟨by omega,?_⟩|fail
    all_goals first| (exfalso;omega)|exact hKL _ _ _ ⟨k+1,by omega,iS hinv2 (by rw[hj'];exact⟨fun h=>h1 (ZP.2 h),fun h=>h2 (ZP.2 h)⟩)⟩ (by omega) (by(try dsimp only);omega) (bU (m5 _) (by repeat' first|exact bo2|refine xqI rfl rfl ?_|fail))
 ·have hk2:k=s.told.length:=by omega
  subst hk2;repeat' first|apply bn1<;>(simp only[go_sem])|apply bn3 (by omega)|fail
  refine aM.loop (α:={k:Nat//k≤s.done.length∧ ∀i,i<k→key (s.done.getD i default)∉s.wait.map key}) (fun u=>en [(8,boP u.1),(3,.one (.c (.fQ (eSt s))))]) (fun _=>.nil) _ (fun u=>s.done.length-u.1) ⟨0,by omega,fun i hi=>by omega⟩ (bU (m5 _) (by repeat' first|exact bo2|refine xqI rfl rfl ?_|fail)) ?_;rintro⟨k,hk,hinv3⟩ bqG hKM;by_cases hlt:k<s.done.length
  ·obtain⟨j,hj⟩: ∃j,j=s.done.getD k default:=⟨_,rfl⟩
   have hj':=hj.symm;have hm:j∈s.done:=(by rw[hj];exact cC hlt);by_cases h1:0≤bK (iM j.who j.n) s.wait
   ·repeat' first| (first|apply bn1|apply aKK (show s.wait.length<2^40 by omega))<;>(simp only[go_sem,hj'])|apply bn2 (by omega)|refine⟨by omega,?_⟩|fail
    all_goals first| (exfalso;omega)|exact aZ hQ (dB false) rfl rfl (congrArg dB (aOH fun h=>(h.2.apart.2.2 j hm) (ZP.1 h1))).symm
   ·repeat' first| (first|apply bn1|apply aKK (show s.wait.length<2^40 by omega))<;>(simp only[go_sem,hj'];try simp (disch:=omega) only[Iw])|apply bn2 (by omega)|apply bn3 (by omega)|refine⟨by omega,?_⟩|fail
    all_goals first| (exfalso;omega)|exact hKM _ _ _ ⟨k+1,by omega,iS hinv3 (by rw[hj'];exact fun h=>h1 (ZP.2 h))⟩ (by omega) (by(try dsimp only);omega) (bU (m5 _) (by repeat' first|exact bo2|refine xqI rfl rfl ?_|fail))
  ·have hk2:k=s.done.length:=(by omega);subst hk2;have hst:BA c s:=aTG hat ha har hw hdn ht hc (aKJ (P:=fun j=>key j∉s.wait.map key∧key j∉s.done.map key) hinv2) (aKJ (P:=fun j=>key j∉s.wait.map key) hinv3);repeat' first|apply bn1<;>(simp only[go_sem])|apply bn3 (by omega)|fail
   exact aZ hQ (dB true) rfl rfl (congrArg dB (aTX hb hst)).symm
end
end Go.Proofs.YtmccpdapaccnoaaGreat
