/- Texts laid together by a program: rules, contracts and the walk that leads to the law. -/
import Derived.Test.YtdkfhdmagdaceaaGreatPJ9
import Derived.Test.YtdkfhdmagdaceaaGreatPJ12
import Derived.Test.YtdkfhdmagdaceaaGreatPJ4
import Derived.Test.YtdkfhdmagdaceaaGreatPJ19
import Derived.Test.YtdkfhdmagdaceaaGreatPJ18
set_option linter.unusedVariables false
set_option linter.unusedSimpArgs false
set_option linter.unusedSectionVars false
set_option maxRecDepth 100000
set_option maxHeartbeats 8000000
namespace Go.Proofs.YtdkfhdmagdaceaaGreat
open Go Go.AM
attribute [local irreducible] aM wv aB vd wvH
theorem aTC{a b c:Job} (d:uL a b=true) (e:uL b c=true):uL a c=true:=by rw[qL] at*;omega
variable{l:List Job}
theorem aTV (h: ∀i,i<l.length→0<i→uL (l.getD (i-1) default) (l.getD i default)=true):kW l:=by
 have key: ∀d i,i+d+1<l.length→uL (l.getD i default) (l.getD (i+d+1) default)=true:=by
  intro d
  induction d with
  |zero=>exact fun i hi=>h (i+1) hi (by omega)
  |succ d a=>exact fun i hi=>aTC (a i (by omega)) (h (i+d+1+1) hi (by omega))
 refine Z6.2 fun i j hi b c=> ?_;have:=key (j-i-1) i (by omega);rw[show i+(j-i-1)+1=j by omega] at this;simpa [List.getD,hi,b] using this
theorem aT4 (h:kW l){i:Nat} (hi:i<l.length) (a:0<i):uL (l.getD (i-1) default) (l.getD i default)=true:=by have:=Z6.1 h (i-1) i (by omega) hi (by omega);simpa [List.getD,hi,show i-1<l.length by omega] using this
section
variable {H : aA} {nx : Nat} {K : D → aA → Nat → Prop}
theorem aMA {c:Cfg} {a:List Int} {l:List Job} {b:Bool} (U:aQ c) (C:a.length=3) (I:aTF c a) (hl:l.length<2^21) (V: ∀j∈l,j.rsp.data.length<2^21) (h:K (dB (aPK c a l b)) H nx):aB Tryz.prog aIQ [boR (cU c),dS (a.map aJ),dS (l.map aS),dB b] H nx K:=by
 refine aB.pure (args0:=[boR (cU c),dS (a.map aJ),dS (l.map aS),dB b]) (R:=fun W=>W=dB (aPK c a l b)) ?_ rfl (aI ⟨aE rfl,aE rfl,aE rfl,aE rfl,trivial⟩) (fun r hr=>hr▸h);clear h;refine aKZ rfl fun Q t=> ?_;unfold aI9;obtain⟨p,F⟩:=hC U;repeat' first|apply bn1<;>(simp only[go_sem])|fail
 (refine aM.loop (α:={k:Nat//k≤l.length∧(∀i,i<k→InA a (l.getD i default)∧(0<i→uL (l.getD (i-1) default) (l.getD i default)=true)∧(if b then as5 c (l.getD i default) else (l.getD i default).rsp=oW))}) (fun u=>en [(9,boP u.1),(4,.one (.c (.fQ (cU c)))),(3,dB b),(2,dS (l.map aS)),(1,dS (a.map aJ))]) (fun _=>.nil) _ (fun u=>l.length-u.1) ⟨0,by omega,(by intros;first|trivial|omega)⟩ (bU (m5 _) (by repeat' first|exact bo2|refine xqI rfl rfl ?_| (with_reducible apply bo3)| ((with_reducible apply bo1);exact bpH rfl (by simp) rfl rfl rfl)|fail)) ?_);(rintro⟨k,Y,hinv⟩ bpQ v);by_cases G:k<l.length
 ·obtain⟨j,J⟩: ∃j,j=l.getD k default:=⟨_,rfl⟩
  have g:=J.symm;have hm:j∈l:=by rw[J];exact cC G
  have X:=V j hm;have m:InA a j→(0<k→uL (l.getD (k-1) default) j=true)→(if b then as5 c j else j.rsp=oW)→∀i,i<k+1→InA a (l.getD i default)∧(0<i→uL (l.getD (i-1) default) (l.getD i default)=true)∧(if b then as5 c (l.getD i default) else (l.getD i default).rsp=oW):=fun s y o=>iS hinv ⟨by rw[g];exact s,by rw[g];exact y,by rw[g];exact o⟩;have f: ¬(InA a j∧(0<k→uL (l.getD (k-1) default) j=true)∧(if b then as5 c j else j.rsp=oW))→aPK c a l b=false:=fun h=>aSY fun aIF=>h ⟨aIF.inA j hm,fun D=>by rw[J];exact aT4 aIF.sorted G D,aIF.rsp j hm⟩;have q:((k:Int)-1).toNat=k-1:=by omega
  have z:j.rsp=oW↔j.rsp.id=0∧j.rsp.code=0∧(j.rsp.data.length:Int)=0:=by obtain⟨w,n,⟨i,d,x⟩⟩:=j;simp only[oW,Rsp.mk.injEq];refine⟨fun⟨s,y,o⟩=>⟨s,y,by rw[o];rfl⟩,fun⟨s,y,o⟩=>⟨s,y,H4.1 (by omega)⟩⟩
  by_cases hw:0≤j.who∧j.who≤2
  ·have S:=I j.who.toNat (by omega);have T:=F j.who.toNat;by_cases A:0≤j.n∧j.n≤a.getD j.who.toNat default-1
   ·have B:InA a j:=⟨hw,A.1,by omega⟩
    cases b with
    |false=>
     by_cases D:0<k
     ·by_cases e:uL (l.getD (k-1) default) j=true
      ·repeat' first| (first|apply bn1|apply bpJ (by omega)|refine bpL (fun h=> ?_) fun h=> ?_|apply aBC|apply c9)<;>(simp only[go_sem,g,eq_true hw,eq_true A,e,p,C,q];try simp (disch:=omega) only[Iw])|apply bn2 (by omega)|refine bnE (fun h=> ?_) fun h=> ?_|refine⟨by omega,?_⟩|fail
       all_goals first| (refine v _ _ _ ⟨k+1,by omega,m B (fun _=>e) (by rw[if_neg (by decide)];exact z.2 ⟨by omega,by omega,by omega⟩)⟩ (by omega) (by(try dsimp only);omega) (bU (m5 _) (by repeat' first|exact bo2|refine xqI rfl rfl ?_|fail)))|exact aZ t (dB false) rfl rfl (congrArg dB (f fun⟨_,_,o⟩=>by rw[if_neg (by decide)] at o;have:=z.1 o;omega)).symm
      ·have E:=eq_false_of_ne_true e;repeat' first| (first|apply bn1|apply bpJ (by omega)|apply aBC|apply c9)<;>(simp only[go_sem,g,eq_true hw,eq_true A,E,p,C,q];try simp (disch:=omega) only[Iw])|apply bn2 (by omega)|refine⟨by omega,?_⟩|fail
       all_goals exact aZ t (dB false) rfl rfl (congrArg dB (f fun⟨_,y,_⟩=>e (y D))).symm
     ·repeat' first| (first|apply bn1|apply bpK (by omega)|refine bpL (fun h=> ?_) fun h=> ?_|apply aBC)<;>(simp only[go_sem,g,eq_true hw,eq_true A,p,C,q];try simp (disch:=omega) only[Iw])|apply bn2 (by omega)|refine bnE (fun h=> ?_) fun h=> ?_|refine⟨by omega,?_⟩|fail
      all_goals first| (refine v _ _ _ ⟨k+1,by omega,m B (fun h=>absurd h D) (by rw[if_neg (by decide)];exact z.2 ⟨by omega,by omega,by omega⟩)⟩ (by omega) (by(try dsimp only);omega) (bU (m5 _) (by repeat' first|exact bo2|refine xqI rfl rfl ?_|fail)))|exact aZ t (dB false) rfl rfl (congrArg dB (f fun⟨_,_,o⟩=>by rw[if_neg (by decide)] at o;have:=z.1 o;omega)).symm
    |true=>
     by_cases D:0<k
     ·by_cases e:uL (l.getD (k-1) default) j=true
      ·repeat' first| (first|apply bn1|apply bpJ (by omega)|refine bpL (fun h=> ?_) fun h=> ?_|apply aBC|apply c9|apply aMP (show j.rsp.data.length<2^40 by omega))<;>(simp only[go_sem,g,eq_true hw,eq_true A,e,p,C,q];try simp (disch:=omega) only[Iw])|apply bn2 (by omega)|refine⟨by omega,?_⟩|fail
       all_goals first| (refine v _ _ _ ⟨k+1,by omega,m B (fun _=>e) (by rw[if_pos rfl];exact⟨Classical.not_not.1 (by assumption),by unfold bT;omega⟩)⟩ (by omega) (by(try dsimp only);omega) (bU (m5 _) (by repeat' first|exact bo2|refine xqI rfl rfl ?_|fail)))|exact aZ t (dB false) rfl rfl (congrArg dB (f fun⟨_,_,o⟩=>by rw[if_pos rfl] at o;obtain⟨L,M⟩:=o;unfold bT at M;first|omega|exact absurd L (by assumption)|simp_all)).symm
      ·have E:=eq_false_of_ne_true e;repeat' first| (first|apply bn1|apply bpJ (by omega)|apply aBC|apply c9)<;>(simp only[go_sem,g,eq_true hw,eq_true A,E,p,C,q];try simp (disch:=omega) only[Iw])|apply bn2 (by omega)|refine⟨by omega,?_⟩|fail
       all_goals exact aZ t (dB false) rfl rfl (congrArg dB (f fun⟨_,y,_⟩=>e (y D))).symm
     ·repeat' first| (first|apply bn1|apply bpK (by omega)|refine bpL (fun h=> ?_) fun h=> ?_|apply aBC|apply aMP (show j.rsp.data.length<2^40 by omega))<;>(simp only[go_sem,g,eq_true hw,eq_true A,p,C,q];try simp (disch:=omega) only[Iw])|apply bn2 (by omega)|refine⟨by omega,?_⟩|fail
      all_goals first| (refine v _ _ _ ⟨k+1,by omega,m B (fun h=>absurd h D) (by rw[if_pos rfl];exact⟨Classical.not_not.1 (by assumption),by unfold bT;omega⟩)⟩ (by omega) (by(try dsimp only);omega) (bU (m5 _) (by repeat' first|exact bo2|refine xqI rfl rfl ?_|fail)))|exact aZ t (dB false) rfl rfl (congrArg dB (f fun⟨_,_,o⟩=>by rw[if_pos rfl] at o;obtain⟨L,M⟩:=o;unfold bT at M;first|omega|exact absurd L (by assumption)|simp_all)).symm
   ·repeat' first| (first|apply bn1|apply aBC)<;>(simp only[go_sem,g,eq_true hw,eq_false A,C];try simp (disch:=omega) only[Iw])|apply bn2 (by omega)|refine⟨by omega,?_⟩|fail
    all_goals first| (exfalso;omega)|exact aZ t (dB false) rfl rfl (congrArg dB (f fun⟨s,_,_⟩=>A ⟨s.2.1,by have:=s.2.2;omega⟩)).symm
  ·repeat' first| (first|apply bn1|apply aBC)<;>(simp only[go_sem,g,eq_false hw])|apply bn2 (by omega)|refine⟨by omega,?_⟩|fail
   all_goals first| (exfalso;omega)|exact aZ t (dB false) rfl rfl (congrArg dB (f fun⟨s,_,_⟩=>hw s.1)).symm
 ·repeat' first|apply bn1<;>(simp only[go_sem])|apply bn3 (by omega)|fail
  have N:k=l.length:=by omega
  subst N;exact aZ t (dB true) rfl rfl (congrArg dB (aQD ⟨fun x O=>aKJ (fun i hi=>(hinv i hi).1) x O,aTV fun i hi=>(hinv i hi).2.1,fun x O=>aKJ (P:=fun x=>if b then as5 c x else x.rsp=oW) (fun i hi=>(hinv i hi).2.2) x O⟩).symm)
end
theorem aTP (h: ∀i,i<l.length→key (l.getD i default)∉(l.take i).map key):(l.map key).Nodup:=by refine brY.2 (Z6.2 fun i j hi a b he=> ?_);apply h j a;rw[show l.getD j default=l[j] by simp[List.getD,a],←he];exact brI (bqY.2 ⟨i,by simp;omega,by simp⟩)
theorem aTN (h:(l.map key).Nodup){i:Nat} (hi:i<l.length):key (l.getD i default)∉(l.take i).map key:=by
 intro hm;obtain⟨x,b,he⟩:=CF.1 hm;obtain⟨j,c,rfl⟩:=bqY.1 b;have a:j<i:=by simp at c;omega
 have d:=Z6.1 (brY.1 h) j i (by omega) hi a;rw[show l.getD i default=l[i] by simp[List.getD,hi]] at he;simp only[brU] at he;exact d he
section
variable {H : aA} {nx : Nat} {K : D → aA → Nat → Prop}
theorem aMG {c:Cfg} {s:TSt} (G:aQ c) (p:s.asked.length=3) (w:aTF c s.asked) (hl:s.told.length<2^21) (I: ∀j∈s.told,j.rsp.data.length<2^21) (h:K (dB (aRF c s)) H nx):aB Tryz.prog aIX [boR (cU c),boR (eSt s)] H nx K:=by
 refine aB.pure (args0:=[boR (cU c),boR (eSt s)]) (R:=fun J=>J=dB (aRF c s)) ?_ rfl (aI ⟨aE rfl,aE rfl,trivial⟩) (fun r hr=>hr▸h);clear h;refine aK7 rfl fun Q m=> ?_;unfold aJD;obtain⟨d,q⟩:=hC G;repeat' first|apply bn1<;>(simp only[go_sem])|fail
 (refine aM.loop (α:={k:Nat//k≤s.told.length∧(∀i,i<k→InA s.asked (s.told.getD i default)∧as5 c (s.told.getD i default)∧key (s.told.getD i default)∉(s.told.take i).map key)}) (fun u=>en [(5,boP u.1),(3,.one (.c (.fQ (eSt s)))),(2,.one (.c (.fQ (cU c))))]) (fun _=>.nil) _ (fun u=>s.told.length-u.1) ⟨0,by omega,(by intros;first|trivial|omega)⟩ (bU (m5 _) (by repeat' first|exact bo2|refine xqI rfl rfl ?_| (with_reducible apply bo3)| ((with_reducible apply bo1);exact bpH rfl (by simp) rfl rfl rfl)|fail)) ?_);(rintro⟨k,O,hinv⟩ bpQ y);by_cases t:k<s.told.length
 ·obtain⟨j,z⟩: ∃j,j=s.told.getD k default:=⟨_,rfl⟩
  have b:=z.symm;have hm:j∈s.told:=by rw[z];exact cC t
  have L:=I j hm;have f:InA s.asked j→as5 c j→key j∉(s.told.take k).map key→∀i,i<k+1→InA s.asked (s.told.getD i default)∧as5 c (s.told.getD i default)∧key (s.told.getD i default)∉(s.told.take i).map key:=fun o M N=>iS hinv (by rw[b];exact⟨o,M,N⟩);have a: ¬(InA s.asked j∧as5 c j∧key j∉(s.told.take k).map key)→aRF c s=false:=fun h=>aTL fun aIF=>h ⟨aIF.inA j hm,aIF.rsp j hm,by rw[z];exact aTN aIF.once t⟩;by_cases hw:0≤j.who∧j.who≤2
  ·have E:=w j.who.toNat (by omega);have F:=q j.who.toNat;by_cases g:0≤j.n∧j.n≤s.asked.getD j.who.toNat default-1
   ·have A:InA s.asked j:=⟨hw,g.1,by omega⟩
    by_cases hr:pA j.rsp
    ·by_cases e:j.rsp.id=((c.cP.getD j.who.toNat default).getD j.n.toNat default).id
     ·have B:as5 c j:=⟨hr,e⟩
      by_cases v:0≤bK (iM j.who j.n) (s.told.take k)
      ·repeat' first| (first|apply bn1|apply aBC|apply aMP (show j.rsp.data.length<2^40 by omega)| (apply aKK (l:=s.told.take k) (by simp;omega)))<;>(simp only[go_sem,b,eq_true hw,eq_true g,eq_true hr,e.symm,d,p];try simp (disch:=omega) only[Iw])|apply bn2 (by omega)|refine⟨by omega,?_⟩|fail
       all_goals first| (exfalso;omega)|exact aZ m (dB false) rfl rfl (congrArg dB (a fun⟨_,_,h⟩=>h (ZP.1 v))).symm
      ·repeat' first| (first|apply bn1|apply aBC|apply aMP (show j.rsp.data.length<2^40 by omega)| (apply aKK (l:=s.told.take k) (by simp;omega)))<;>(simp only[go_sem,b,eq_true hw,eq_true g,eq_true hr,e.symm,d,p];try simp (disch:=omega) only[Iw])|apply bn2 (by omega)|apply bn3 (by omega)|refine⟨by omega,?_⟩|fail
       all_goals first| (exfalso;omega)| (refine y _ _ _ ⟨k+1,by omega,f A B (fun h=>v (ZP.2 h))⟩ (by omega) (by(try dsimp only);omega) (bU (m5 _) (by repeat' first|exact bo2|refine xqI rfl rfl ?_|fail)))
     ·repeat' first| (first|apply bn1|apply bpJ (by omega)|apply aBC|apply aMP (show j.rsp.data.length<2^40 by omega))<;>(simp only[go_sem,b,eq_true hw,eq_true g,eq_true hr,d,p];try simp (disch:=omega) only[Iw])|apply bn2 (by omega)|refine⟨by omega,?_⟩|fail
      all_goals first| (exfalso;omega)|exact aZ m (dB false) rfl rfl (congrArg dB (a fun⟨_,h,_⟩=>e h.2)).symm
    ·repeat' first| (first|apply bn1|apply aBC|apply aMP (show j.rsp.data.length<2^40 by omega))<;>(simp only[go_sem,b,eq_true hw,eq_true g,eq_false hr,d,p];try simp (disch:=omega) only[Iw])|apply bn2 (by omega)|refine⟨by omega,?_⟩|fail
     all_goals first| (exfalso;omega)|exact aZ m (dB false) rfl rfl (congrArg dB (a fun⟨_,h,_⟩=>hr h.1)).symm
   ·repeat' first| (first|apply bn1|apply aBC)<;>(simp only[go_sem,b,eq_true hw,eq_false g,p];try simp (disch:=omega) only[Iw])|apply bn2 (by omega)|refine⟨by omega,?_⟩|fail
    all_goals first| (exfalso;omega)|exact aZ m (dB false) rfl rfl (congrArg dB (a fun⟨o,_,_⟩=>g ⟨o.2.1,by have:=o.2.2;omega⟩)).symm
  ·repeat' first| (first|apply bn1|apply aBC)<;>(simp only[go_sem,b,eq_false hw])|apply bn2 (by omega)|refine⟨by omega,?_⟩|fail
   all_goals first| (exfalso;omega)|exact aZ m (dB false) rfl rfl (congrArg dB (a fun⟨o,_,_⟩=>hw o.1)).symm
 ·repeat' first|apply bn1<;>(simp only[go_sem])|apply bn3 (by omega)|fail
  have C:k=s.told.length:=by omega
  subst C;exact aZ m (dB true) rfl rfl (congrArg dB (aTM ⟨fun x D=>aKJ (fun i hi=>(hinv i hi).1) x D,aTP fun i hi=>(hinv i hi).2.2,fun x D=>aKJ (P:=as5 c) (fun i hi=>(hinv i hi).2.1) x D⟩).symm)
theorem aMQ {c:Cfg} {s:TSt} (v:jO c) (w:aTQ s) (h:K (dB (tlB c s)) H nx):aB Tryz.prog aI6 [boR (cU c),boR (eSt s)] H nx K:=by
 refine aB.pure (args0:=[boR (cU c),boR (eSt s)]) (R:=fun rr=>rr=dB (tlB c s)) ?_ rfl (aI ⟨aE rfl,aE rfl,trivial⟩) (fun r hr=>hr▸h);clear h;refine aMM rfl fun Q e=> ?_;unfold aJP;have ab:=w.words;have ad:=w.holds;have ae:=w.asked;have O:=w.wait;have S:=w.done;have A:=w.told;have T: ∀j∈s.wait,j.rsp.data.length<2^21:=fun j b=>w.data j (by simp[b]);have U: ∀j∈s.done,j.rsp.data.length<2^21:=fun j b=>w.data j (by simp[b]);have B: ∀j∈s.told,j.rsp.data.length<2^21:=fun j b=>w.data j (by simp[b]);by_cases f:aQ c
 case neg=>
  repeat' first| (first|apply bn1|apply aKG v)<;>(simp only[go_sem,eq_false f])|fail
  all_goals exact aZ e (dB false) rfl rfl (congrArg dB (aOH fun h=>f h.1)).symm
 by_cases g:JS s.words s.holds
 case neg=>
  repeat' first| (first|apply bn1|apply aKG v|apply aKH (show s.words.length<2^40 by omega) (show s.holds.length<2^40 by omega))<;>(simp only[go_sem,eq_true f,eq_false g])|fail
  all_goals exact aZ e (dB false) rfl rfl (congrArg dB (aOH fun h=>g ⟨⟨by rw[h.2.atm.wl];rfl,h.2.atm.wr⟩,by rw[h.2.atm.hl];rfl,h.2.atm.hr⟩)).symm
 by_cases t:s.asked.length=3
 case neg=>
  repeat' first| (first|apply bn1|apply aKG v|apply aKH (show s.words.length<2^40 by omega) (show s.holds.length<2^40 by omega))<;>(simp only[go_sem,eq_true f,eq_true g])|apply bn2 (by omega)|fail
  all_goals first| (exfalso;omega)|exact aZ e (dB false) rfl rfl (congrArg dB (aOH fun h=>t h.2.JI)).symm
 obtain⟨G,z⟩:=hC f;repeat' first| (first|apply bn1|apply aKG v|apply aKH (show s.words.length<2^40 by omega) (show s.holds.length<2^40 by omega))<;>(simp only[go_sem,eq_true f,eq_true g,t])|apply bn3 (by omega)|fail
 have V: ∀k,k≤3→(∀i,i<k→0≤s.asked.getD i default∧s.asked.getD i default≤((c.cP.getD i default).length:Int))→0≤jS (fun j=>s.asked.getD j default) k∧jS (fun j=>s.asked.getD j default) k≤12*k:=fun k L h=>KF (m:=12) (by omega) k fun j b=>by have:=h j b;have:=z j;(try dsimp only);omega
 (refine aM.loop (α:={k:Nat//k≤3∧(∀i,i<k→0≤s.asked.getD i default∧s.asked.getD i default≤((c.cP.getD i default).length:Int))}) (fun u=>en [(6,boP u.1),(5,boP (jS (fun j=>s.asked.getD j default) u.1)),(3,.one (.c (.fQ (eSt s)))),(2,.one (.c (.fQ (cU c))))]) (fun _=>.nil) _ (fun u=>3-u.1) ⟨0,by omega,(by intros;first|trivial|omega)⟩ (bU (m5 _) (by repeat' first|exact bo2|refine xqI rfl rfl ?_| (with_reducible apply bo3)| ((with_reducible apply bo1);exact bpH rfl (by simp) rfl rfl rfl)|fail)) ?_);(rintro⟨k,L,hinv⟩ bpQ C);have hz:=V k L hinv;by_cases l:k<3
 ·have af:=z k;have W:jS (fun j=>s.asked.getD j default) (k+1)=jS (fun j=>s.asked.getD j default) k+s.asked.getD k default:=rfl;by_cases hr:0≤s.asked.getD k default∧s.asked.getD k default≤((c.cP.getD k default).length:Int)
  ·repeat' first| (first|apply bn1|apply aBC)<;>(simp only[go_sem,eq_true hr,G,t];try simp (disch:=omega) only[Iw])|apply bn2 (by omega)|refine⟨by omega,?_⟩|fail
   all_goals (rw[←W];(refine C _ _ _ ⟨k+1,by omega,iS hinv hr⟩ (by omega) (by(try dsimp only);omega) (bU (m5 _) (by repeat' first|exact bo2|refine xqI rfl rfl ?_|fail))))
  ·repeat' first| (first|apply bn1|apply aBC)<;>(simp only[go_sem,eq_false hr,G,t])|apply bn2 (by omega)|refine⟨by omega,?_⟩|fail
   all_goals exact aZ e (dB false) rfl rfl (congrArg dB (aOH fun h=>hr (h.2.DC k l))).symm
 have X:k=3:=by omega
 subst X;have d:aTF c s.asked:=hinv;have Y:jS (fun j=>s.asked.getD j default) 3=s.asked.getD 0 default+s.asked.getD 1 default+s.asked.getD 2 default:=by simp[jS]
 have o: ∀{H:aA} {nx:Nat} {K:D→aA→Nat→Prop},K (dB (aPK c s.asked s.wait false)) H nx→aB Tryz.prog aIQ [boR (cU c),dS (s.asked.map aJ),dS (s.wait.map aS),dB false] H nx K:=fun h=>aMA f t d O T h;have x: ∀{H:aA} {nx:Nat} {K:D→aA→Nat→Prop},K (dB (aPK c s.asked s.done true)) H nx→aB Tryz.prog aIQ [boR (cU c),dS (s.asked.map aJ),dS (s.done.map aS),dB true] H nx K:=fun h=>aMA f t d S U h;by_cases hw:aPN c s.asked s.wait false
 case neg=>
  have E:=aSY hw;repeat' first| (first|apply bn1|apply o)<;>(simp only[go_sem,E])|apply bn3 (by omega)|fail
  all_goals exact aZ e (dB false) rfl rfl (congrArg dB (aOH fun h=>hw h.2.aUL)).symm
 by_cases y:aPN c s.asked s.done true
 case neg=>
  have E:=aQD hw;have I:=aSY y;repeat' first| (first|apply bn1|apply o|apply x)<;>(simp only[go_sem,E,I])|apply bn3 (by omega)|fail
  all_goals exact aZ e (dB false) rfl rfl (congrArg dB (aOH fun h=>y h.2.aUM)).symm
 have E:=aQD hw;have I:=aQD y;by_cases M:aSQ c s
 case neg=>
  have N:=aTL M;repeat' first| (first|apply bn1|apply o|apply x|apply aMG f t d A B)<;>(simp only[go_sem,E,I,N])|apply bn3 (by omega)|fail
  all_goals exact aZ e (dB false) rfl rfl (congrArg dB (aOH fun h=>M h.2.aUN)).symm
 have N:=aTM M;by_cases hc:(s.wait.length:Int)+s.done.length+s.told.length=s.asked.getD 0 default+s.asked.getD 1 default+s.asked.getD 2 default
 case neg=>
  repeat' first| (first|apply bn1|apply o|apply x|apply aMG f t d A B)<;>(simp only[go_sem,E,I,N];try simp (disch:=omega) only[Iw])|apply bn2 (by omega)|apply bn3 (by omega)|fail
  all_goals first| (exfalso;omega)|exact aZ e (dB false) rfl rfl (congrArg dB (aOH fun h=>hc h.2.count)).symm
 repeat' first| (first|apply bn1|apply o|apply x|apply aMG f t d A B)<;>(simp only[go_sem,E,I,N];try simp (disch:=omega) only[Iw])|apply bn3 (by omega)|fail
 refine aM.loop (α:={k:Nat//k≤s.told.length∧ ∀i,i<k→key (s.told.getD i default)∉s.wait.map key∧key (s.told.getD i default)∉s.done.map key}) (fun u=>en [(7,boP u.1),(3,.one (.c (.fQ (eSt s))))]) (fun _=>.nil) _ (fun u=>s.told.length-u.1) ⟨0,by omega,fun i hi=>by omega⟩ (bU (m5 _) (by repeat' first|exact bo2|refine xqI rfl rfl ?_|fail)) ?_;rintro⟨k,L,p⟩ bpQ C;by_cases l:k<s.told.length
 ·obtain⟨j,b⟩: ∃j,j=s.told.getD k default:=⟨_,rfl⟩
  have a:=b.symm;have hm:j∈s.told:=by rw[b];exact cC l
  by_cases J:0≤bK (iM j.who j.n) s.wait
  ·repeat' first| (first|apply bn1|apply bpJ (by omega)|apply aKK (show s.wait.length<2^40 by omega))<;>(simp only[go_sem,a])|apply bn2 (by omega)|refine⟨by omega,?_⟩|fail
   all_goals first| (exfalso;omega)|exact aZ e (dB false) rfl rfl (congrArg dB (aOH fun h=>(h.2.apart.2.1 j hm).1 (ZP.1 J))).symm
  ·by_cases h2:0≤bK (iM j.who j.n) s.done
   ·repeat' first| (first|apply bn1|apply bpK (by omega)|apply aKK (show s.wait.length<2^40 by omega)|apply aKK (show s.done.length<2^40 by omega))<;>(simp only[go_sem,a])|apply bn2 (by omega)|refine⟨by omega,?_⟩|fail
    all_goals first| (exfalso;omega)|exact aZ e (dB false) rfl rfl (congrArg dB (aOH fun h=>(h.2.apart.2.1 j hm).2 (ZP.1 h2))).symm
   ·repeat' first| (first|apply bn1|apply bpK (by omega)|apply aKK (show s.wait.length<2^40 by omega)|apply aKK (show s.done.length<2^40 by omega))<;>(simp only[go_sem,a];try simp (disch:=omega) only[Iw])|apply bn2 (by omega)|apply bn3 (by omega)|refine⟨by omega,?_⟩|fail
    all_goals first| (exfalso;omega)|exact C _ _ _ ⟨k+1,by omega,iS p (by rw[a];exact⟨fun h=>J (ZP.2 h),fun h=>h2 (ZP.2 h)⟩)⟩ (by omega) (by(try dsimp only);omega) (bU (m5 _) (by repeat' first|exact bo2|refine xqI rfl rfl ?_|fail))
 ·have F:k=s.told.length:=by omega
  subst F;repeat' first|apply bn1<;>(simp only[go_sem])|apply bn3 (by omega)|fail
  refine aM.loop (α:={k:Nat//k≤s.done.length∧ ∀i,i<k→key (s.done.getD i default)∉s.wait.map key}) (fun u=>en [(8,boP u.1),(3,.one (.c (.fQ (eSt s))))]) (fun _=>.nil) _ (fun u=>s.done.length-u.1) ⟨0,by omega,fun i hi=>by omega⟩ (bU (m5 _) (by repeat' first|exact bo2|refine xqI rfl rfl ?_|fail)) ?_;rintro⟨k,L,q⟩ bqG Z;by_cases l:k<s.done.length
  ·obtain⟨j,b⟩: ∃j,j=s.done.getD k default:=⟨_,rfl⟩
   have a:=b.symm;have hm:j∈s.done:=(by rw[b];exact cC l);by_cases J:0≤bK (iM j.who j.n) s.wait
   ·repeat' first| (first|apply bn1|apply aKK (show s.wait.length<2^40 by omega))<;>(simp only[go_sem,a])|apply bn2 (by omega)|refine⟨by omega,?_⟩|fail
    all_goals first| (exfalso;omega)|exact aZ e (dB false) rfl rfl (congrArg dB (aOH fun h=>(h.2.apart.2.2 j hm) (ZP.1 J))).symm
   ·repeat' first| (first|apply bn1|apply aKK (show s.wait.length<2^40 by omega))<;>(simp only[go_sem,a];try simp (disch:=omega) only[Iw])|apply bn2 (by omega)|apply bn3 (by omega)|refine⟨by omega,?_⟩|fail
    all_goals first| (exfalso;omega)|exact Z _ _ _ ⟨k+1,by omega,iS q (by rw[a];exact fun h=>J (ZP.2 h))⟩ (by omega) (by(try dsimp only);omega) (bU (m5 _) (by repeat' first|exact bo2|refine xqI rfl rfl ?_|fail))
  ·have F:k=s.done.length:=(by omega);subst F;have aa:BA c s:=aTG g t d hw y M hc (aKJ (P:=fun j=>key j∉s.wait.map key∧key j∉s.done.map key) p) (aKJ (P:=fun j=>key j∉s.wait.map key) q);repeat' first|apply bn1<;>(simp only[go_sem])|apply bn3 (by omega)|fail
   exact aZ e (dB true) rfl rfl (congrArg dB (aTX f aa)).symm
theorem aY6 (c:Cfg) (s:TSt) (es:List Ev) (a:jO c) (i:aTQ s) (hl:es.length<2^40) (f: ¬((aQ c∧BA c s)∧es.length≤200)):aB Tryz.prog auW [boR (cU c),boR (eSt s),dS (es.map eEv)] .nil 0 fun j _ l=>l=0∧j.imm=true∧j= .tup [.agg (eSt stN),.c (cI (-1))]:=by
 refine axV rfl fun Q k=> ?_;unfold avV;by_cases e:aQ c∧BA c s
 ·have g:=aTX e.1 e.2;have m: ¬es.length≤200:=fun h=>f ⟨e,h⟩;repeat' first| (with_reducible first| (apply b _ _ _;clear b K)| (apply d;clear d hB A B)|apply btD|apply btG (by omega))| (first| (with_reducible first|refine btI fun K b=> ?_|refine btJ fun A B d hB=> ?_)| (apply aV5 a i))<;>(simp only[go_sem,g])| ((with_reducible apply btK);try simp only[AQ.then,AQ.blk,reduceIte,Nat.reduceEqDiff])|fail
  all_goals first| (exfalso;omega)|exact V4 k (.tup [.agg (eSt stN),.c (cI (-1))]) _ rfl (ay7 (ayY (aH xG (aH xG (aH xG (aH xG (aH xG (aH xG eP))))))) (azN (bB rfl))) rfl rfl
 ·have g:=aOH e;repeat' first| (with_reducible first| (apply b _ _ _;clear b K)| (apply d;clear d hB A B)|apply btD)| (first| (with_reducible first|refine btI fun K b=> ?_|refine btJ fun A B d hB=> ?_)| (apply aV5 a i))<;>(simp only[go_sem,g])| ((with_reducible apply btK);try simp only[AQ.then,AQ.blk,reduceIte,Nat.reduceEqDiff])|fail
  exact V4 k (.tup [.agg (eSt stN),.c (cI (-1))]) _ rfl (ay7 (ayY (aH xG (aH xG (aH xG (aH xG (aH xG (aH xG eP))))))) (azN (bB rfl))) rfl rfl
theorem aY7 {c:Cfg} {s:TSt} {es:List Ev} (a:jO c) (d:aTQ s) (hl:es.length<2^40) (b: ¬((aQ c∧BA c s)∧es.length≤200)) (h:K (.tup [.agg (eSt stN),.c (cI (-1))]) H nx):aB Tryz.prog auW [boR (cU c),boR (eSt s),dS (es.map eEv)] H nx K:=(aY6 c s es a d hl b).fresh rfl (fun r hr=>hr▸h)
end
end Go.Proofs.YtdkfhdmagdaceaaGreat
