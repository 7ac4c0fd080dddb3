/- Texts laid together by a program: rules, contracts and the walk that leads to the law. -/
import Derived.Test.YtmccpdapaccnoaaGreatPF14
import Derived.Test.YtmccpdapaccnoaaGreatPF12
import Derived.Test.YtmccpdapaccnoaaGreatPF3
import Derived.Test.YtmccpdapaccnoaaGreatPF10
import Derived.Test.YtmccpdapaccnoaaGreatPF5
import Derived.Test.YtmccpdapaccnoaaGreatPF9
set_option linter.unusedVariables false
set_option linter.unusedSimpArgs false
set_option linter.unusedSectionVars false
section
namespace Go.AM
noncomputable def cyB (c:Cfg) (s:CSt):Bool:=@decide (aQ c∧COk c s) (Classical.propDecidable _)
theorem bfB {c:Cfg} {s:CSt} (hb:aQ c) (h:COk c s):cyB c s=true:=by simp[cyB,h,hb]
theorem beP {c:Cfg} {s:CSt} (h: ¬(aQ c∧COk c s)):cyB c s=false:=by simp[cyB,h]
structure beL (s:CSt):Prop where
 w:s.words.length<2^21
 h:s.holds.length<2^21
 t:s.told.length<2^21
 td: ∀j∈s.told,j.rsp.data.length<2^21
 pl:s.bM.length<2^21
 sl:s.dD.length<2^21
 port: ∀k,(aF s k).queue.length<2^21∧(aF s k).out.length<2^21
 slv: ∀k,(aL s k).pipe.length<2^21∧(aL s k).done.length<2^21∧ ∀j∈(aL s k).done,j.rsp.data.length<2^21
theorem bfE {s:CSt} (hf:beL s) (hpl:s.bM.length=3) (hsl:s.dD.length≤4) (hq: ∀k,k<3→(aF s k).queue.length≤3) (hv: ∀k,k<s.dD.length→(aL s k).pipe.length≤3∧(aL s k).done.length≤3) (hw:(qU s).length<20) (hd:(uQ s).length<20):bdV s:=by
 refine⟨hpl,hsl,hq,hv,hw,hd,⟨hf.w,hf.h,by simpa [cX] using hf.pl,?_,?_,hf.t,fun j hj=> ?_⟩⟩
 ·show (jX (qU s)).length<_
  rw[(fH _).length_eq];omega
 ·show (jX (uQ s)).length<_
  rw[(fH _).length_eq];omega
 ·have hj:j∈jX (qU s)++jX (uQ s)++s.told:=hj
  simp only[List.mem_append,BF] at hj
  rcases hj with(hj|hj)|hj
  ·rcases wU.1 hj with⟨k,_,m,_,rfl⟩|⟨k,_,m,_,rfl⟩
   ·exact(by decide:([]:List Int).length<2^21)
   ·exact(by decide:([]:List Int).length<2^21)
  ·obtain⟨k,_,h⟩:=BU.1 hj
   exact(hf.slv k).2.2 j h
  ·exact hf.td j hj
theorem be1 {s:CSt} {a b:Nat} (hpl:s.bM.length=3) (hsl:s.dD.length≤4) (hq: ∀k,k<3→(aF s k).queue.length≤a) (hv: ∀k,k<s.dD.length→(aL s k).pipe.length≤b):(qU s).length≤a*3+b*4:=by
 unfold qU
 rw[List.length_append]
 have h1:=QU (f:=jJ s) (m:=a) s.bM.length fun k hk=>by rw[hpl] at hk;simpa [jJ] using hq k hk
 have h2:=QU (f:=hJ s) (m:=b) s.dD.length fun k hk=>by simpa [hJ] using hv k hk
 rw[hpl] at h1
 have h3:=Nat.mul_le_mul_left b hsl
 rw[hpl]
 omega
theorem be0 {s:CSt} {b:Nat} (hsl:s.dD.length≤4) (hv: ∀k,k<s.dD.length→(aL s k).done.length≤b):(uQ s).length≤b*4:=by
 unfold uQ
 have h2:=QU (f:=fun k=>(aL s k).done) (m:=b) s.dD.length fun k hk=>hv k hk
 have h3:=Nat.mul_le_mul_left b hsl
 omega
theorem bd9 {c:Cfg} {s:CSt} (hf:beL s) (hp:a19 c s) (hsl:s.dD.length=4) (hv: ∀k,k<4→Z0 c s k):bdV s:=by
 have h1: ∀k,k<3→(aF s k).queue.length≤2:=fun k hk=>(hp.port k hk).ql.1
 have h2: ∀k,k<s.dD.length→(aL s k).pipe.length≤2:=fun k hk=>(hv k (by omega)).pl
 have h3: ∀k,k<s.dD.length→(aL s k).done.length≤2:=fun k hk=>(hv k (by omega)).dl
 have h4:=be1 hp.pl (by omega) h1 h2
 have h5:=be0 (by omega) h3
 exact bfE hf hp.pl (by omega) (fun k hk=>by have:=h1 k hk;omega) (fun k hk=>⟨by have:=h2 k hk;omega,by have:=h3 k hk;omega⟩) (by omega) (by omega)
end Go.AM
namespace Go.Proofs.YtmccpdapaccnoaaGreat
open Go Go.AM
set_option maxRecDepth 100000
set_option maxHeartbeats 8000000
section
variable {H : aA} {nx : Nat} {K : D → aA → Nat → Prop}
theorem bd0 (c:Cfg) (s:CSt) (hcf:jO c) (hf:beL s):aB Tryz.prog mW [dA (cU c),dA (eI s)] .nil 0 fun r _ _=>r.plain=true∧r=dB (cyB c s):=by
 have hwl:=hf.w
 have hhl:=hf.h
 have hfp:=hf.pl
 have hfs:=hf.sl
 refine VM rfl fun Q hQ=> ?_
 unfold AN
 have hfail: ¬(aQ c∧COk c s)→dB false=dB (cyB c s):=fun h=>congrArg dB (beP h).symm
 by_cases hb:aQ c
 case neg=>
  repeat' (first| (with_reducible first| (refine hK _ _ _ ?_;clear hK K)| (refine hA ?_;clear hA hB A B)|refine Z1 ?_)| (first| (with_reducible first|refine Y2 fun K hK=> ?_|refine Y3 fun A B hA hB=> ?_)| (refine W6 hcf ?_))<;>(simp only[go_sem,eq_false hb])| ((with_reducible refine Y8 ?_);try simp only[AQ.then,AQ.blk,reduceIte,Nat.reduceEqDiff])|fail)
  all_goals exact hQ _ _ _ _ _ (.inr rfl) rfl ⟨rfl,hfail fun h=>hb h.1⟩
 by_cases h0:JS s.words s.holds∧(s.bM.length:Int)=3∧(s.dD.length:Int)=4
 case neg=>
  have hno: ¬(aQ c∧COk c s):=fun⟨_,h⟩=>h0 ⟨ZS h.atm,by rw[h.pl];rfl,by rw[h.sl];rfl⟩
  repeat' (first| (with_reducible first| (refine hK _ _ _ ?_;clear hK K)| (refine hA ?_;clear hA hB A B)| (refine hB ?_;clear hA hB A B)|refine Z1 ?_|refine Z2 ?_|refine Z3 fun KB hKB=> ?_|refine Z6 (fun h=> ?_) fun h=> ?_)| (first| (with_reducible first|refine Y2 fun K hK=> ?_|refine Y3 fun A B hA hB=> ?_|refine Y6 (fun h=> ?_) fun h=> ?_)| (refine W6 hcf ?_)| (refine JZ (w:=s.words) (u:=s.holds) (by omega) (by omega) (aE rfl) ?_))<;>(simp only[go_sem,eq_true hb])| ((with_reducible refine Y8 ?_);try simp only[AQ.then,AQ.blk,reduceIte,Nat.reduceEqDiff])|fail)
  all_goals first|exact hQ _ _ _ _ _ (.inr rfl) rfl ⟨rfl,hfail hno⟩|exact absurd ⟨by simp_all,by omega,by omega⟩ h0
 obtain⟨hatm,hpl,hsl⟩:=h0
 have hpl:s.bM.length=3:=by omega
 have hsl:s.dD.length=4:=by omega
 have hat:=decide_eq_true hatm
 have hbt:=decide_eq_true hb
 repeat' (first| (with_reducible first| (refine hK _ _ _ ?_;clear hK K)| (refine hB ?_;clear hA hB A B)|refine Z1 ?_|refine Z2 ?_|refine Z3 fun KB hKB=> ?_|refine Z5 (by omega) ?_)| (first| (with_reducible first|refine Y2 fun K hK=> ?_|refine Y3 fun A B hA hB=> ?_|refine Y5 (by omega) ?_)| (refine W6 hcf ?_)| (refine JZ (by omega) (by omega) (aE rfl) ?_))<;>(simp only[go_sem,eq_true hb,hat,hbt,hpl,hsl])|fail)
 (have hKX:=hKB;clear hKB)
 refine aM.abC fun G0 hG0=> ?_
 have c0:G0 0=some ⟨3,1,[cU c]⟩:=by rw[hG0];rfl
 have c1:G0 1=some ⟨5,1,[eI s]⟩:=by rw[hG0];rfl
 clear hG0
 obtain⟨fo,hfo⟩: ∃fo:Nat→Int,fo=fun k=>((aF s k).out.length:Int):=⟨_,rfl⟩
 obtain⟨fh,hfh⟩: ∃fh:Nat→Int,fh=fun k=>(((aL s k).pipe.length:Int)+(aL s k).done.length):=⟨_,rfl⟩
 refine aM.gP (β:=Nat) (fun k=>en [(35,dI k),(34,dI 3),(33,dS (s.bM.map cD)),(6,dI 0),(5,dI (jS fo k)),(3,.one (.c (.ptr 5 1 0 0))),(2,.one (.c (.ptr 3 0 0 0)))])
  (fun k H1 _=>k≤3∧(∀i,i<k→mD c i (aF s i))∧ ∀id,id<30→H1 id=G0 id) (fun k=>3-k) 0 ⟨noF,_,by repeat' (first| (with_reducible first|exact C1|refine C2 ?_ ?_)| ((with_reducible refine C0 ?_);exact CE (by omega) rfl)| ((with_reducible refine D0 ?_);first|exact CA rfl|refine CJ ?_)|fail),aK,by omega,fun i hi=>by omega,fun _ _=>rfl⟩ ?_
 rintro k H1 nx1 hnx ⟨hk,hpo,hfr⟩ KL hKL
 have g0:=(hfr 0 (by omega)).trans c0
 have g1:=(hfr 1 (by omega)).trans c1
 have hA:bQ nx1 [0,1]:=AM.apart (by simp) (by simp;omega)
 simp only[bQ,eZ] at hA
 have hs1:=KF (f:=fo) (m:=4) (by omega) k fun j hj=>by have:=(hpo j (by omega)).ol;rw[hfo];dsimp only;omega
 by_cases hlt:k<3
 ·obtain⟨p,hpd⟩: ∃p,p=aF s k:=⟨_,rfl⟩
  have hpd':s.bM.getD k default=p:=hpd.symm
  obtain⟨hf1,hf2⟩:=hf.port k
  have hsum:jS fo (k+1)=jS fo k+p.out.length:=by rw[jS,hfo,hpd]
  rw[←hpd] at hf1 hf2
  by_cases hok:mD c k p
  ·have hpt:=beT hok
   have hol:=hok.ol
   repeat' (first| (with_reducible first| (refine hK _ _ _ ?_;clear hK K)| (refine hA ?_;clear hA hB A B)| (refine hB ?_;clear hA hB A B)|refine Z1 ?_|refine Z2 ?_|refine Z3 fun KB hKB=> ?_|refine Z4 (by omega) ?_)| (first| (with_reducible first|refine Y2 fun K hK=> ?_|refine Y3 fun A B hA hB=> ?_)| (refine a2P hb hlt hf1 hf2 ?_))<;>(simp only[go_sem,Nat.add_assoc,Nat.left_eq_add,hpd',g0,g1,hpt,hA];try simp (disch:=omega) only[Iw])| ((with_reducible refine Y0 ?_);simp only[AQ.then,AQ.blk])|refine⟨by omega,?_⟩| (with_reducible refine hKB _ _ _ ?_)|fail)
   exact hKL _ _ _ (k+1) noF _ (by omega) (by omega) (by rw[hsum];repeat' (first| (with_reducible first|exact C1|refine C2 ?_ ?_)| ((with_reducible refine C0 ?_);exact CE (by omega) rfl)| ((with_reducible refine D0 ?_);first|exact CA rfl|refine CJ ?_)|fail)) aK ⟨by omega,iS hpo (by rw[←hpd];exact hok),fun id hid=>by rw[aA.aC (by omega)];exact hfr id hid⟩
  ·have hpt:=a8A hok
   repeat' (first| (with_reducible first| (refine hK _ _ _ ?_;clear hK K)| (refine hA ?_;clear hA hB A B)|refine Z1 ?_|refine Z2 ?_|refine Z3 fun KB hKB=> ?_|refine Z4 (by omega) ?_)| (first| (with_reducible first|refine Y2 fun K hK=> ?_|refine Y3 fun A B hA hB=> ?_)| (refine a2P hb hlt hf1 hf2 ?_))<;>(simp only[go_sem,Nat.add_assoc,Nat.left_eq_add,hpd',g0,g1,hpt,hA])| ((with_reducible refine Y8 ?_);try simp only[AQ.then,AQ.blk,reduceIte,Nat.reduceEqDiff])|refine⟨by omega,?_⟩|fail)
   all_goals exact hQ _ _ _ _ _ (.inr rfl) rfl ⟨rfl,hfail fun h=>hok (by rw[hpd];exact h.2.port k hlt)⟩
 ·have hk3:k=3:=by omega
  subst hk3
  have hP:a19 c s:=⟨hpl,hpo⟩
  repeat' (first| (with_reducible first| (refine hK _ _ _ ?_;clear hK K)| (refine hB ?_;clear hA hB A B)|refine Z1 ?_|refine Z3 fun KB hKB=> ?_|refine Z5 (by omega) ?_|refine hKX _ _ _ ?_)| (with_reducible first|refine Y2 fun K hK=> ?_|refine Y3 fun A B hA hB=> ?_)<;>(simp only[go_sem,g0,g1,hsl])| ((with_reducible refine Y9 ?_);try simp only[AQ.then,AQ.blk,reduceIte,Nat.reduceEqDiff])|fail)
  (have hKY:=hKB;clear hKB)
  refine aM.gP (β:=Nat) (fun k=>en [(54,dI k),(53,dI 4),(52,dS (s.dD.map gF)),(6,dI (jS fh k)),(5,dI (jS fo 3)),(3,.one (.c (.ptr 5 1 0 0))),(2,.one (.c (.ptr 3 0 0 0)))])
   (fun k H1 _=>k≤4∧(∀i,i<k→Z0 c s i)∧ ∀id,id<30→H1 id=G0 id) (fun k=>4-k) 0 ⟨noF,_,by repeat' (first| (with_reducible first|exact C1|refine C2 ?_ ?_)| ((with_reducible refine C0 ?_);exact CE (by omega) rfl)| ((with_reducible refine D0 ?_);first|exact CA rfl|refine CJ ?_)|fail),aK,by omega,fun i hi=>by omega,hfr⟩ ?_
  clear hfr g0 g1 hA
  rintro k H2 nx2 hnx2 ⟨hk,hvo,hfr⟩ KM hKM
  have g0:=(hfr 0 (by omega)).trans c0
  have g1:=(hfr 1 (by omega)).trans c1
  have hA:bQ nx2 [0,1]:=AM.apart (by simp) (by simp;omega)
  simp only[bQ,eZ] at hA
  have hs2:=KF (f:=fh) (m:=4) (by omega) k fun j hj=>by have h1:=(hvo j (by omega)).pl;have h2:=(hvo j (by omega)).dl;rw[hfh];dsimp only;omega
  by_cases hlt:k<4
  ·obtain⟨v,hvd⟩: ∃v,v=aL s k:=⟨_,rfl⟩
   have hvd':s.dD.getD k default=v:=hvd.symm
   obtain⟨hf1,hf2,hf3⟩:=hf.slv k
   by_cases hok:Z0 c s k
   ·have hv1:=hok.pl
    have hv2:=hok.dl
    rw[←hvd] at hv1 hv2
    have hsum:jS fh (k+1)=jS fh k+(v.pipe.length+v.done.length):=by rw[jS,hfh,hvd]
    have hpt:=beR hok
    repeat' (first| (with_reducible first| (refine hK _ _ _ ?_;clear hK K)| (refine hA ?_;clear hA hB A B)| (refine hB ?_;clear hA hB A B)|refine Z1 ?_|refine Z2 ?_|refine Z3 fun KB hKB=> ?_|refine Z4 (by omega) ?_)| (first| (with_reducible first|refine Y2 fun K hK=> ?_|refine Y3 fun A B hA hB=> ?_)| (refine a2C hb hP hsl hlt hf1 hf2 hf3 ?_))<;>(simp only[go_sem,Nat.add_assoc,Nat.left_eq_add,hvd',g0,g1,hpt,hA];try simp (disch:=omega) only[Iw])| ((with_reducible refine Y0 ?_);simp only[AQ.then,AQ.blk])|refine⟨by omega,?_⟩| (with_reducible refine hKB _ _ _ ?_)|fail)
    exact hKM _ _ _ (k+1) noF _ (by omega) (by omega) (by rw[hsum];repeat' (first| (with_reducible first|exact C1|refine C2 ?_ ?_)| ((with_reducible refine C0 ?_);exact CE (by omega) rfl)| ((with_reducible refine D0 ?_);first|exact CA rfl|refine CJ ?_)|fail)) aK ⟨by omega,iS hvo hok,fun id hid=>by rw[aA.aC (by omega)];exact hfr id hid⟩
   ·have hpt:=a6D hok
    repeat' (first| (with_reducible first| (refine hK _ _ _ ?_;clear hK K)| (refine hA ?_;clear hA hB A B)|refine Z1 ?_|refine Z2 ?_|refine Z3 fun KB hKB=> ?_|refine Z4 (by omega) ?_)| (first| (with_reducible first|refine Y2 fun K hK=> ?_|refine Y3 fun A B hA hB=> ?_)| (refine a2C hb hP hsl hlt hf1 hf2 hf3 ?_))<;>(simp only[go_sem,Nat.add_assoc,Nat.left_eq_add,hvd',g0,g1,hpt,hA])| ((with_reducible refine Y8 ?_);try simp only[AQ.then,AQ.blk,reduceIte,Nat.reduceEqDiff])|refine⟨by omega,?_⟩|fail)
    all_goals exact hQ _ _ _ _ _ (.inr rfl) rfl ⟨rfl,hfail fun h=>hok (h.2.slv k hlt)⟩
  ·have hk4:k=4:=by omega
   subst hk4
   have hab:=bd9 hf hP hsl hvo
   by_cases hct:jS fo 3=jS fh 4
   case neg=>
    have hct':(jS fo 3=jS fh 4)=False:=eq_false hct
    have hno: ¬(aQ c∧COk c s):=fun⟨_,h⟩=>hct (by
     have:=h.count
     unfold hU at this
     rw[hfo,hfh]
     simp only[jS]
     omega)
    repeat' (first| (with_reducible first| (refine hK _ _ _ ?_;clear hK K)| (refine hB ?_;clear hA hB A B)|refine Z1 ?_|refine Z5 (by omega) ?_|refine hKY _ _ _ ?_)| (with_reducible first|refine Y2 fun K hK=> ?_|refine Y3 fun A B hA hB=> ?_)<;>(simp only[go_sem,Nat.add_assoc,Nat.left_eq_add,g0,g1,hct',hA])| ((with_reducible first|refine Y8 ?_|refine Y9 ?_);try simp only[AQ.then,AQ.blk,reduceIte,Nat.reduceEqDiff])|fail)
    all_goals exact hQ _ _ _ _ _ (.inr rfl) rfl ⟨rfl,hfail hno⟩
   have hct':(jS fo 3=jS fh 4)=True:=eq_true hct
   repeat' (first| (with_reducible first| (refine hK _ _ _ ?_;clear hK K)| (refine hB ?_;clear hA hB A B)|refine Z1 ?_|refine Z5 (by omega) ?_|refine hKY _ _ _ ?_)| (first| (with_reducible first|refine Y2 fun K hK=> ?_|refine Y3 fun A B hA hB=> ?_)| (refine bdE hab (fun H' nx' hx' ffr=> ?_)))<;>(simp only[go_sem,Nat.add_assoc,Nat.left_eq_add,g0,g1,hct',hA])| ((with_reducible refine Y9 ?_);try simp only[AQ.then,AQ.blk,reduceIte,Nat.reduceEqDiff])|fail)
   have e0:=(ffr 0 (by omega)).trans g0
   refine⟨fun _=>by rw[e0];rfl,?_⟩
   refine aVW hb hab.st ?_
   simp only[go_sem]
   repeat' (first| (with_reducible (refine hK _ _ _ ?_;clear hK K))| ((with_reducible refine Y8 ?_);try simp only[AQ.then,AQ.blk,reduceIte,Nat.reduceEqDiff])|fail)
   refine hQ _ _ _ _ _ (.inr rfl) rfl ⟨rfl,congrArg dB ?_⟩
   by_cases hst:BA c (cX s)
   ·rw[aXJ hst]
    refine(bfB hb ⟨⟨by have:=hatm.1.1;omega,hatm.1.2,by have:=hatm.2.1;omega,hatm.2.2⟩,hpl,hsl,hpo,hvo,?_,hst⟩).symm
    unfold hU
    rw[hfo,hfh] at hct
    simp only[jS] at hct
    omega
   ·rw[aWH hst,beP fun h=>hst h.2.st]
theorem bd4 {c:Cfg} {s:CSt} (hcf:jO c) (hf:beL s) (h:K (dB (cyB c s)) H nx):aB Tryz.prog mW [dA (cU c),dA (eI s)] H nx K:=
 (bd0 c s hcf hf).pure rfl (aI ⟨aE rfl,aE rfl,trivial⟩) fun r hr=>hr▸h
end
end Go.Proofs.YtmccpdapaccnoaaGreat
end
section
namespace Go.Proofs.YtmccpdapaccnoaaGreat
open Go Go.AM
set_option maxRecDepth 100000
def aJP:AC:=
 (.seq (.region [rq 0 2 (.box true (.tm 0)),
 rq 1 3 (.box true (.tm 1)),
 rq 2 4 (.move (.kv (.bool false)))] 3 [2,3])
 (.seq (.seq (.region [rq 0 9 (.load 3 true (.tm 2)),
 rq 1 10 (.call aIV [(.tm 9)]),
 rq 2 11 (.un .not (.tm 10)),
 RM 3 12 11,
 GQ 4 13 (.fld 0 (.tm 3)) 12 false,
 GQ 5 14 (.load 2 true (.tm 13)) 12 false,
 GQ 6 15 (.call aIU [(.tm 14)]) 12 false,
 GQ 7 16 (.un .not (.tm 15)) 12 false,
 rq 8 17 (.pick (.tm 12) (.kv (.bool true)) (.tm 16)),
 RM 9 18 17,
 GQ 10 19 (.fld 2 (.tm 3)) 18 false,
 GQ 11 20 (.load 1 false (.tm 19)) 18 false,
 GQ 12 21 (.len false (.tm 20)) 18 false,
 GQ 13 22 (.bin .neq (.tm 21) (ki 3)) 18 false,
 rq 14 23 (.pick (.tm 18) (.kv (.bool true)) (.tm 22))] 15 [2,3,23])
 (.cond (.tm 23)
 (.seq (.region [rq 0 4 (.move (.kv (.bool false)))] 1 [4])
 .ret)
 .skip))
 (.seq (.region [rq 0 5 (.move (ki 0))] 1 [2,3,5])
 (.seq (.seq (.region [rq 0 6 (.move (ki 0))] 1 [2,3,5,6])
 (.block 0
 (.loop
 (.seq (.seq (.region [RM 0 24 6,
 rq 1 25 (.bin .lss (.tm 24) (ki 3))] 2 [2,3,5,6,25])
 (.cond (.tm 25)
 .skip
 (.exit 0)))
 (.seq (.block 1
 (.seq (.seq (.region [RF 0 28 2 3,
 RL 1 29 28,
 RM 2 30 6,
 rq 3 31 (.idx 1 (.tm 29) (.tm 30)),
 RL 4 32 31,
 RF 5 33 2 2,
 RL 6 34 33,
 RM 7 35 6,
 rq 8 36 (.idx 1 (.tm 34) (.tm 35)),
 RL 9 37 36,
 rq 10 38 (.len false (.tm 37)),
 rq 11 39 (.call y2 [(.tm 32),(ki 0),(.tm 38)]),
 rq 12 40 (.un .not (.tm 39))] 13 [2,3,5,6,40])
 (.cond (.tm 40)
 (.seq (.region [rq 0 4 (.move (.kv (.bool false)))] 1 [4])
 .ret)
 .skip))
 (.region [RM 0 41 5,
 RF 1 42 2 3,
 RL 2 43 42,
 RM 3 44 6,
 rq 4 45 (.idx 1 (.tm 43) (.tm 44)),
 RL 5 46 45,
 rq 6 47 (.bin .add (.tm 41) (.tm 46)),
 RM 7 5 47] 8 [2,3,5,6])))
 (.region [RM 0 26 6,
 rq 1 27 (.bin .add (.tm 26) (ki 1)),
 RM 2 6 27] 3 [2,3,5,6]))))))
 (.seq (.seq (.region [rq 0 48 (.load 3 true (.tm 2)),
 RF 1 49 2 3,
 RL 2 50 49,
 RF 3 51 3 3,
 RL 4 52 51,
 rq 5 53 (.call aIQ [(.tm 48),(.tm 50),(.tm 52),(.kv (.bool false))]),
 rq 6 54 (.un .not (.tm 53)),
 RM 7 55 54,
 GQ 8 56 (.load 3 true (.tm 2)) 55 false,
 GQ 9 57 (.fld 2 (.tm 3)) 55 false,
 GQ 10 58 (.load 1 false (.tm 57)) 55 false,
 GQ 11 59 (.fld 4 (.tm 3)) 55 false,
 GQ 12 60 (.load 1 false (.tm 59)) 55 false,
 GQ 13 61 (.call aIQ [(.tm 56),(.tm 58),(.tm 60),(.kv (.bool true))]) 55 false,
 GQ 14 62 (.un .not (.tm 61)) 55 false,
 rq 15 63 (.pick (.tm 55) (.kv (.bool true)) (.tm 62)),
 RM 16 64 63,
 GQ 17 65 (.load 3 true (.tm 2)) 64 false,
 GQ 18 66 (.load 6 true (.tm 3)) 64 false,
 GQ 19 67 (.call aIX [(.tm 65),(.tm 66)]) 64 false,
 GQ 20 68 (.un .not (.tm 67)) 64 false,
 rq 21 69 (.pick (.tm 64) (.kv (.bool true)) (.tm 68)),
 RM 22 70 69,
 GQ 23 71 (.fld 3 (.tm 3)) 70 false,
 GQ 24 72 (.load 1 false (.tm 71)) 70 false,
 GQ 25 73 (.len false (.tm 72)) 70 false,
 GQ 26 74 (.fld 4 (.tm 3)) 70 false,
 GQ 27 75 (.load 1 false (.tm 74)) 70 false,
 GQ 28 76 (.len false (.tm 75)) 70 false,
 GQ 29 77 (.bin .add (.tm 73) (.tm 76)) 70 false,
 GQ 30 78 (.fld 5 (.tm 3)) 70 false,
 GQ 31 79 (.load 1 false (.tm 78)) 70 false,
 GQ 32 80 (.len false (.tm 79)) 70 false,
 GQ 33 81 (.bin .add (.tm 77) (.tm 80)) 70 false,
 GQ 34 82 (.move (.tm 5)) 70 false,
 GQ 35 83 (.bin .neq (.tm 81) (.tm 82)) 70 false,
 rq 36 84 (.pick (.tm 70) (.kv (.bool true)) (.tm 83))] 37 [3,84])
 (.cond (.tm 84)
 (.seq (.region [rq 0 4 (.move (.kv (.bool false)))] 1 [4])
 .ret)
 .skip))
 (.seq (.seq (.region [rq 0 7 (.move (ki 0))] 1 [3,7])
 (.block 2
 (.loop
 (.seq (.seq (.region [RM 0 85 7,
 RF 1 86 5 3,
 RL 2 87 86,
 rq 3 88 (.len false (.tm 87)),
 rq 4 89 (.bin .lss (.tm 85) (.tm 88))] 5 [3,7,89])
 (.cond (.tm 89)
 .skip
 (.exit 2)))
 (.seq (.block 3
 (.seq (.region [RF 0 92 3 3,
 RL 1 93 92,
 RF 2 94 5 3,
 RL 3 95 94,
 RM 4 96 7,
 rq 5 97 (.idx 5 (.tm 95) (.tm 96)),
 RF 6 98 0 97,
 RL 7 99 98,
 RF 8 100 5 3,
 RL 9 101 100,
 RM 10 102 7,
 rq 11 103 (.idx 5 (.tm 101) (.tm 102)),
 RF 12 104 1 103,
 RL 13 105 104,
 rq 14 106 (.call aIN [(.tm 93),(.tm 99),(.tm 105)]),
 rq 15 107 (.bin .geq (.tm 106) (ki 0)),
 RM 16 108 107,
 GQ 17 109 (.fld 4 (.tm 3)) 108 false,
 GQ 18 110 (.load 1 false (.tm 109)) 108 false,
 GQ 19 111 (.fld 5 (.tm 3)) 108 false,
 GQ 20 112 (.load 1 false (.tm 111)) 108 false,
 GQ 21 113 (.move (.tm 7)) 108 false,
 GQ 22 114 (.idx 5 (.tm 112) (.tm 113)) 108 false,
 GQ 23 115 (.fld 0 (.tm 114)) 108 false,
 GQ 24 116 (.load 1 false (.tm 115)) 108 false,
 GQ 25 117 (.fld 5 (.tm 3)) 108 false,
 GQ 26 118 (.load 1 false (.tm 117)) 108 false,
 GQ 27 119 (.move (.tm 7)) 108 false,
 GQ 28 120 (.idx 5 (.tm 118) (.tm 119)) 108 false,
 GQ 29 121 (.fld 1 (.tm 120)) 108 false,
 GQ 30 122 (.load 1 false (.tm 121)) 108 false,
 GQ 31 123 (.call aIN [(.tm 110),(.tm 116),(.tm 122)]) 108 false,
 GQ 32 124 (.bin .geq (.tm 123) (ki 0)) 108 false,
 rq 33 125 (.pick (.tm 108) (.kv (.bool true)) (.tm 124))] 34 [3,7,125])
 (.cond (.tm 125)
 (.seq (.region [rq 0 4 (.move (.kv (.bool false)))] 1 [4])
 .ret)
 .skip)))
 (.region [RM 0 90 7,
 rq 1 91 (.bin .add (.tm 90) (ki 1)),
 RM 2 7 91] 3 [3,7]))))))
 (.seq (.seq (.region [rq 0 8 (.move (ki 0))] 1 [3,8])
 (.block 4
 (.loop
 (.seq (.seq (.region [RM 0 126 8,
 RF 1 127 4 3,
 RL 2 128 127,
 rq 3 129 (.len false (.tm 128)),
 rq 4 130 (.bin .lss (.tm 126) (.tm 129))] 5 [3,8,130])
 (.cond (.tm 130)
 .skip
 (.exit 4)))
 (.seq (.block 5
 (.seq (.region [RF 0 133 3 3,
 RL 1 134 133,
 RF 2 135 4 3,
 RL 3 136 135,
 RM 4 137 8,
 rq 5 138 (.idx 5 (.tm 136) (.tm 137)),
 RF 6 139 0 138,
 RL 7 140 139,
 RF 8 141 4 3,
 RL 9 142 141,
 RM 10 143 8,
 rq 11 144 (.idx 5 (.tm 142) (.tm 143)),
 RF 12 145 1 144,
 RL 13 146 145,
 rq 14 147 (.call aIN [(.tm 134),(.tm 140),(.tm 146)]),
 rq 15 148 (.bin .geq (.tm 147) (ki 0))] 16 [3,8,148])
 (.cond (.tm 148)
 (.seq (.region [rq 0 4 (.move (.kv (.bool false)))] 1 [4])
 .ret)
 .skip)))
 (.region [RM 0 131 8,
 rq 1 132 (.bin .add (.tm 131) (ki 1)),
 RM 2 8 132] 3 [3,8]))))))
 (.seq (.region [rq 0 4 (.move (.kv (.bool true)))] 1 [4])
 .ret))))))))
def aMI:List Cert:=[⟨[],[2,3]⟩,⟨[],[2,3,23]⟩,⟨[],[4]⟩,⟨[],[2,3,5]⟩,⟨[],[2,3,5,6]⟩,⟨[],[2,3,5,6,25]⟩,⟨[cz 0,cz 1,cz 2,cz 3,cz 4,cz 5,cz 6,cz 7,cz 8,cz 9,cz 10,cz 11,cz 12],[2,3,5,6,40]⟩,⟨[],[4]⟩,⟨[],[2,3,5,6]⟩,⟨[],[2,3,5,6]⟩,⟨[],[3,84]⟩,⟨[],[4]⟩,⟨[],[3,7]⟩,⟨[],[3,7,89]⟩,⟨[cz 0,cz 1,cz 2,cz 3,cz 4,cz 5,cz 6,cz 7,cz 8,cz 9,cz 10,cz 11,cz 12,cz 13,cz 14,cz 15,cz 16,cz 17,cz 18,cz 19,cz 20,cz 21,cz 22,cz 23,cz 24,cz 25,cz 26,cz 27,cz 28,cz 29,cz 30,cz 31,cz 32,cz 33],[3,7,125]⟩,⟨[],[4]⟩,⟨[],[3,7]⟩,⟨[],[3,8]⟩,⟨[],[3,8,130]⟩,⟨[cz 0,cz 1,cz 2,cz 3,cz 4,cz 5,cz 6,cz 7,cz 8,cz 9,cz 10,cz 11,cz 12,cz 13,cz 14,cz 15],[3,8,148]⟩,⟨[],[4]⟩,⟨[],[3,8]⟩,⟨[],[4]⟩]
def aKC:List aW:=[.tm 4]
theorem aMJ:aO Tryz.prog Tryz.f72 aMI=some (aJP,aKC):=by kernel_rfl
theorem aMM:aN Tryz.prog aI6 Tryz.f72 aJP aKC:=
 aN.mk Tryz.func72 (by kernel_rfl) aMJ
def aI9:AC:=
 (.seq (.region [rq 0 4 (.box true (.tm 0)),
 rq 1 8 (.move (.kv (.bool false)))] 2 [1,2,3,4])
 (.seq (.seq (.region [rq 0 9 (.move (ki 0))] 1 [1,2,3,4,9])
 (.block 0
 (.loop
 (.seq (.seq (.region [RM 0 11 9,
 RM 1 12 2,
 rq 2 13 (.len false (.tm 12)),
 rq 3 14 (.bin .lss (.tm 11) (.tm 13))] 4 [1,2,3,4,9,14])
 (.cond (.tm 14)
 .skip
 (.exit 0)))
 (.seq (.block 1
 (.seq (.region [RM 0 17 2,
 RM 1 18 9,
 rq 2 19 (.idx 5 (.tm 17) (.tm 18)),
 rq 3 20 (.load 5 true (.tm 19)),
 rq 4 10 (.alloc [VZ,VZ,VZ,VZ,OZ]),
 rn 5 (.store 5 true (.tm 10) (.tm 20))] 6 [1,2,3,4,9,10])
 (.seq (.seq (.region [RF 0 21 0 10,
 RL 1 22 21,
 rq 2 23 (.call y2 [(.tm 22),(ki 0),(ki 2)]),
 rq 3 24 (.un .not (.tm 23)),
 RM 4 25 24,
 GQ 5 26 (.fld 1 (.tm 10)) 25 false,
 GQ 6 27 (.load 1 false (.tm 26)) 25 false,
 GQ 7 28 (.move (.tm 1)) 25 false,
 GQ 8 29 (.fld 0 (.tm 10)) 25 false,
 GQ 9 30 (.load 1 false (.tm 29)) 25 false,
 GQ 10 31 (.idx 1 (.tm 28) (.tm 30)) 25 false,
 GQ 11 32 (.load 1 false (.tm 31)) 25 false,
 GQ 12 33 (.bin .sub (.tm 32) (ki 1)) 25 false,
 GQ 13 34 (.call y2 [(.tm 27),(ki 0),(.tm 33)]) 25 false,
 GQ 14 35 (.un .not (.tm 34)) 25 false,
 rq 15 36 (.pick (.tm 25) (.kv (.bool true)) (.tm 35)),
 RM 16 37 36,
 GQ 17 38 (.move (.tm 9)) 37 false,
 GQ 18 39 (.bin .gtr (.tm 38) (ki 0)) 37 false,
 GQ 19 40 (.move (.tm 39)) 37 false,
 GQ 20 41 (.move (.tm 2)) 40 true,
 GQ 21 42 (.move (.tm 9)) 40 true,
 GQ 22 43 (.bin .sub (.tm 42) (ki 1)) 40 true,
 GQ 23 44 (.idx 5 (.tm 41) (.tm 43)) 40 true,
 GQ 24 45 (.load 5 true (.tm 44)) 40 true,
 GQ 25 46 (.load 5 true (.tm 10)) 40 true,
 GQ 26 47 (.call aKL [(.tm 45),(.tm 46)]) 40 true,
 GQ 27 48 (.un .not (.tm 47)) 40 true,
 GQ 28 49 (.pick (.tm 40) (.tm 48) (.kv (.bool false))) 37 false,
 rq 29 50 (.pick (.tm 37) (.kv (.bool true)) (.tm 49))] 30 [1,2,3,4,9,10,50])
 (.cond (.tm 50)
 (.seq (.region [rq 0 8 (.move (.kv (.bool false)))] 1 [8])
 .ret)
 .skip))
 (.seq (.region [RM 0 51 3,
 RM 1 52 51,
 GQ 2 53 (.fld 2 (.tm 10)) 52 true,
 GQ 3 54 (.load 3 true (.tm 53)) 52 true,
 GQ 4 55 (.call aIP [(.tm 54)]) 52 true,
 GQ 5 56 (.un .not (.tm 55)) 52 true,
 GQ 6 57 (.move (.tm 56)) 52 true,
 GQ 7 58 (.fld 2 (.tm 10)) 57 false,
 GQ 8 59 (.fld 0 (.tm 58)) 57 false,
 GQ 9 60 (.load 1 false (.tm 59)) 57 false,
 GQ 10 61 (.fld 2 (.tm 4)) 57 false,
 GQ 11 62 (.load 1 false (.tm 61)) 57 false,
 GQ 12 63 (.fld 0 (.tm 10)) 57 false,
 GQ 13 64 (.load 1 false (.tm 63)) 57 false,
 GQ 14 65 (.idx 1 (.tm 62) (.tm 64)) 57 false,
 GQ 15 66 (.load 1 false (.tm 65)) 57 false,
 GQ 16 67 (.fld 1 (.tm 10)) 57 false,
 GQ 17 68 (.load 1 false (.tm 67)) 57 false,
 GQ 18 69 (.idx 7 (.tm 66) (.tm 68)) 57 false,
 GQ 19 70 (.fld 0 (.tm 69)) 57 false,
 GQ 20 71 (.load 1 false (.tm 70)) 57 false,
 GQ 21 72 (.bin .neq (.tm 60) (.tm 71)) 57 false,
 GQ 22 73 (.pick (.tm 57) (.kv (.bool true)) (.tm 72)) 52 true,
 rq 23 74 (.pick (.tm 52) (.tm 73) (.kv (.bool false))),
 RM 24 75 74,
 GQ 25 76 (.move (.tm 3)) 75 false,
 GQ 26 77 (.un .not (.tm 76)) 75 false,
 GQ 27 78 (.move (.tm 77)) 75 false,
 GQ 28 79 (.fld 2 (.tm 10)) 78 true,
 GQ 29 80 (.fld 0 (.tm 79)) 78 true,
 GQ 30 81 (.load 1 false (.tm 80)) 78 true,
 GQ 31 82 (.bin .neq (.tm 81) (ki 0)) 78 true,
 GQ 32 83 (.move (.tm 82)) 78 true,
 GQ 33 84 (.fld 2 (.tm 10)) 83 false,
 GQ 34 85 (.fld 1 (.tm 84)) 83 false,
 GQ 35 86 (.load 1 false (.tm 85)) 83 false,
 GQ 36 87 (.bin .neq (.tm 86) (ki 0)) 83 false,
 GQ 37 88 (.pick (.tm 83) (.kv (.bool true)) (.tm 87)) 78 true,
 GQ 38 89 (.move (.tm 88)) 78 true,
 GQ 39 90 (.fld 2 (.tm 10)) 89 false,
 GQ 40 91 (.fld 2 (.tm 90)) 89 false,
 GQ 41 92 (.load 1 false (.tm 91)) 89 false,
 GQ 42 93 (.len false (.tm 92)) 89 false,
 GQ 43 94 (.bin .neq (.tm 93) (ki 0)) 89 false,
 GQ 44 95 (.pick (.tm 89) (.kv (.bool true)) (.tm 94)) 78 true,
 GQ 45 96 (.pick (.tm 78) (.tm 95) (.kv (.bool false))) 75 false,
 rq 46 97 (.pick (.tm 75) (.kv (.bool true)) (.tm 96))] 47 [1,2,3,4,9,97])
 (.cond (.tm 97)
 (.seq (.region [rq 0 8 (.move (.kv (.bool false)))] 1 [8])
 .ret)
 .skip)))))
 (.region [RM 0 15 9,
 rq 1 16 (.bin .add (.tm 15) (ki 1)),
 RM 2 9 16] 3 [1,2,3,4,9]))))))
 (.seq (.region [rq 0 8 (.move (.kv (.bool true)))] 1 [8])
 .ret)))
def aLC:List Cert:=[⟨[],[1,2,3,4]⟩,⟨[],[1,2,3,4,9]⟩,⟨[],[1,2,3,4,9,14]⟩,⟨[],[1,2,3,4,9,10]⟩,⟨[cz 0,cz 1,cz 2,cz 3,cz 4,cz 5,cz 6,cz 7,cz 8,cz 9,cz 10,cz 11,cz 12,cz 13,cz 14,cz 15,cz 16,cz 17,cz 18,cz 19,cz 20,cz 21,cz 22,cz 23,cz 24,cz 25,cz 26,cz 27,cz 28,cz 29],[1,2,3,4,9,10,50]⟩,⟨[],[8]⟩,⟨[cz 0,cz 1,cz 2,cz 3,cz 4,cz 5,cz 6,cz 7,cz 8,cz 9,cz 10,cz 11,cz 12,cz 13,cz 14,cz 15,cz 16,cz 17,cz 18,cz 19,cz 20,cz 21,cz 22,cz 23,cz 24,cz 25,cz 26,cz 27,cz 28,cz 29,cz 30,cz 31,cz 32,cz 33,cz 34,cz 35,cz 36,cz 37,cz 38,cz 39,cz 40,cz 41,cz 42,cz 43,cz 44,cz 45,cz 46],[1,2,3,4,9,97]⟩,⟨[],[8]⟩,⟨[],[1,2,3,4,9]⟩,⟨[],[8]⟩]
def aJ1:List aW:=[.tm 8]
theorem aKV:aO Tryz.prog Tryz.f150 aLC=some (aI9,aJ1):=by kernel_rfl
theorem aKZ:aN Tryz.prog aIQ Tryz.f150 aI9 aJ1:=
 aN.mk Tryz.func150 (by kernel_rfl) aKV
def aJD:AC:=
 (.seq (.region [rq 0 2 (.box true (.tm 0)),
 rq 1 3 (.box true (.tm 1)),
 rq 2 4 (.move (.kv (.bool false)))] 3 [2,3])
 (.seq (.seq (.region [rq 0 5 (.move (ki 0))] 1 [2,3,5])
 (.block 0
 (.loop
 (.seq (.seq (.region [RM 0 7 5,
 RF 1 8 5 3,
 RL 2 9 8,
 rq 3 10 (.len false (.tm 9)),
 rq 4 11 (.bin .lss (.tm 7) (.tm 10))] 5 [2,3,5,11])
 (.cond (.tm 11)
 .skip
 (.exit 0)))
 (.seq (.block 1
 (.seq (.region [RF 0 14 5 3,
 RL 1 15 14,
 RM 2 16 5,
 rq 3 17 (.idx 5 (.tm 15) (.tm 16)),
 rq 4 18 (.load 5 true (.tm 17)),
 rq 5 6 (.alloc [VZ,VZ,VZ,VZ,OZ]),
 rn 6 (.store 5 true (.tm 6) (.tm 18))] 7 [2,3,5,6])
 (.seq (.region [RF 0 19 0 6,
 RL 1 20 19,
 rq 2 21 (.call y2 [(.tm 20),(ki 0),(ki 2)]),
 rq 3 22 (.un .not (.tm 21)),
 RM 4 23 22,
 GQ 5 24 (.fld 1 (.tm 6)) 23 false,
 GQ 6 25 (.load 1 false (.tm 24)) 23 false,
 GQ 7 26 (.fld 2 (.tm 3)) 23 false,
 GQ 8 27 (.load 1 false (.tm 26)) 23 false,
 GQ 9 28 (.fld 0 (.tm 6)) 23 false,
 GQ 10 29 (.load 1 false (.tm 28)) 23 false,
 GQ 11 30 (.idx 1 (.tm 27) (.tm 29)) 23 false,
 GQ 12 31 (.load 1 false (.tm 30)) 23 false,
 GQ 13 32 (.bin .sub (.tm 31) (ki 1)) 23 false,
 GQ 14 33 (.call y2 [(.tm 25),(ki 0),(.tm 32)]) 23 false,
 GQ 15 34 (.un .not (.tm 33)) 23 false,
 rq 16 35 (.pick (.tm 23) (.kv (.bool true)) (.tm 34)),
 RM 17 36 35,
 GQ 18 37 (.fld 2 (.tm 6)) 36 false,
 GQ 19 38 (.load 3 true (.tm 37)) 36 false,
 GQ 20 39 (.call aIP [(.tm 38)]) 36 false,
 GQ 21 40 (.un .not (.tm 39)) 36 false,
 rq 22 41 (.pick (.tm 36) (.kv (.bool true)) (.tm 40)),
 RM 23 42 41,
 GQ 24 43 (.fld 2 (.tm 6)) 42 false,
 GQ 25 44 (.fld 0 (.tm 43)) 42 false,
 GQ 26 45 (.load 1 false (.tm 44)) 42 false,
 GQ 27 46 (.fld 2 (.tm 2)) 42 false,
 GQ 28 47 (.load 1 false (.tm 46)) 42 false,
 GQ 29 48 (.fld 0 (.tm 6)) 42 false,
 GQ 30 49 (.load 1 false (.tm 48)) 42 false,
 GQ 31 50 (.idx 1 (.tm 47) (.tm 49)) 42 false,
 GQ 32 51 (.load 1 false (.tm 50)) 42 false,
 GQ 33 52 (.fld 1 (.tm 6)) 42 false,
 GQ 34 53 (.load 1 false (.tm 52)) 42 false,
 GQ 35 54 (.idx 7 (.tm 51) (.tm 53)) 42 false,
 GQ 36 55 (.fld 0 (.tm 54)) 42 false,
 GQ 37 56 (.load 1 false (.tm 55)) 42 false,
 GQ 38 57 (.bin .neq (.tm 45) (.tm 56)) 42 false,
 rq 39 58 (.pick (.tm 42) (.kv (.bool true)) (.tm 57)),
 RM 40 59 58,
 GQ 41 60 (.fld 5 (.tm 3)) 59 false,
 GQ 42 61 (.load 1 false (.tm 60)) 59 false,
 GQ 43 62 (.move (.tm 5)) 59 false,
 GQ 44 63 (.slc 5 (.tm 61) none (some (.tm 62)) none) 59 false,
 GQ 45 64 (.fld 0 (.tm 6)) 59 false,
 GQ 46 65 (.load 1 false (.tm 64)) 59 false,
 GQ 47 66 (.fld 1 (.tm 6)) 59 false,
 GQ 48 67 (.load 1 false (.tm 66)) 59 false,
 GQ 49 68 (.call aIN [(.tm 63),(.tm 65),(.tm 67)]) 59 false,
 GQ 50 69 (.bin .geq (.tm 68) (ki 0)) 59 false,
 rq 51 70 (.pick (.tm 59) (.kv (.bool true)) (.tm 69))] 52 [2,3,5,70])
 (.cond (.tm 70)
 (.seq (.region [rq 0 4 (.move (.kv (.bool false)))] 1 [4])
 .ret)
 .skip))))
 (.region [RM 0 12 5,
 rq 1 13 (.bin .add (.tm 12) (ki 1)),
 RM 2 5 13] 3 [2,3,5]))))))
 (.seq (.region [rq 0 4 (.move (.kv (.bool true)))] 1 [4])
 .ret)))
def aK4:List Cert:=[⟨[],[2,3]⟩,⟨[],[2,3,5]⟩,⟨[],[2,3,5,11]⟩,⟨[],[2,3,5,6]⟩,⟨[cz 0,cz 1,cz 2,cz 3,cz 4,cz 5,cz 6,cz 7,cz 8,cz 9,cz 10,cz 11,cz 12,cz 13,cz 14,cz 15,cz 16,cz 17,cz 18,cz 19,cz 20,cz 21,cz 22,cz 23,cz 24,cz 25,cz 26,cz 27,cz 28,cz 29,cz 30,cz 31,cz 32,cz 33,cz 34,cz 35,cz 36,cz 37,cz 38,cz 39,cz 40,cz 41,cz 42,cz 43,cz 44,cz 45,cz 46,cz 47,cz 48,cz 49,cz 50,cz 51],[2,3,5,70]⟩,⟨[],[4]⟩,⟨[],[2,3,5]⟩,⟨[],[4]⟩]
def aJY:List aW:=[.tm 4]
theorem aK1:aO Tryz.prog Tryz.f151 aK4=some (aJD,aJY):=by kernel_rfl
theorem aK7:aN Tryz.prog aIX Tryz.f151 aJD aJY:=
 aN.mk Tryz.func151 (by kernel_rfl) aK1
end Go.Proofs.YtmccpdapaccnoaaGreat
end
section
namespace Go.Proofs.YtmccpdapaccnoaaGreat
open Go Go.AM
set_option maxRecDepth 100000
set_option maxHeartbeats 4000000
attribute [go_sem] agE ai7
section
variable {H : aA} {nx : Nat} {K : D → aA → Nat → Prop}
theorem aQC (a b:Job):aB Tryz.prog aKL [dA (aS a),dA (aS b)] .nil 0 fun rr _ _=>rr.plain=true∧rr=dB (uL a b):=by
 refine aPS rfl fun Q hQ=> ?_
 unfold ap2
 repeat' (first| (with_reducible first| (refine hK _ _ _ ?_;clear hK K)|refine Z1 ?_)| (with_reducible first|refine Y2 fun K hK=> ?_|refine Y6 (fun h=> ?_) fun h=> ?_)<;>(simp only[go_sem])| ((with_reducible refine Y8 ?_);try simp only[AQ.then,AQ.blk,reduceIte,Nat.reduceEqDiff])|fail)
 all_goals first|with_reducible refine aZ hQ _ rfl rfl ?_|skip
 all_goals first|exact q9 (by grind)|exact j7 (by grind)|exact pD (by grind)
theorem c9 {a:Job} {b:Job} (h:K (dB (uL a b)) H nx):aB Tryz.prog aKL [dA (aS a),dA (aS b)] H nx K:=
 (aQC a b).pure rfl (aI ⟨aE rfl,aE rfl,trivial⟩) (fun r hr=>hr▸h)
theorem aM4 (l:List Job) (who n:Int) (hl:l.length<2^40):aB Tryz.prog aIN [dS (l.map aS),dI who,dI n] .nil 0 fun rr _ _=>rr.plain=true∧rr=dI (bK (iM who n) l):=by
 refine aM1 rfl fun Q hQ=> ?_
 unfold aJR
 repeat' (first| (with_reducible first| (refine hK _ _ _ ?_;clear hK K)|refine Z1 ?_|refine Z3 fun KB hKB=> ?_)| (with_reducible refine Y2 fun K hK=> ?_)<;>(simp only[go_sem])|fail)
 (have hKX:=hKB;clear hKB);(refine aM.loop (α:={k:Nat//k≤l.length∧(∀i,i<k→iM who n (l.getD i default)=false)}) (fun u=>en [(7,dI u.1),(2,dI n),(1,dI who),(0,dS (l.map aS))]) (fun _=>.nil) _ (fun u=>l.length-u.1) ⟨0,by omega,(by intros;first|trivial|omega)⟩ (bU (Nat.le_refl _) (by repeat' (first| (with_reducible first|exact C1|refine C2 ?_ ?_)| ((with_reducible refine D0 ?_);exact CA rfl)|fail))) ?_);(rintro⟨k,hk,hinv⟩ KL hKL)
 repeat' (first| (with_reducible first| (refine hK _ _ _ ?_;clear hK K)| (refine hA ?_;clear hA hB A B)| (refine hB ?_;clear hA hB A B)|refine Z1 ?_|refine Z2 ?_|refine Z3 fun KB hKB=> ?_|refine Z6 (fun h=> ?_) fun h=> ?_|refine hKX _ _ _ ?_)| (with_reducible first|refine Y2 fun K hK=> ?_|refine Y3 fun A B hA hB=> ?_|refine Y6 (fun h=> ?_) fun h=> ?_)<;>(simp only[go_sem];try simp (disch:=omega) only[Iw])| ((with_reducible first|refine Y8 ?_|refine Y9 ?_);try simp only[AQ.then,AQ.blk,reduceIte,Nat.reduceEqDiff])| ((with_reducible refine Y0 ?_);simp only[AQ.then,AQ.blk])|refine⟨by omega,?_⟩| (with_reducible refine hKB _ _ _ ?_)|fail)
 ·refine aZ hQ _ rfl rfl (qA (Eq.symm (CU (by omega) (decide_eq_true (by omega)) hinv)))
 · (refine hKL _ _ _ ⟨k+1,by omega,iS hinv (decide_eq_false (by omega))⟩ (by omega) (by(try dsimp only);omega) (bU (Nat.le_refl _) (by repeat' (first| (with_reducible first|exact C1|refine C2 ?_ ?_)| ((with_reducible refine D0 ?_);exact CA rfl)|fail))))
 · (refine hKL _ _ _ ⟨k+1,by omega,iS hinv (decide_eq_false (by omega))⟩ (by omega) (by(try dsimp only);omega) (bU (Nat.le_refl _) (by repeat' (first| (with_reducible first|exact C1|refine C2 ?_ ?_)| ((with_reducible refine D0 ?_);exact CA rfl)|fail))))
 ·refine aZ hQ _ rfl rfl (qA (Eq.symm (tI fun i hi=>hinv i (by omega))))
theorem aKK {l:List Job} {who:Int} {n:Int} (hl:l.length<2^40) (h:K (dI (bK (iM who n) l)) H nx):aB Tryz.prog aIN [dS (l.map aS),dI who,dI n] H nx K:=
 (aM4 l who n hl).pure rfl (aI ⟨aE rfl,aE rfl,aE rfl,trivial⟩) (fun r hr=>hr▸h)
theorem aPM (l:List Job) (j:Job) (hl:l.length<2^21):aB Tryz.prog aJS [dS (l.map aS),dA (aS j)] .nil 0 fun rr _ nn=>nn=0∧rr.imm=true∧rr=dS ((BM l j).map aS):=by
 refine aSO rfl fun Q hQ=> ?_
 unfold aN3
 generalize hf:l.findIdx (uL j)=f
 repeat' (first| (with_reducible first| (refine hK _ _ _ ?_;clear hK K)|refine Z1 ?_|refine Z3 fun KB hKB=> ?_)| (with_reducible refine Y2 fun K hK=> ?_)<;>(simp only[go_sem])|fail)
 (have hKX:=hKB;clear hKB)
 refine aM.ar4 1 (α:={p:Nat×Nat//p.1≤l.length∧(aN7 l j f p.1).length≤p.2}) (fun b u=>en [(7,dI u.1.1),(6,dB (decide (f<u.1.1))),(5,dO 5 b (aN7 l j f u.1.1).length u.1.2),(3,.one (.c (.fQ (aS j)))),(0,dS (l.map aS))])
  (fun b u=>hp [(b,⟨5,u.1.2,(aN7 l j f u.1.1).map aS⟩)]) (fun u=>l.length-u.1.1) ⟨(0,0),by omega,by simp[aN7]⟩ (by(refine cR [2] (by omega) (by repeat' (first| (with_reducible first|exact C1|refine C2 ?_ ?_)| ((with_reducible refine C0 ?_);exact CC)| ((with_reducible refine D0 ?_);first|exact CA rfl|exact CI rfl (by simp) rfl rfl rfl|refine CJ ?_)|fail)) ⟨⟨by simp,by simp[sgL],_,rfl,bP (aG dZ _) rfl rfl⟩,trivial⟩ (by simp[sgL]))) ?_
 rintro⟨⟨k,cap⟩,hk,hc⟩ KL hKL
 dsimp only at hk hc
 have hlen:=aTU (j:=j) (f:=f) hk
 by_cases hlt:k<l.length
 ·have hb:=fun hkf:k≤f=>aT2 (j:=j) hlt (hf▸hkf)
  rw[hf] at hb
  repeat' (first| (with_reducible first| (refine hK _ _ _ ?_;clear hK K)| (refine hA ?_;clear hA hB A B)| (refine hB ?_;clear hA hB A B)|refine Z1 ?_|refine Z2 ?_|refine Z3 fun KB hKB=> ?_|refine Z4 (by omega) ?_|refine fun(cap:Nat) (hcap:_≤cap)=> ?_|refine fun(hcp:_≤cap)=> ?_)| (first| (with_reducible first|refine Y2 fun K hK=> ?_|refine Y3 fun A B hA hB=> ?_|refine Y6 (fun h=> ?_) fun h=> ?_)| (with_reducible refine c9 ?_))<;>(simp only[go_sem];try simp (disch:=omega) only[Iw])| ((with_reducible refine Y0 ?_);simp only[AQ.then,AQ.blk])| ((with_reducible refine Z8 (fun h=> ?_) (fun h=> ?_))<;>try subst h)|refine⟨by omega,?_⟩| (with_reducible refine hKB _ _ _ ?_)|fail)
  ·have H:=aT6 (j:=j) hlt (show k=f from (hb (by omega)).1 (by assumption))
   have aUT:=congrArg List.length H
   simp only[List.length_append,List.length_cons,List.length_nil] at aUT
   have hkf:=(hb (by omega)).1 (by assumption)
   (refine hKL _ _ _ ⟨(k+1,cap),by omega,by dsimp only;omega⟩ (by omega) (by(try dsimp only);omega) (by(refine cR [33] (by omega) (by repeat' (first| (with_reducible first|exact C1|refine C2 ?_ ?_)| ((with_reducible refine C0 ?_);first|exact CQ (by omega) rfl rfl (by first|rfl|omega) rfl| (exact CG (by((try dsimp only);exact dbT (by omega))) rfl))| ((with_reducible refine D0 ?_);first|exact CA rfl|refine CJ ?_)|fail)) ⟨⟨by simp,by simp[sgL],_,rfl,bP (aG dZ _) (congrArg _ H) rfl⟩,trivial⟩ (by simp[sgL]))))
  ·have hne: ¬k=f:=fun he=>by have:=(hb (by omega)).2 he;simp_all
   have H:=aT3 (j:=j) hlt (show k<f by omega)
   have aUT:=congrArg List.length H
   simp only[List.length_append,List.length_cons,List.length_nil] at aUT
   (refine hKL _ _ _ ⟨(k+1,cap),by omega,by dsimp only;omega⟩ (by omega) (by(try dsimp only);omega) (by(refine cR [27] (by omega) (by repeat' (first| (with_reducible first|exact C1|refine C2 ?_ ?_)| ((with_reducible refine C0 ?_);first|exact CQ (by omega) rfl rfl (by first|rfl|omega) rfl| (exact CG (by((try dsimp only);exact dbE (by omega))) rfl))| ((with_reducible refine D0 ?_);first|exact CA rfl|refine CJ ?_)|fail)) ⟨⟨by simp,by simp[sgL],_,rfl,bP (aG dZ _) (congrArg _ H) rfl⟩,trivial⟩ (by simp[sgL]))))
  ·have H:=aT8 (j:=j) hlt (show f<k by omega)
   have aUT:=congrArg List.length H
   simp only[List.length_append,List.length_cons,List.length_nil] at aUT
   (refine hKL _ _ _ ⟨(k+1,cap),by omega,by dsimp only;omega⟩ (by omega) (by(try dsimp only);omega) (by(refine cR [27] (by omega) (by repeat' (first| (with_reducible first|exact C1|refine C2 ?_ ?_)| ((with_reducible refine C0 ?_);first|exact CQ (by omega) rfl rfl (by first|rfl|omega) rfl| (exact CG (by((try dsimp only);exact dbE (by omega))) rfl))| ((with_reducible refine D0 ?_);first|exact CA rfl|refine CJ ?_)|fail)) ⟨⟨by simp,by simp[sgL],_,rfl,bP (aG dZ _) (congrArg _ H) rfl⟩,trivial⟩ (by simp[sgL]))))
 ·have hk2:k=l.length:=by omega
  subst hk2
  subst hf
  repeat' (first| (with_reducible first| (refine hK _ _ _ ?_;clear hK K)| (refine hA ?_;clear hA hB A B)| (refine hB ?_;clear hA hB A B)|refine Z1 ?_|refine Z2 ?_|refine Z5 (by omega) ?_|refine Z6 (fun h=> ?_) fun h=> ?_|refine fun(cap:Nat) (hcap:_≤cap)=> ?_|refine fun(hcp:_≤cap)=> ?_|refine hKX _ _ _ ?_)| (with_reducible first|refine Y2 fun K hK=> ?_|refine Y3 fun A B hA hB=> ?_)<;>(simp only[go_sem])| ((with_reducible first|refine Y8 ?_|refine Y9 ?_);try simp only[AQ.then,AQ.blk,reduceIte,Nat.reduceEqDiff])|refine⟨by omega,?_⟩|fail)
  ·exact V4 hQ (dS _) _ rfl (yP (l:=aN7 l j _ l.length++[j]) dZ rfl (by simp) (by simp;omega) trivial) rfl (by rw[aTO (by omega)])
  ·exact V4 hQ (dS _) _ rfl (yP (l:=aN7 l j _ l.length) dZ rfl (by simp) (by omega) trivial) rfl (by rw[aTW (by omega)])
theorem aS4 {l:List Job} {j:Job} (hl:l.length<2^21) (h:K (dS ((BM l j).map aS)) H nx):aB Tryz.prog aJS [dS (l.map aS),dA (aS j)] H nx K:=
 (aPM l j hl).fresh rfl (fun r hr=>hr▸h)
end
end Go.Proofs.YtmccpdapaccnoaaGreat
end
section
namespace Go.Proofs.YtmccpdapaccnoaaGreat
open Go Go.AM
set_option maxRecDepth 100000
set_option maxHeartbeats 8000000
theorem aTC {a b c:Job} (h1:uL a b=true) (h2:uL b c=true):uL a c=true:=by
 rw[qL] at*;omega
theorem aTV {l:List Job} (h: ∀i,i<l.length→0<i→uL (l.getD (i-1) default) (l.getD i default)=true):kW l:=by
 have key: ∀d i,i+d+1<l.length→uL (l.getD i default) (l.getD (i+d+1) default)=true:=by
  intro d
  induction d with
  |zero=>exact fun i hi=>h (i+1) hi (by omega)
  |succ d ih=>exact fun i hi=>aTC (ih i (by omega)) (h (i+d+1+1) hi (by omega))
 refine List.pairwise_iff_getElem.2 fun i j hi hj hij=> ?_
 have:=key (j-i-1) i (by omega)
 rw[show i+(j-i-1)+1=j by omega] at this
 simpa [List.getD,hi,hj] using this
theorem aT4 {l:List Job} (h:kW l) {i:Nat} (hi:i<l.length) (h0:0<i):uL (l.getD (i-1) default) (l.getD i default)=true:=by
 have:=List.pairwise_iff_getElem.1 h (i-1) i (by omega) hi (by omega)
 simpa [List.getD,hi,show i-1<l.length by omega] using this
section
variable {H : aA} {nx : Nat} {K : D → aA → Nat → Prop}
theorem aL0 (c:Cfg) (a:List Int) (l:List Job) (b:Bool) (hb:aQ c) (ha:a.length=3) (har:aTF c a) (hl:l.length<2^21) (hd: ∀j∈l,j.rsp.data.length<2^21):aB Tryz.prog aIQ [dA (cU c),dS (a.map aJ),dS (l.map aS),dB b] .nil 0 fun rr _ _=>rr.plain=true∧rr=dB (aPK c a l b):=by
 refine aKZ rfl fun Q hQ=> ?_
 unfold aI9
 obtain⟨hp3,hp12⟩:=hC hb
 repeat' (first| (with_reducible first| (refine hK _ _ _ ?_;clear hK K)|refine Z1 ?_|refine Z3 fun KB hKB=> ?_)| (with_reducible refine Y2 fun K hK=> ?_)<;>(simp only[go_sem])|fail)
 (have hKX:=hKB;clear hKB);(refine aM.loop (α:={k:Nat//k≤l.length∧(∀i,i<k→InA a (l.getD i default)∧(0<i→uL (l.getD (i-1) default) (l.getD i default)=true)∧(if b then as5 c (l.getD i default) else (l.getD i default).rsp=oW))}) (fun u=>en [(9,dI u.1),(4,.one (.c (.fQ (cU c)))),(3,dB b),(2,dS (l.map aS)),(1,dS (a.map aJ))]) (fun _=>.nil) _ (fun u=>l.length-u.1) ⟨0,by omega,(by intros;first|trivial|omega)⟩ (bU (Nat.le_refl _) (by repeat' (first| (with_reducible first|exact C1|refine C2 ?_ ?_)| ((with_reducible refine D0 ?_);first|exact CA rfl|exact CI rfl (by simp) rfl rfl rfl)|fail))) ?_);(rintro⟨k,hk,hinv⟩ KL hKL)
 by_cases hlt:k<l.length
 ·obtain⟨j,hj⟩: ∃j,j=l.getD k default:=⟨_,rfl⟩
  have hj':=hj.symm
  have hm:j∈l:=by rw[hj];exact cC hlt
  have hdl:=hd j hm
  have hgood:InA a j→(0<k→uL (l.getD (k-1) default) j=true)→(if b then as5 c j else j.rsp=oW)→∀i,i<k+1→InA a (l.getD i default)∧(0<i→uL (l.getD (i-1) default) (l.getD i default)=true)∧(if b then as5 c (l.getD i default) else (l.getD i default).rsp=oW):=fun h1 h2 h3=>iS hinv ⟨by rw[hj'];exact h1,by rw[hj'];exact h2,by rw[hj'];exact h3⟩
  have hbad: ¬(InA a j∧(0<k→uL (l.getD (k-1) default) j=true)∧(if b then as5 c j else j.rsp=oW))→aPK c a l b=false:=fun h=>aSY fun aIF=>h ⟨aIF.inA j hm,fun h0=>by rw[hj];exact aT4 aIF.sorted hlt h0,aIF.rsp j hm⟩
  have hkm:((k:Int)-1).toNat=k-1:=by omega
  have hrs:j.rsp=oW↔j.rsp.id=0∧j.rsp.code=0∧(j.rsp.data.length:Int)=0:=by
   obtain⟨w,n,⟨i,d,x⟩⟩:=j
   simp only[oW,Rsp.mk.injEq]
   refine⟨fun⟨h1,h2,h3⟩=>⟨h1,h2,by rw[h3];rfl⟩,fun⟨h1,h2,h3⟩=>⟨h1,h2,List.length_eq_zero_iff.1 (by omega)⟩⟩
  by_cases hw:0≤j.who∧j.who≤2
  ·have hask:=har j.who.toNat (by omega)
   have hw12:=hp12 j.who.toNat
   by_cases hn:0≤j.n∧j.n≤a.getD j.who.toNat default-1
   ·have hin:InA a j:=⟨hw,hn.1,by omega⟩
    cases b with
    |false=>
     by_cases h0:0<k
     ·by_cases hbef:uL (l.getD (k-1) default) j=true
      ·repeat' (first| (with_reducible first| (refine hK _ _ _ ?_;clear hK K)| (refine hA ?_;clear hA hB A B)| (refine hB ?_;clear hA hB A B)|refine Z1 ?_|refine Z2 ?_|refine Z3 fun KB hKB=> ?_|refine Z4 (by omega) ?_|refine Z6 (fun h=> ?_) fun h=> ?_)| (first| (with_reducible first|refine Y2 fun K hK=> ?_|refine Y3 fun A B hA hB=> ?_|refine Y4 (by omega) ?_|refine Y6 (fun h=> ?_) fun h=> ?_)| (with_reducible refine aBC ?_)| (with_reducible refine c9 ?_))<;>(simp only[go_sem,hj',eq_true hw,eq_true hn,hbef,hp3,ha,hkm];try simp (disch:=omega) only[Iw])| ((with_reducible refine Y8 ?_);try simp only[AQ.then,AQ.blk,reduceIte,Nat.reduceEqDiff])| ((with_reducible refine Y0 ?_);simp only[AQ.then,AQ.blk])|refine⟨by omega,?_⟩| (with_reducible refine hKB _ _ _ ?_)|fail)
       all_goals first| (refine hKL _ _ _ ⟨k+1,by omega,hgood hin (fun _=>hbef) (by rw[if_neg (by decide)];exact hrs.2 ⟨by omega,by omega,by omega⟩)⟩ (by omega) (by(try dsimp only);omega) (bU (Nat.le_refl _) (by repeat' (first| (with_reducible first|exact C1|refine C2 ?_ ?_)| ((with_reducible refine D0 ?_);exact CA rfl)|fail))))|exact aZ hQ (dB false) rfl rfl (congrArg dB (hbad fun⟨_,_,h3⟩=>by rw[if_neg (by decide)] at h3;have:=hrs.1 h3;omega)).symm
      ·have hbf:=eq_false_of_ne_true hbef
       repeat' (first| (with_reducible first| (refine hK _ _ _ ?_;clear hK K)| (refine hA ?_;clear hA hB A B)|refine Z1 ?_|refine Z2 ?_|refine Z3 fun KB hKB=> ?_|refine Z4 (by omega) ?_)| (first| (with_reducible first|refine Y2 fun K hK=> ?_|refine Y3 fun A B hA hB=> ?_|refine Y4 (by omega) ?_)| (with_reducible refine aBC ?_)| (with_reducible refine c9 ?_))<;>(simp only[go_sem,hj',eq_true hw,eq_true hn,hbf,hp3,ha,hkm];try simp (disch:=omega) only[Iw])| ((with_reducible refine Y8 ?_);try simp only[AQ.then,AQ.blk,reduceIte,Nat.reduceEqDiff])|refine⟨by omega,?_⟩|fail)
       all_goals exact aZ hQ (dB false) rfl rfl (congrArg dB (hbad fun⟨_,h2,_⟩=>hbef (h2 h0))).symm
     ·repeat' (first| (with_reducible first| (refine hK _ _ _ ?_;clear hK K)| (refine hA ?_;clear hA hB A B)| (refine hB ?_;clear hA hB A B)|refine Z1 ?_|refine Z2 ?_|refine Z3 fun KB hKB=> ?_|refine Z4 (by omega) ?_|refine Z6 (fun h=> ?_) fun h=> ?_)| (first| (with_reducible first|refine Y2 fun K hK=> ?_|refine Y3 fun A B hA hB=> ?_|refine Y5 (by omega) ?_|refine Y6 (fun h=> ?_) fun h=> ?_)| (with_reducible refine aBC ?_))<;>(simp only[go_sem,hj',eq_true hw,eq_true hn,hp3,ha,hkm];try simp (disch:=omega) only[Iw])| ((with_reducible refine Y8 ?_);try simp only[AQ.then,AQ.blk,reduceIte,Nat.reduceEqDiff])| ((with_reducible refine Y0 ?_);simp only[AQ.then,AQ.blk])|refine⟨by omega,?_⟩| (with_reducible refine hKB _ _ _ ?_)|fail)
      all_goals first| (refine hKL _ _ _ ⟨k+1,by omega,hgood hin (fun h=>absurd h h0) (by rw[if_neg (by decide)];exact hrs.2 ⟨by omega,by omega,by omega⟩)⟩ (by omega) (by(try dsimp only);omega) (bU (Nat.le_refl _) (by repeat' (first| (with_reducible first|exact C1|refine C2 ?_ ?_)| ((with_reducible refine D0 ?_);exact CA rfl)|fail))))|exact aZ hQ (dB false) rfl rfl (congrArg dB (hbad fun⟨_,_,h3⟩=>by rw[if_neg (by decide)] at h3;have:=hrs.1 h3;omega)).symm
    |true=>
     by_cases h0:0<k
     ·by_cases hbef:uL (l.getD (k-1) default) j=true
      ·repeat' (first| (with_reducible first| (refine hK _ _ _ ?_;clear hK K)| (refine hA ?_;clear hA hB A B)| (refine hB ?_;clear hA hB A B)|refine Z1 ?_|refine Z2 ?_|refine Z3 fun KB hKB=> ?_|refine Z4 (by omega) ?_)| (first| (with_reducible first|refine Y2 fun K hK=> ?_|refine Y3 fun A B hA hB=> ?_|refine Y4 (by omega) ?_|refine Y6 (fun h=> ?_) fun h=> ?_)| (with_reducible refine aBC ?_)| (with_reducible refine c9 ?_)| (with_reducible refine aMP (show j.rsp.data.length<2^40 by omega) ?_))<;>(simp only[go_sem,hj',eq_true hw,eq_true hn,hbef,hp3,ha,hkm];try simp (disch:=omega) only[Iw])| ((with_reducible refine Y8 ?_);try simp only[AQ.then,AQ.blk,reduceIte,Nat.reduceEqDiff])| ((with_reducible refine Y0 ?_);simp only[AQ.then,AQ.blk])|refine⟨by omega,?_⟩| (with_reducible refine hKB _ _ _ ?_)|fail)
       all_goals first| (refine hKL _ _ _ ⟨k+1,by omega,hgood hin (fun _=>hbef) (by rw[if_pos rfl];exact⟨Classical.not_not.1 (by assumption),by unfold bT;omega⟩)⟩ (by omega) (by(try dsimp only);omega) (bU (Nat.le_refl _) (by repeat' (first| (with_reducible first|exact C1|refine C2 ?_ ?_)| ((with_reducible refine D0 ?_);exact CA rfl)|fail))))|exact aZ hQ (dB false) rfl rfl (congrArg dB (hbad fun⟨_,_,h3⟩=>by rw[if_pos rfl] at h3;obtain⟨h4,h5⟩:=h3;unfold bT at h5;first|omega|exact absurd h4 (by assumption)|simp_all)).symm
      ·have hbf:=eq_false_of_ne_true hbef
       repeat' (first| (with_reducible first| (refine hK _ _ _ ?_;clear hK K)| (refine hA ?_;clear hA hB A B)|refine Z1 ?_|refine Z2 ?_|refine Z3 fun KB hKB=> ?_|refine Z4 (by omega) ?_)| (first| (with_reducible first|refine Y2 fun K hK=> ?_|refine Y3 fun A B hA hB=> ?_|refine Y4 (by omega) ?_)| (with_reducible refine aBC ?_)| (with_reducible refine c9 ?_))<;>(simp only[go_sem,hj',eq_true hw,eq_true hn,hbf,hp3,ha,hkm];try simp (disch:=omega) only[Iw])| ((with_reducible refine Y8 ?_);try simp only[AQ.then,AQ.blk,reduceIte,Nat.reduceEqDiff])|refine⟨by omega,?_⟩|fail)
       all_goals exact aZ hQ (dB false) rfl rfl (congrArg dB (hbad fun⟨_,h2,_⟩=>hbef (h2 h0))).symm
     ·repeat' (first| (with_reducible first| (refine hK _ _ _ ?_;clear hK K)| (refine hA ?_;clear hA hB A B)| (refine hB ?_;clear hA hB A B)|refine Z1 ?_|refine Z2 ?_|refine Z3 fun KB hKB=> ?_|refine Z4 (by omega) ?_)| (first| (with_reducible first|refine Y2 fun K hK=> ?_|refine Y3 fun A B hA hB=> ?_|refine Y5 (by omega) ?_|refine Y6 (fun h=> ?_) fun h=> ?_)| (with_reducible refine aBC ?_)| (with_reducible refine aMP (show j.rsp.data.length<2^40 by omega) ?_))<;>(simp only[go_sem,hj',eq_true hw,eq_true hn,hp3,ha,hkm];try simp (disch:=omega) only[Iw])| ((with_reducible refine Y8 ?_);try simp only[AQ.then,AQ.blk,reduceIte,Nat.reduceEqDiff])| ((with_reducible refine Y0 ?_);simp only[AQ.then,AQ.blk])|refine⟨by omega,?_⟩| (with_reducible refine hKB _ _ _ ?_)|fail)
      all_goals first| (refine hKL _ _ _ ⟨k+1,by omega,hgood hin (fun h=>absurd h h0) (by rw[if_pos rfl];exact⟨Classical.not_not.1 (by assumption),by unfold bT;omega⟩)⟩ (by omega) (by(try dsimp only);omega) (bU (Nat.le_refl _) (by repeat' (first| (with_reducible first|exact C1|refine C2 ?_ ?_)| ((with_reducible refine D0 ?_);exact CA rfl)|fail))))|exact aZ hQ (dB false) rfl rfl (congrArg dB (hbad fun⟨_,_,h3⟩=>by rw[if_pos rfl] at h3;obtain⟨h4,h5⟩:=h3;unfold bT at h5;first|omega|exact absurd h4 (by assumption)|simp_all)).symm
   ·repeat' (first| (with_reducible first| (refine hK _ _ _ ?_;clear hK K)| (refine hA ?_;clear hA hB A B)|refine Z1 ?_|refine Z2 ?_|refine Z3 fun KB hKB=> ?_|refine Z4 (by omega) ?_)| (first| (with_reducible first|refine Y2 fun K hK=> ?_|refine Y3 fun A B hA hB=> ?_)| (with_reducible refine aBC ?_))<;>(simp only[go_sem,hj',eq_true hw,eq_false hn,ha];try simp (disch:=omega) only[Iw])| ((with_reducible refine Y8 ?_);try simp only[AQ.then,AQ.blk,reduceIte,Nat.reduceEqDiff])|refine⟨by omega,?_⟩|fail)
    all_goals first| (exfalso;omega)|exact aZ hQ (dB false) rfl rfl (congrArg dB (hbad fun⟨h1,_,_⟩=>hn ⟨h1.2.1,by have:=h1.2.2;omega⟩)).symm
  ·repeat' (first| (with_reducible first| (refine hK _ _ _ ?_;clear hK K)| (refine hA ?_;clear hA hB A B)|refine Z1 ?_|refine Z2 ?_|refine Z3 fun KB hKB=> ?_|refine Z4 (by omega) ?_)| (first| (with_reducible first|refine Y2 fun K hK=> ?_|refine Y3 fun A B hA hB=> ?_)| (with_reducible refine aBC ?_))<;>(simp only[go_sem,hj',eq_false hw])| ((with_reducible refine Y8 ?_);try simp only[AQ.then,AQ.blk,reduceIte,Nat.reduceEqDiff])|refine⟨by omega,?_⟩|fail)
   all_goals first| (exfalso;omega)|exact aZ hQ (dB false) rfl rfl (congrArg dB (hbad fun⟨h1,_,_⟩=>hw h1.1)).symm
 ·repeat' (first| (with_reducible first| (refine hK _ _ _ ?_;clear hK K)| (refine hB ?_;clear hA hB A B)|refine Z1 ?_|refine Z5 (by omega) ?_|refine hKX _ _ _ ?_)| (with_reducible first|refine Y2 fun K hK=> ?_|refine Y3 fun A B hA hB=> ?_)<;>(simp only[go_sem])| ((with_reducible first|refine Y8 ?_|refine Y9 ?_);try simp only[AQ.then,AQ.blk,reduceIte,Nat.reduceEqDiff])|fail)
  have hk2:k=l.length:=by omega
  subst hk2
  exact aZ hQ (dB true) rfl rfl (congrArg dB (aQD ⟨fun x hx=>aKJ (fun i hi=>(hinv i hi).1) x hx,aTV fun i hi=>(hinv i hi).2.1,fun x hx=>aKJ (P:=fun x=>if b then as5 c x else x.rsp=oW) (fun i hi=>(hinv i hi).2.2) x hx⟩).symm)
theorem aMA {c:Cfg} {a:List Int} {l:List Job} {b:Bool} (hb:aQ c) (ha:a.length=3) (har:aTF c a) (hl:l.length<2^21) (hd: ∀j∈l,j.rsp.data.length<2^21) (h:K (dB (aPK c a l b)) H nx):aB Tryz.prog aIQ [dA (cU c),dS (a.map aJ),dS (l.map aS),dB b] H nx K:=
 (aL0 c a l b hb ha har hl hd).pure rfl (aI ⟨aE rfl,aE rfl,aE rfl,aE rfl,trivial⟩) (fun r hr=>hr▸h)
end
end Go.Proofs.YtmccpdapaccnoaaGreat
end
section
namespace Go.Proofs.YtmccpdapaccnoaaGreat
open Go Go.AM
set_option maxRecDepth 100000
set_option maxHeartbeats 8000000
theorem aTP {l:List Job} (h: ∀i,i<l.length→key (l.getD i default)∉(l.take i).map key):(l.map key).Nodup:=by
 refine List.pairwise_map.2 (List.pairwise_iff_getElem.2 fun i j hi hj hij he=> ?_)
 refine h j hj ?_
 rw[show l.getD j default=l[j] by simp[List.getD,hj],←he]
 exact List.mem_map_of_mem (List.mem_iff_getElem.2 ⟨i,by simp;omega,by simp⟩)
theorem aTN {l:List Job} (h:(l.map key).Nodup) {i:Nat} (hi:i<l.length):key (l.getD i default)∉(l.take i).map key:=by
 intro hm
 obtain⟨x,hx,he⟩:=List.mem_map.1 hm
 obtain⟨j,hj,rfl⟩:=List.mem_iff_getElem.1 hx
 have hji:j<i:=by simp at hj;omega
 have h1:=List.pairwise_iff_getElem.1 (List.pairwise_map.1 h) j i (by omega) hi hji
 rw[show l.getD i default=l[i] by simp[List.getD,hi]] at he
 simp only[List.getElem_take] at he
 exact h1 he
section
variable {H : aA} {nx : Nat} {K : D → aA → Nat → Prop}
theorem aL5 (c:Cfg) (s:TSt) (hb:aQ c) (ha:s.asked.length=3) (har:aTF c s.asked) (hl:s.told.length<2^21) (hd: ∀j∈s.told,j.rsp.data.length<2^21):aB Tryz.prog aIX [dA (cU c),dA (eSt s)] .nil 0 fun rr _ _=>rr.plain=true∧rr=dB (aRF c s):=by
 refine aK7 rfl fun Q hQ=> ?_
 unfold aJD
 obtain⟨hp3,hp12⟩:=hC hb
 repeat' (first| (with_reducible first| (refine hK _ _ _ ?_;clear hK K)|refine Z1 ?_|refine Z3 fun KB hKB=> ?_)| (with_reducible refine Y2 fun K hK=> ?_)<;>(simp only[go_sem])|fail)
 (have hKX:=hKB;clear hKB);(refine aM.loop (α:={k:Nat//k≤s.told.length∧(∀i,i<k→InA s.asked (s.told.getD i default)∧as5 c (s.told.getD i default)∧key (s.told.getD i default)∉(s.told.take i).map key)}) (fun u=>en [(5,dI u.1),(3,.one (.c (.fQ (eSt s)))),(2,.one (.c (.fQ (cU c))))]) (fun _=>.nil) _ (fun u=>s.told.length-u.1) ⟨0,by omega,(by intros;first|trivial|omega)⟩ (bU (Nat.le_refl _) (by repeat' (first| (with_reducible first|exact C1|refine C2 ?_ ?_)| ((with_reducible refine D0 ?_);first|exact CA rfl|exact CI rfl (by simp) rfl rfl rfl)|fail))) ?_);(rintro⟨k,hk,hinv⟩ KL hKL)
 by_cases hlt:k<s.told.length
 ·obtain⟨j,hj⟩: ∃j,j=s.told.getD k default:=⟨_,rfl⟩
  have hj':=hj.symm
  have hm:j∈s.told:=by rw[hj];exact cC hlt
  have hdl:=hd j hm
  have hgood:InA s.asked j→as5 c j→key j∉(s.told.take k).map key→∀i,i<k+1→InA s.asked (s.told.getD i default)∧as5 c (s.told.getD i default)∧key (s.told.getD i default)∉(s.told.take i).map key:=fun h1 h2 h3=>iS hinv (by rw[hj'];exact⟨h1,h2,h3⟩)
  have hbad: ¬(InA s.asked j∧as5 c j∧key j∉(s.told.take k).map key)→aRF c s=false:=fun h=>aTL fun aIF=>h ⟨aIF.inA j hm,aIF.rsp j hm,by rw[hj];exact aTN aIF.once hlt⟩
  by_cases hw:0≤j.who∧j.who≤2
  ·have hask:=har j.who.toNat (by omega)
   have hw12:=hp12 j.who.toNat
   by_cases hn:0≤j.n∧j.n≤s.asked.getD j.who.toNat default-1
   ·have hin:InA s.asked j:=⟨hw,hn.1,by omega⟩
    by_cases hr:pA j.rsp
    ·by_cases hid:j.rsp.id=((c.cP.getD j.who.toNat default).getD j.n.toNat default).id
     ·have hra:as5 c j:=⟨hr,hid⟩
      by_cases hk0:0≤bK (iM j.who j.n) (s.told.take k)
      ·repeat' (first| (with_reducible first| (refine hK _ _ _ ?_;clear hK K)| (refine hA ?_;clear hA hB A B)|refine Z1 ?_|refine Z2 ?_|refine Z3 fun KB hKB=> ?_|refine Z4 (by omega) ?_)| (first| (with_reducible first|refine Y2 fun K hK=> ?_|refine Y3 fun A B hA hB=> ?_)| (with_reducible refine aBC ?_)| (with_reducible refine aMP (show j.rsp.data.length<2^40 by omega) ?_)| (with_reducible refine aKK (l:=s.told.take k) (by simp;omega) ?_))<;>(simp only[go_sem,hj',eq_true hw,eq_true hn,eq_true hr,hid.symm,hp3,ha];try simp (disch:=omega) only[Iw])| ((with_reducible refine Y8 ?_);try simp only[AQ.then,AQ.blk,reduceIte,Nat.reduceEqDiff])|refine⟨by omega,?_⟩|fail)
       all_goals first| (exfalso;omega)|exact aZ hQ (dB false) rfl rfl (congrArg dB (hbad fun⟨_,_,h⟩=>h (ZP.1 hk0))).symm
      ·repeat' (first| (with_reducible first| (refine hK _ _ _ ?_;clear hK K)| (refine hA ?_;clear hA hB A B)| (refine hB ?_;clear hA hB A B)|refine Z1 ?_|refine Z2 ?_|refine Z3 fun KB hKB=> ?_|refine Z4 (by omega) ?_|refine Z5 (by omega) ?_)| (first| (with_reducible first|refine Y2 fun K hK=> ?_|refine Y3 fun A B hA hB=> ?_)| (with_reducible refine aBC ?_)| (with_reducible refine aMP (show j.rsp.data.length<2^40 by omega) ?_)| (with_reducible refine aKK (l:=s.told.take k) (by simp;omega) ?_))<;>(simp only[go_sem,hj',eq_true hw,eq_true hn,eq_true hr,hid.symm,hp3,ha];try simp (disch:=omega) only[Iw])| ((with_reducible refine Y0 ?_);simp only[AQ.then,AQ.blk])|refine⟨by omega,?_⟩| (with_reducible refine hKB _ _ _ ?_)|fail)
       all_goals first| (exfalso;omega)| (refine hKL _ _ _ ⟨k+1,by omega,hgood hin hra (fun h=>hk0 (ZP.2 h))⟩ (by omega) (by(try dsimp only);omega) (bU (Nat.le_refl _) (by repeat' (first| (with_reducible first|exact C1|refine C2 ?_ ?_)| ((with_reducible refine D0 ?_);exact CA rfl)|fail))))
     ·repeat' (first| (with_reducible first| (refine hK _ _ _ ?_;clear hK K)| (refine hA ?_;clear hA hB A B)|refine Z1 ?_|refine Z2 ?_|refine Z3 fun KB hKB=> ?_|refine Z4 (by omega) ?_)| (first| (with_reducible first|refine Y2 fun K hK=> ?_|refine Y3 fun A B hA hB=> ?_|refine Y4 (by omega) ?_)| (with_reducible refine aBC ?_)| (with_reducible refine aMP (show j.rsp.data.length<2^40 by omega) ?_))<;>(simp only[go_sem,hj',eq_true hw,eq_true hn,eq_true hr,hp3,ha];try simp (disch:=omega) only[Iw])| ((with_reducible refine Y8 ?_);try simp only[AQ.then,AQ.blk,reduceIte,Nat.reduceEqDiff])|refine⟨by omega,?_⟩|fail)
      all_goals first| (exfalso;omega)|exact aZ hQ (dB false) rfl rfl (congrArg dB (hbad fun⟨_,h,_⟩=>hid h.2)).symm
    ·repeat' (first| (with_reducible first| (refine hK _ _ _ ?_;clear hK K)| (refine hA ?_;clear hA hB A B)|refine Z1 ?_|refine Z2 ?_|refine Z3 fun KB hKB=> ?_|refine Z4 (by omega) ?_)| (first| (with_reducible first|refine Y2 fun K hK=> ?_|refine Y3 fun A B hA hB=> ?_)| (with_reducible refine aBC ?_)| (with_reducible refine aMP (show j.rsp.data.length<2^40 by omega) ?_))<;>(simp only[go_sem,hj',eq_true hw,eq_true hn,eq_false hr,hp3,ha];try simp (disch:=omega) only[Iw])| ((with_reducible refine Y8 ?_);try simp only[AQ.then,AQ.blk,reduceIte,Nat.reduceEqDiff])|refine⟨by omega,?_⟩|fail)
     all_goals first| (exfalso;omega)|exact aZ hQ (dB false) rfl rfl (congrArg dB (hbad fun⟨_,h,_⟩=>hr h.1)).symm
   ·repeat' (first| (with_reducible first| (refine hK _ _ _ ?_;clear hK K)| (refine hA ?_;clear hA hB A B)|refine Z1 ?_|refine Z2 ?_|refine Z3 fun KB hKB=> ?_|refine Z4 (by omega) ?_)| (first| (with_reducible first|refine Y2 fun K hK=> ?_|refine Y3 fun A B hA hB=> ?_)| (with_reducible refine aBC ?_))<;>(simp only[go_sem,hj',eq_true hw,eq_false hn,ha];try simp (disch:=omega) only[Iw])| ((with_reducible refine Y8 ?_);try simp only[AQ.then,AQ.blk,reduceIte,Nat.reduceEqDiff])|refine⟨by omega,?_⟩|fail)
    all_goals first| (exfalso;omega)|exact aZ hQ (dB false) rfl rfl (congrArg dB (hbad fun⟨h1,_,_⟩=>hn ⟨h1.2.1,by have:=h1.2.2;omega⟩)).symm
  ·repeat' (first| (with_reducible first| (refine hK _ _ _ ?_;clear hK K)| (refine hA ?_;clear hA hB A B)|refine Z1 ?_|refine Z2 ?_|refine Z3 fun KB hKB=> ?_|refine Z4 (by omega) ?_)| (first| (with_reducible first|refine Y2 fun K hK=> ?_|refine Y3 fun A B hA hB=> ?_)| (with_reducible refine aBC ?_))<;>(simp only[go_sem,hj',eq_false hw])| ((with_reducible refine Y8 ?_);try simp only[AQ.then,AQ.blk,reduceIte,Nat.reduceEqDiff])|refine⟨by omega,?_⟩|fail)
   all_goals first| (exfalso;omega)|exact aZ hQ (dB false) rfl rfl (congrArg dB (hbad fun⟨h1,_,_⟩=>hw h1.1)).symm
 ·repeat' (first| (with_reducible first| (refine hK _ _ _ ?_;clear hK K)| (refine hB ?_;clear hA hB A B)|refine Z1 ?_|refine Z5 (by omega) ?_|refine hKX _ _ _ ?_)| (with_reducible first|refine Y2 fun K hK=> ?_|refine Y3 fun A B hA hB=> ?_)<;>(simp only[go_sem])| ((with_reducible first|refine Y8 ?_|refine Y9 ?_);try simp only[AQ.then,AQ.blk,reduceIte,Nat.reduceEqDiff])|fail)
  have hk2:k=s.told.length:=by omega
  subst hk2
  exact aZ hQ (dB true) rfl rfl (congrArg dB (aTM ⟨fun x hx=>aKJ (fun i hi=>(hinv i hi).1) x hx,aTP fun i hi=>(hinv i hi).2.2,fun x hx=>aKJ (P:=as5 c) (fun i hi=>(hinv i hi).2.1) x hx⟩).symm)
theorem aMG {c:Cfg} {s:TSt} (hb:aQ c) (ha:s.asked.length=3) (har:aTF c s.asked) (hl:s.told.length<2^21) (hd: ∀j∈s.told,j.rsp.data.length<2^21) (h:K (dB (aRF c s)) H nx):aB Tryz.prog aIX [dA (cU c),dA (eSt s)] H nx K:=
 (aL5 c s hb ha har hl hd).pure rfl (aI ⟨aE rfl,aE rfl,trivial⟩) (fun r hr=>hr▸h)
end
end Go.Proofs.YtmccpdapaccnoaaGreat
end
