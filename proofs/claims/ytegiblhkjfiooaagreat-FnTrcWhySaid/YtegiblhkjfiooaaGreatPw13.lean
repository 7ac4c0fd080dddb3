/- Texts laid together by a program: rules, contracts and the walk that leads to the law. -/
import Derived.Test.YtegiblhkjfiooaaGreatPw12
import Derived.Test.YtegiblhkjfiooaaGreatPw3
set_option linter.unusedVariables false
set_option linter.unusedSimpArgs false
set_option linter.unusedSectionVars false
section
namespace Go.AM
theorem aXE {l:List Job} {j:Job} (h:key j∈l.map key):jT (Go.Proofs.YtegiblhkjfiooaaGreat.UB l) [j.who,j.n]=some 1:=by
 induction l with
 |nil=>simp at h
 |cons x l ih=>
  unfold jT Go.Proofs.YtegiblhkjfiooaaGreat.UB
  rw[List.map_cons,List.find?_cons]
  by_cases he:[j.who,j.n]=[x.who,x.n]
  ·simp[he]
  ·have h2:key j∈l.map key:=by
    rw[List.map_cons,List.mem_cons] at h
    rcases h with h|h
    ·exact absurd (by simp only[key,Prod.mk.injEq] at h;rw[h.1,h.2]) he
    ·exact h
   simp only[he,decide_false]
   exact ih h2
theorem aXB {α:Type} [Inhabited α] {l:List α} {i:Nat} (h:i<l.length):l=l.take i++l.getD i default::l.drop (i+1):=by
 have:l.getD i default=l[i]:=by simp[List.getD,h]
 rw[this,←List.drop_eq_getElem_cons h,List.take_append_drop]
end Go.AM
namespace Go.Proofs.YtegiblhkjfiooaaGreat
open Go Go.AM
set_option maxRecDepth 100000
set_option maxHeartbeats 16000000
section
variable {H : aA} {nx : Nat} {K : D → aA → Nat → Prop}
theorem aVZ (c:Cfg) (s:TSt) (hb:aQ c) (ht:aTQ s):aB Tryz.prog j9 [dA (cU c),dA (eSt s)] .nil 0 fun rr _ _=>rr.plain=true∧rr=dB (stB c s):=by
 refine GV rfl fun Q hQ=> ?_
 unfold mC
 obtain⟨hp3,hp12⟩:=hC hb
 obtain⟨t1,t2,t3,t4,aU1,aU2,aXK⟩:=ht
 have hd: ∀j∈s.wait++s.done++s.told,j.rsp.data.length<2^40:=fun j hj=>by have:=aXK j hj;omega
 by_cases h0:JS s.words s.holds∧(s.asked.length:Int)=3∧kW s.wait∧kW s.done
 case neg=>
  have hno: ¬BA c s:=fun hs=>h0 ⟨ZS hs.atm,by rw[hs.JI];rfl,hs.NR,hs.NW⟩
  repeat' (first| (with_reducible first| (refine hK _ _ _ ?_;clear hK K)| (refine hA ?_;clear hA hB A B)| (refine hB ?_;clear hA hB A B)|refine Z1 ?_|refine Z2 ?_|refine Z3 fun KB hKB=> ?_|refine Z6 (fun h=> ?_) fun h=> ?_)| (first| (with_reducible first|refine Y2 fun K hK=> ?_|refine Y3 fun A B hA hB=> ?_|refine Y6 (fun h=> ?_) fun h=> ?_)| (refine JZ (w:=s.words) (u:=s.holds) (by omega) (by omega) (aE rfl) ?_)| (refine IK (l:=s.wait) (by omega) (aE rfl) ?_)| (refine IK (l:=s.done) (by omega) (aE rfl) ?_))<;>(simp only[go_sem])| ((with_reducible refine Y8 ?_);try simp only[AQ.then,AQ.blk,reduceIte,Nat.reduceEqDiff])|fail)
  all_goals first|exact aZ hQ (dB false) rfl rfl (congrArg dB (aWH hno).symm)|exact absurd ⟨by simp_all,by omega,by simp_all,by simp_all⟩ h0
 obtain⟨hatm,hal,hwS,hdS⟩:=h0
 have hal:s.asked.length=3:=by omega
 have hsum3:=af9 hal
 repeat' (first| (with_reducible first| (refine hK _ _ _ ?_;clear hK K)| (refine hB ?_;clear hA hB A B)|refine Z1 ?_|refine Z2 ?_|refine Z3 fun KB hKB=> ?_)| (first| (with_reducible first|refine Y2 fun K hK=> ?_|refine Y3 fun A B hA hB=> ?_|refine Y5 (by omega) ?_)| (refine JZ (w:=s.words) (u:=s.holds) (by omega) (by omega) (aE rfl) ?_)| (refine IK (l:=s.wait) (by omega) (aE rfl) ?_)| (refine IK (l:=s.done) (by omega) (aE rfl) ?_))<;>(simp only[go_sem,eq_true hatm,eq_true hwS,eq_true hdS])|fail)
 (have hKX:=hKB;clear hKB)
 refine aM.sG 0 (β:=Nat) (fun b k=>en [(38,dI k),(37,dI s.asked.length),(36,dS (s.asked.map aJ)),(5,dI (s.asked.take k).sum),(3,.one (.c (.fQ (eSt s)))),(2,.one (.c (.fQ (cU c))))]) (fun b k=>.nil) (fun k=>k≤3∧(0≤(s.asked.take k).sum∧(s.asked.take k).sum≤12*k)∧ ∀i,i<k→0≤s.asked.getD i default∧s.asked.getD i default≤(c.cP.getD i default).length) (fun k=>3-k) 0 (bU (Nat.le_refl _) (by repeat' (first| (with_reducible first|exact C1|refine C2 ?_ ?_)| ((with_reducible refine D0 ?_);first|exact CA rfl|exact CI rfl (by simp) rfl rfl rfl)|fail))) ⟨by omega,by simp,fun i hi=>by omega⟩ ?_
 rintro k ⟨hk,⟨h1,h2⟩,hinv⟩ KL hKL
 by_cases hlt:k<3
 ·have hst:=alS (l:=s.asked) (k:=k) (by omega)
  have hpk:=hp12 k
  repeat' (first| (with_reducible first| (refine hK _ _ _ ?_;clear hK K)| (refine hA ?_;clear hA hB A B)| (refine hB ?_;clear hA hB A B)|refine Z1 ?_|refine Z2 ?_|refine Z3 fun KB hKB=> ?_|refine Z4 (by omega) ?_|refine Z6 (fun h=> ?_) fun h=> ?_)| (first| (with_reducible first|refine Y2 fun K hK=> ?_|refine Y3 fun A B hA hB=> ?_)| (with_reducible refine fE ?_))<;>(simp only[go_sem];try simp (disch:=omega) only[Iw])| ((with_reducible refine Y8 ?_);try simp only[AQ.then,AQ.blk,reduceIte,Nat.reduceEqDiff])| ((with_reducible refine Y0 ?_);simp only[AQ.then,AQ.blk])|refine⟨by omega,?_⟩| (with_reducible refine hKB _ _ _ ?_)|fail)
  ·exact aZ hQ (dB false) rfl rfl (congrArg dB (aWH fun hs=>by have:=hs.DC k hlt;omega).symm)
  ·exact hKL _ _ _ (k+1) (by omega) (by rw[hst];exact bU (by omega) (by repeat' (first| (with_reducible first|exact C1|refine C2 ?_ ?_)| ((with_reducible refine D0 ?_);exact CA rfl)|fail))) ⟨by omega,by rw[hst];omega,iS hinv (by omega)⟩ (by omega)
 have hk3:k=3:=by omega
 subst hk3
 have hask:aTF c s.asked:=hinv
 have hab: ∀i,0≤s.asked.getD i default∧s.asked.getD i default≤12:=fun i=>by
  by_cases hi:i<3
  ·have h1:=hask i hi;have h2:=hp12 i;omega
  ·have:s.asked.getD i default=0:=by simp[List.getD,show s.asked.length≤i by omega]
   omega
 repeat' (first| (with_reducible first| (refine hK _ _ _ ?_;clear hK K)| (refine hB ?_;clear hA hB A B)|refine Z1 ?_|refine Z3 fun KB hKB=> ?_|refine Z5 (by omega) ?_|refine hKX _ _ _ ?_)| (with_reducible first|refine Y2 fun K hK=> ?_|refine Y3 fun A B hA hB=> ?_)<;>(simp only[go_sem])| ((with_reducible refine Y9 ?_);try simp only[AQ.then,AQ.blk,reduceIte,Nat.reduceEqDiff])|fail)
 (have hKY:=hKB;clear hKB)
 obtain⟨LL,hLL⟩: ∃LL:List TE,LL=[s.wait,s.done,s.told]:=⟨_,rfl⟩
 have hLl:LL.length=3:=by subst hLL;rfl
 have hLr:[[D1.isl (s.wait.map aS)],[D1.isl (s.done.map aS)],[D1.isl (s.told.map aS)]]=LL.map IF:=by subst hLL;rfl
 obtain⟨seen,hse⟩: ∃seen:Nat→List Job,seen=fun k=>(LL.take k).flatten:=⟨_,rfl⟩
 have hs0:seen 0=[]:=by subst hse;rfl
 have hs3:seen 3=s.wait++s.done++s.told:=by subst hse;subst hLL;simp
 have hss: ∀k,k<3→seen (k+1)=seen k++LL.getD k default:=fun k hk=>by
  subst hse
  simp only
  rw[List.take_succ_eq_append_getElem (by omega),List.flatten_append]
  simp[List.getD,show k<LL.length by omega]
 have hsk: ∀k,k<3→∃r,seen 3=seen k++LL.getD k default++r:=fun k hk=>by
  have:k=0∨k=1∨k=2:=by omega
  rcases this with rfl|rfl|rfl
  ·exact⟨LL.getD 1 default++LL.getD 2 default,by rw[hss 2 (by omega),hss 1 (by omega),hss 0 (by omega),List.append_assoc]⟩
  ·exact⟨LL.getD 2 default,by rw[hss 2 (by omega),hss 1 (by omega)]⟩
  ·exact⟨[],by rw[hss 2 (by omega),List.append_nil]⟩
 have hmem: ∀k,k<3→∀j∈LL.getD k default,j∈s.wait++s.done++s.told:=fun k hk j hj=>by
  obtain⟨r,hr⟩:=hsk k hk
  rw[←hs3,hr];exact List.mem_append_left _ (List.mem_append_right _ hj)
 have hL0:LL.getD 0 default=s.wait:=by subst hLL;rfl
 have hL12: ∀j,j∈s.done++s.told↔∃k,(k=1∨k=2)∧j∈LL.getD k default:=fun j=>by
  subst hLL
  constructor
  ·intro h
   rcases List.mem_append.1 h with h|h
   ·exact⟨1,.inl rfl,h⟩
   ·exact⟨2,.inr rfl,h⟩
  ·rintro⟨k,rfl|rfl,h⟩
   ·exact List.mem_append_left _ h
   ·exact List.mem_append_right _ h
 have hLs: ∀k,k<3→(LL.getD k default).length<2^20:=fun k hk=>by
  have:k=0∨k=1∨k=2:=by omega
  subst hLL
  rcases this with rfl|rfl|rfl<;>(simp[List.getD];omega)
 have hsl: ∀k,k≤3→(seen k).length≤k*2^20:=fun k hk=>by
  have e1:=hLs 0 (by omega);have e2:=hLs 1 (by omega);have e3:=hLs 2 (by omega)
  have f1:(seen 1).length=(LL.getD 0 default).length:=by rw[hss 0 (by omega),hs0,List.nil_append]
  have f2:(seen 2).length=(seen 1).length+(LL.getD 1 default).length:=by rw[hss 1 (by omega),List.length_append]
  have f3:(seen 3).length=(seen 2).length+(LL.getD 2 default).length:=by rw[hss 2 (by omega),List.length_append]
  have:k=0∨k=1∨k=2∨k=3:=by omega
  rcases this with rfl|rfl|rfl|rfl
  ·rw[hs0];simp
  ·omega
  ·omega
  ·omega
 rw[hLr]
 clear hLr hLL hse
 refine aM.sG 1 (β:=Nat) (fun b k=>en [(65,dI k),(64,dI 3),(63,dS (LL.map IF)),(8,.one (.c (.omap b))),(5,dI (s.asked.take 3).sum),(3,.one (.c (.fQ (eSt s)))),(2,.one (.c (.fQ (cU c))))]) (fun b k=>hp [(b,u4 ⟨2,true,UB (seen k)⟩)])
  (fun k=>k≤3∧(∀j∈seen k,InA s.asked j)∧((seen k).map key).Nodup∧(0<k→∀j∈s.wait,j.rsp=oW)∧ ∀i,i<k→0<i→∀j∈LL.getD i default,as5 c j) (fun k=>3-k) 0 ?_ ⟨by omega,fun j hj=>by rw[hs0] at hj;simp at hj,by rw[hs0];simp,fun h=>by omega,fun i hi=>by omega⟩ ?_
 ·refine cR [31] (by omega) ?_ ⟨⟨by simp,by simp[sgL],_,rfl,GH (by rw[hs0];rfl)⟩,trivial⟩ (by simp[sgL])
  refine oF (oF (oF (oF (oF (oF (oF K6 ?_) ?_) ?_) ?_) ?_) ?_) ?_
  all_goals first
   |exact DJ (rows:=LL.map IF) (aG al7 LL) (by simp;omega) (by simp) rfl rfl (List.take_of_length_le (by simp)) (by simp;omega)
   |exact apS (aa6 (by omega) rfl)
   | (repeat' ((with_reducible refine D0 ?_);exact CA rfl);done)
 rintro k ⟨hk,hI1,hI2,hI3,hI4⟩ KM hKM
 by_cases hlt:k<3
 ·have hss1:=hss k hlt
  have hmm:=hmem k hlt
  have hlk:=hLs k hlt
  obtain⟨rest,hrest⟩:=hsk k hlt
  have hc0:k=0→LL.getD k default=s.wait:=fun h=>by rw[h];exact hL0
  have hc1:0<k→∀j∈LL.getD k default,j∈s.done++s.told:=fun h j hj=>(hL12 j).2 ⟨k,by omega,hj⟩
  have hI4': ∀i,i<k→0<i→∀j∈LL.getD i default,as5 c j:=hI4
  have hI5:(∀j∈LL.getD k default,as5 c j)→∀i,i<k+1→0<i→∀j∈LL.getD i default,as5 c j:=fun h i hi h0=>by
   rcases Nat.lt_succ_iff_lt_or_eq.1 hi with h2|h2
   ·exact hI4 i h2 h0
   ·subst h2;exact h
  generalize hcur:LL.getD k default=cur at hss1 hmm hlk hc0 hc1 hrest hI5
  repeat' (first| (with_reducible first| (refine hK _ _ _ ?_;clear hK K)| (refine hA ?_;clear hA hB A B)|refine Z1 ?_|refine Z2 ?_|refine Z3 fun KB hKB=> ?_|refine Z4 (by omega) ?_)| (with_reducible first|refine Y2 fun K hK=> ?_|refine Y3 fun A B hA hB=> ?_)<;>(simp only[go_sem,hcur])|refine⟨by omega,?_⟩|fail)
  (have hKZ:=hKB;clear hKB)
  refine aM.sG 1 (β:=Nat) (fun b i=>en [(72,dI i),(71,dI cur.length),(70,dS (cur.map aS)),(65,dI k),(64,dI 3),(63,dS (LL.map IF)),(9,dI k),(8,.one (.c (.omap b))),(5,dI (s.asked.take 3).sum),(3,.one (.c (.fQ (eSt s)))),(2,.one (.c (.fQ (cU c))))]) (fun b i=>hp [(b,u4 ⟨2,true,UB (seen k++cur.take i)⟩)])
   (fun i=>i≤cur.length∧(∀j∈seen k++cur.take i,InA s.asked j)∧((seen k++cur.take i).map key).Nodup∧ ∀j∈cur.take i,if k=0 then j.rsp=oW else as5 c j) (fun i=>cur.length-i) 0 (by(refine cR [42] (by omega) (by repeat' (first| (with_reducible first|exact C1|refine C2 ?_ ?_)| ((with_reducible refine C0 ?_);exact CR (by omega) rfl)| ((with_reducible refine D0 ?_);first|exact CA rfl|refine CJ ?_)|fail)) ⟨⟨by simp,by simp[sgL],_,rfl,GH (by simp)⟩,trivial⟩ (by simp[sgL]))) ⟨by omega,by simpa using hI1,by simpa using hI2,by simp⟩ ?_
  rintro i ⟨hi,hJ1,hJ2,hJ3⟩ KN hKN
  by_cases hil:i<cur.length
  ·have hjc:=cC hil
   have hjm:=hmm _ hjc
   have hjd:=hd _ hjm
   have hts:cur.take (i+1)=cur.take i++[cur.getD i default]:=by rw[List.take_succ_eq_append_getElem hil];simp[List.getD,hil]
   have hall:s.wait++s.done++s.told=(seen k++cur.take i)++cur.getD i default::(cur.drop (i+1)++rest):=by
    rw[←hs3,hrest,List.append_assoc,List.append_assoc,←List.cons_append,←List.append_assoc (cur.take i),←aXB hil]
   have hw0:k=0→cur.getD i default∈s.wait:=fun h=>by rw[←hc0 h];exact hjc
   have hw1:0<k→cur.getD i default∈s.done++s.told:=fun h=>hc1 h _ hjc
   generalize hjj:cur.getD i default=j at*
   have hno1: ¬InA s.asked j→¬BA c s:=fun h hs=>h (hs.inA j hjm)
   have hno2:key j∈(seen k++cur.take i).map key→¬BA c s:=fun h hs=>by
    have hn:=hs.nodup
    unfold keys at hn
    rw[hall,List.map_append] at hn
    exact(List.nodup_append.1 hn).2.2 _ h _ (by simp) rfl
   by_cases hin:InA s.asked j
   case neg=>
    unfold InA at hin
    have hal3:(s.asked.length:Int)=3:=by omega
    have har:=hab j.who.toNat
    have hpk:=hp12 j.who.toNat
    repeat' (first| (with_reducible first| (refine hK _ _ _ ?_;clear hK K)| (refine hA ?_;clear hA hB A B)|refine Z1 ?_|refine Z2 ?_|refine Z3 fun KB hKB=> ?_|refine Z4 (by omega) ?_)| (first| (with_reducible first|refine Y2 fun K hK=> ?_|refine Y3 fun A B hA hB=> ?_|refine Y4 (by omega) ?_|refine Y6 (fun h=> ?_) fun h=> ?_)| (with_reducible refine oR ?_)| (with_reducible refine fE ?_))<;>(simp only[go_sem,hjj];try simp (disch:=omega) only[Iw])| ((with_reducible refine Y8 ?_);try simp only[AQ.then,AQ.blk,reduceIte,Nat.reduceEqDiff])|refine⟨by omega,?_⟩|fail)
    all_goals first
     |exact aZ hQ (dB false) rfl rfl (congrArg dB (aWH (hno1 hin)).symm)
     | (exfalso;omega)
   have hni:key j∉(seen k++cur.take i).map key∨key j∈(seen k++cur.take i).map key:=(Classical.em _).symm
   have hJ1': ∀x∈seen k++cur.take (i+1),InA s.asked x:=fun x hx=>by
    rw[hts,←List.append_assoc] at hx
    rcases List.mem_append.1 hx with hx|hx
    ·exact hJ1 x hx
    ·simp at hx;subst hx;exact hin
   have hja:oA c j.who j.n:=by
    obtain⟨⟨q1,q2⟩,q3,q4⟩:=hin
    have:=hask j.who.toNat (by omega)
    exact⟨⟨q1,q2⟩,q3,by omega⟩
   obtain⟨⟨q1,q2⟩,q3,q4⟩:=hin
   have har:=hask j.who.toNat (by omega)
   have hpk:=hp12 j.who.toNat
   rcases hni with hni|hni
   case inr=>
    have hget:=aXE hni
    repeat' (first| (with_reducible first| (refine hK _ _ _ ?_;clear hK K)| (refine hA ?_;clear hA hB A B)|refine Z1 ?_|refine Z2 ?_|refine Z3 fun KB hKB=> ?_|refine Z4 (by omega) ?_)| (first| (with_reducible first|refine Y2 fun K hK=> ?_|refine Y3 fun A B hA hB=> ?_|refine Y5 (by omega) ?_)| (with_reducible refine oR ?_)| (with_reducible refine fE ?_))<;>(simp only[go_sem,hjj,hget,Option.getD_some];try simp (disch:=omega) only[Iw])| ((with_reducible refine Y8 ?_);try simp only[AQ.then,AQ.blk,reduceIte,Nat.reduceEqDiff])|refine⟨by omega,?_⟩|fail)
    all_goals exact aZ hQ (dB false) rfl rfl (congrArg dB (aWH (hno2 hni)).symm)
   have hget:=alK hni
   have hset:=alD hni
   have hJ2':((seen k++cur.take (i+1)).map key).Nodup:=by
    rw[hts,←List.append_assoc,List.map_append]
    refine List.nodup_append.2 ⟨hJ2,by simp,fun a ha b hb he=> ?_⟩
    simp at hb;subst hb;subst he;exact hni ha
   have hJ3':(if k=0 then j.rsp=oW else as5 c j)→∀x∈cur.take (i+1),if k=0 then x.rsp=oW else as5 c x:=fun h x hx=>by
    rw[hts] at hx
    rcases List.mem_append.1 hx with hx|hx
    ·exact hJ3 x hx
    ·simp at hx;subst hx;exact h
   by_cases hk0:k=0
   ·by_cases hjr:j.rsp=oW
    ·repeat' (first| (with_reducible first| (refine hK _ _ _ ?_;clear hK K)| (refine hA ?_;clear hA hB A B)| (refine hB ?_;clear hA hB A B)|refine Z1 ?_|refine Z2 ?_|refine Z3 fun KB hKB=> ?_|refine Z4 (by omega) ?_)| (first| (with_reducible first|refine Y2 fun K hK=> ?_|refine Y3 fun A B hA hB=> ?_|refine Y4 (by omega) ?_|refine Y5 (by omega) ?_)| (with_reducible refine oR ?_)| (with_reducible refine fE ?_)| (with_reducible refine HK hjd ?_))<;>(simp only[go_sem,hjj,hget,hset,Option.getD_none,eq_true hjr];try simp (disch:=omega) only[Iw])| ((with_reducible refine Y0 ?_);simp only[AQ.then,AQ.blk])|refine⟨by omega,?_⟩| (with_reducible refine hKB _ _ _ ?_)|fail)
     exact hKN _ _ _ (i+1) (by omega) (by(refine cR [52] (by omega) (by repeat' (first| (with_reducible first|exact C1|refine C2 ?_ ?_)| ((with_reducible refine C0 ?_);exact CR (by omega) rfl)| ((with_reducible refine D0 ?_);first|exact CA rfl|refine CJ ?_)|fail)) ⟨⟨by simp,by simp[sgL],_,rfl,GH (by rw[hts,List.append_assoc])⟩,trivial⟩ (by simp[sgL]))) ⟨by omega,hJ1',hJ2',hJ3' (by rw[if_pos hk0];exact hjr)⟩ (by omega)
    ·repeat' (first| (with_reducible first| (refine hK _ _ _ ?_;clear hK K)| (refine hA ?_;clear hA hB A B)| (refine hB ?_;clear hA hB A B)|refine Z1 ?_|refine Z2 ?_|refine Z3 fun KB hKB=> ?_|refine Z4 (by omega) ?_)| (first| (with_reducible first|refine Y2 fun K hK=> ?_|refine Y3 fun A B hA hB=> ?_|refine Y4 (by omega) ?_|refine Y5 (by omega) ?_)| (with_reducible refine oR ?_)| (with_reducible refine fE ?_)| (with_reducible refine HK hjd ?_))<;>(simp only[go_sem,hjj,hget,hset,Option.getD_none,eq_false hjr];try simp (disch:=omega) only[Iw])| ((with_reducible refine Y8 ?_);try simp only[AQ.then,AQ.blk,reduceIte,Nat.reduceEqDiff])|refine⟨by omega,?_⟩|fail)
     exact aZ hQ (dB false) rfl rfl (congrArg dB (aWH fun hs=>hjr (hs.P4 j (hw0 hk0))).symm)
   ·have hkp:0<k:=by omega
    have hno3: ¬as5 c j→¬BA c s:=fun h hs=>h (hs.R8 j (hw1 hkp))
    by_cases hjr:pA j.rsp
    ·repeat' (first| (with_reducible first| (refine hK _ _ _ ?_;clear hK K)| (refine hA ?_;clear hA hB A B)| (refine hB ?_;clear hA hB A B)|refine Z1 ?_|refine Z2 ?_|refine Z3 fun KB hKB=> ?_|refine Z4 (by omega) ?_|refine Z6 (fun h=> ?_) fun h=> ?_)| (first| (with_reducible first|refine Y2 fun K hK=> ?_|refine Y3 fun A B hA hB=> ?_|refine Y4 (by omega) ?_|refine Y5 (by omega) ?_)| (with_reducible refine oR ?_)| (with_reducible refine fE ?_)| (with_reducible refine I8 hjd ?_)| (with_reducible refine iJ hp3 hja ?_))<;>(simp only[go_sem,hjj,hget,hset,Option.getD_none,eq_true hjr];try simp (disch:=omega) only[Iw])| ((with_reducible refine Y8 ?_);try simp only[AQ.then,AQ.blk,reduceIte,Nat.reduceEqDiff])| ((with_reducible refine Y0 ?_);simp only[AQ.then,AQ.blk])|refine⟨by omega,?_⟩| (with_reducible refine hKB _ _ _ ?_)|fail)
     ·exact aZ hQ (dB false) rfl rfl (congrArg dB (aWH (hno3 fun h=>by have:=h.2;omega)).symm)
     ·exact hKN _ _ _ (i+1) (by omega) (by(refine cR [52] (by omega) (by repeat' (first| (with_reducible first|exact C1|refine C2 ?_ ?_)| ((with_reducible refine C0 ?_);exact CR (by omega) rfl)| ((with_reducible refine D0 ?_);first|exact CA rfl|refine CJ ?_)|fail)) ⟨⟨by simp,by simp[sgL],_,rfl,GH (by rw[hts,List.append_assoc])⟩,trivial⟩ (by simp[sgL]))) ⟨by omega,hJ1',hJ2',hJ3' (by rw[if_neg hk0];exact⟨hjr,by omega⟩)⟩ (by omega)
    ·repeat' (first| (with_reducible first| (refine hK _ _ _ ?_;clear hK K)| (refine hA ?_;clear hA hB A B)| (refine hB ?_;clear hA hB A B)|refine Z1 ?_|refine Z2 ?_|refine Z3 fun KB hKB=> ?_|refine Z4 (by omega) ?_)| (first| (with_reducible first|refine Y2 fun K hK=> ?_|refine Y3 fun A B hA hB=> ?_|refine Y4 (by omega) ?_|refine Y5 (by omega) ?_)| (with_reducible refine oR ?_)| (with_reducible refine fE ?_)| (with_reducible refine I8 hjd ?_))<;>(simp only[go_sem,hjj,hget,hset,Option.getD_none,eq_false hjr];try simp (disch:=omega) only[Iw])| ((with_reducible refine Y8 ?_);try simp only[AQ.then,AQ.blk,reduceIte,Nat.reduceEqDiff])|refine⟨by omega,?_⟩|fail)
     exact aZ hQ (dB false) rfl rfl (congrArg dB (aWH (hno3 fun h=>hjr h.1)).symm)
  ·have hi2:i=cur.length:=by omega
   subst hi2
   rw[List.take_length,←hss1] at hJ1 hJ2
   rw[List.take_length] at hJ3
   rw[List.take_length,←hss1]
   repeat' (first| (with_reducible first| (refine hK _ _ _ ?_;clear hK K)| (refine hB ?_;clear hA hB A B)|refine Z1 ?_|refine Z5 (by omega) ?_|refine hKZ _ _ _ ?_)| (with_reducible first|refine Y2 fun K hK=> ?_|refine Y3 fun A B hA hB=> ?_)<;>(simp only[go_sem];try simp (disch:=omega) only[Iw])| ((with_reducible refine Y9 ?_);try simp only[AQ.then,AQ.blk,reduceIte,Nat.reduceEqDiff])| ((with_reducible refine Y0 ?_);simp only[AQ.then,AQ.blk])| (with_reducible refine hKB _ _ _ ?_)|fail)
   refine hKM _ _ _ (k+1) (by omega) (by(refine cR [52] (by omega) (by repeat' (first| (with_reducible first|exact C1|refine C2 ?_ ?_)| ((with_reducible refine C0 ?_);exact CR (by omega) rfl)| ((with_reducible refine D0 ?_);first|exact CA rfl|refine CJ ?_)|fail)) ⟨⟨by simp,by simp[sgL],_,rfl,GH rfl⟩,trivial⟩ (by simp[sgL]))) ⟨by omega,hJ1,hJ2,fun _=> ?_,?_⟩ (by omega)
   ·by_cases hk0:k=0
    ·intro j hj
     have:=hJ3 j (by rw[hc0 hk0];exact hj)
     rwa [if_pos hk0] at this
    ·exact hI3 (by omega)
   ·intro i2 h1 h2
    by_cases hk0:k=0
    ·omega
    ·exact hI5 (fun j hj=>by have:=hJ3 j hj;rwa [if_neg hk0] at this) i2 h1 h2
 ·have hk3:k=3:=by omega
  subst hk3
  rw[hs3] at hI1 hI2
  have hl3:=congrArg List.length hs3
  rw[List.length_append,List.length_append] at hl3
  repeat' (first| (with_reducible first| (refine hK _ _ _ ?_;clear hK K)| (refine hB ?_;clear hA hB A B)|refine Z1 ?_|refine Z5 (by omega) ?_|refine hKY _ _ _ ?_)| (with_reducible first|refine Y2 fun K hK=> ?_|refine Y3 fun A B hA hB=> ?_)<;>(simp only[go_sem])| ((with_reducible first|refine Y8 ?_|refine Y9 ?_);try simp only[AQ.then,AQ.blk,reduceIte,Nat.reduceEqDiff])|fail)
  refine aZ hQ (dB (decide (((UB (seen 3)).length:Int)=(s.asked.take 3).sum))) rfl rfl (congrArg dB ?_)
  rw[amR]
  by_cases hcnt:((seen 3).length:Int)=(s.asked.take 3).sum
  ·rw[decide_eq_true hcnt]
   refine(aXJ (aUA hatm hal hask hwS hdS hI1 hI2 (by omega) (hI3 (by omega)) fun j hj=> ?_)).symm
   obtain⟨k,hk,hj⟩:=(hL12 j).1 hj
   exact hI4 k (by omega) (by omega) j hj
  ·rw[decide_eq_false hcnt]
   exact(aWH fun hs=>by have:=hs.count;omega).symm
theorem aVW {c:Cfg} {s:TSt} (hb:aQ c) (ht:aTQ s) (h:K (dB (stB c s)) H nx):aB Tryz.prog j9 [dA (cU c),dA (eSt s)] H nx K:=
 (aVZ c s hb ht).pure rfl (aI ⟨aE rfl,aE rfl,trivial⟩) (fun r hr=>hr▸h)
theorem aW4 (c:Cfg) (s:TSt) (hcf:jO c) (ht:aTQ s):aB Tryz.prog au7 [dA (cU c),dA (eSt s)] .nil 0 fun rr _ _=>rr.plain=true∧rr=dB (tlB c s):=by
 refine ayK rfl fun Q hQ=> ?_
 unfold av2
 by_cases hb:aQ c
 ·repeat' (first| (with_reducible first| (refine hK _ _ _ ?_;clear hK K)|refine Z1 ?_)| (first| (with_reducible refine Y2 fun K hK=> ?_)| (refine W6 hcf ?_)| (refine aVW hb ht ?_))<;>(simp only[go_sem,eq_true hb])| ((with_reducible refine Y8 ?_);try simp only[AQ.then,AQ.blk,reduceIte,Nat.reduceEqDiff])|fail)
  exact aZ hQ (dB (stB c s)) rfl rfl (congrArg dB (aXH hb).symm)
 ·repeat' (first| (with_reducible first| (refine hK _ _ _ ?_;clear hK K)|refine Z1 ?_)| (first| (with_reducible refine Y2 fun K hK=> ?_)| (refine W6 hcf ?_))<;>(simp only[go_sem,eq_false hb])| ((with_reducible refine Y8 ?_);try simp only[AQ.then,AQ.blk,reduceIte,Nat.reduceEqDiff])|fail)
  exact aZ hQ (dB false) rfl rfl (congrArg dB (aOH fun h=>hb h.1).symm)
theorem aV5 {c:Cfg} {s:TSt} (hcf:jO c) (ht:aTQ s) (h:K (dB (tlB c s)) H nx):aB Tryz.prog au7 [dA (cU c),dA (eSt s)] H nx K:=
 (aW4 c s hcf ht).pure rfl (aI ⟨aE rfl,aE rfl,trivial⟩) (fun r hr=>hr▸h)
end
end Go.Proofs.YtegiblhkjfiooaaGreat
end
section
namespace Go.Proofs.YtegiblhkjfiooaaGreat
open Go Go.AM
set_option maxRecDepth 100000
set_option maxHeartbeats 8000000
section
variable {H : aA} {nx : Nat} {K : D → aA → Nat → Prop}
end
end Go.Proofs.YtegiblhkjfiooaaGreat
end
section
namespace Go.Proofs.YtegiblhkjfiooaaGreat
open Go Go.AM
set_option maxRecDepth 100000
def aNT:AC:=
 (.seq (.region [rq 0 3 (.box true (.tm 0)),
 rq 1 4 (.box true (.tm 1)),
 rq 2 5 (.box true (.tm 2)),
 rq 3 6 (.move (ki 0))] 4 [3,4,5])
 (.seq (.seq (.region [rq 0 7 (.load 3 true (.tm 3)),
 rq 1 8 (.load 6 true (.tm 4)),
 rq 2 9 (.call aI6 [(.tm 7),(.tm 8)]),
 rq 3 10 (.un .not (.tm 9)),
 RM 4 11 10,
 GQ 5 12 (.load 3 true (.tm 3)) 11 false,
 GQ 6 13 (.load 3 true (.tm 5)) 11 false,
 GQ 7 14 (.call aNF [(.tm 12),(.tm 13)]) 11 false,
 GQ 8 15 (.un .not (.tm 14)) 11 false,
 rq 9 16 (.pick (.tm 11) (.kv (.bool true)) (.tm 15))] 10 [3,4,5,16])
 (.cond (.tm 16)
 (.seq (.region [rq 0 6 (.move (ki 1))] 1 [6])
 .ret)
 .skip))
 (.seq (.seq (.region [RF 0 17 0 5,
 RL 1 18 17] 2 [3,4,5,18])
 (.block 0
 (.seq (.region [rq 0 48 (.bin .eql (.tm 18) (ki 1)),
 RM 1 47 48] 2 [3,4,5,18,47])
 (.cond (.tm 47)
 (.seq (.region [RF 0 49 2 5,
 RL 1 50 49,
 RF 2 51 2 4,
 RL 3 52 51,
 RF 4 53 1 5,
 RL 5 54 53,
 rq 6 55 (.idx 1 (.tm 52) (.tm 54)),
 RL 7 56 55,
 rq 8 57 (.bin .neq (.tm 50) (.tm 56))] 9 [57])
 (.cond (.tm 57)
 (.seq (.region [rq 0 6 (.move (ki 2))] 1 [6])
 .ret)
 .skip))
 (.seq (.region [rq 0 59 (.bin .eql (.tm 18) (ki 2)),
 RM 1 58 59] 2 [3,4,5,58])
 (.cond (.tm 58)
 (.seq (.seq (.region [RF 0 60 3 4,
 RL 1 61 60,
 RF 2 62 1 5,
 RL 3 63 62,
 RF 4 64 2 5,
 RL 5 65 64,
 rq 6 66 (.call aIN [(.tm 61),(.tm 63),(.tm 65)]),
 rq 7 67 (.bin .lss (.tm 66) (ki 0))] 8 [3,4,5,67])
 (.cond (.tm 67)
 (.seq (.region [rq 0 6 (.move (ki 3))] 1 [6])
 .ret)
 .skip))
 (.seq (.region [rq 0 68 (.load 3 true (.tm 3)),
 RF 1 69 3 4,
 RL 2 70 69,
 RF 3 71 1 5,
 RL 4 72 71,
 RF 5 73 2 5,
 RL 6 74 73,
 rq 7 75 (.call b8 [(.tm 68),(.tm 70),(.tm 72),(.tm 74)]),
 rq 8 76 (.un .not (.tm 75))] 9 [76])
 (.cond (.tm 76)
 (.seq (.region [rq 0 6 (.move (ki 4))] 1 [6])
 .ret)
 .skip)))
 (.seq (.seq (.region [RF 0 19 4 4,
 RL 1 20 19,
 RF 2 21 1 5,
 RL 3 22 21,
 RF 4 23 2 5,
 RL 5 24 23,
 rq 6 25 (.call aIN [(.tm 20),(.tm 22),(.tm 24)]),
 rq 7 26 (.bin .lss (.tm 25) (ki 0))] 8 [3,4,5,26])
 (.cond (.tm 26)
 (.seq (.region [rq 0 6 (.move (ki 5))] 1 [6])
 .ret)
 .skip))
 (.seq (.region [rq 0 27 (.load 3 true (.tm 3)),
 RF 1 28 3 4,
 RL 2 29 28,
 RF 3 30 1 5,
 RL 4 31 30,
 RF 5 32 2 5,
 RL 6 33 32,
 rq 7 34 (.call b8 [(.tm 27),(.tm 29),(.tm 31),(.tm 33)]),
 rq 8 35 (.un .not (.tm 34)),
 RM 9 36 35,
 GQ 10 37 (.load 3 true (.tm 3)) 36 false,
 GQ 11 38 (.fld 4 (.tm 4)) 36 false,
 GQ 12 39 (.load 1 false (.tm 38)) 36 false,
 GQ 13 40 (.fld 1 (.tm 5)) 36 false,
 GQ 14 41 (.load 1 false (.tm 40)) 36 false,
 GQ 15 42 (.fld 2 (.tm 5)) 36 false,
 GQ 16 43 (.load 1 false (.tm 42)) 36 false,
 GQ 17 44 (.call b8 [(.tm 37),(.tm 39),(.tm 41),(.tm 43)]) 36 false,
 GQ 18 45 (.un .not (.tm 44)) 36 false,
 rq 19 46 (.pick (.tm 36) (.kv (.bool true)) (.tm 45))] 20 [46])
 (.cond (.tm 46)
 (.seq (.region [rq 0 6 (.move (ki 6))] 1 [6])
 .ret)
 .skip)))))))))
 (.seq (.region [rq 0 6 (.move (ki 0))] 1 [6])
 .ret))))
def aQZ:List Cert:=[⟨[],[3,4,5]⟩,⟨[],[3,4,5,16]⟩,⟨[],[6]⟩,⟨[],[3,4,5,18]⟩,⟨[],[3,4,5,18,47]⟩,⟨[cz 0,cz 1,cz 2,cz 3,cz 4,cz 5,cz 6,cz 7,cz 8],[57]⟩,⟨[],[6]⟩,⟨[],[3,4,5,58]⟩,⟨[],[3,4,5,67]⟩,⟨[],[6]⟩,⟨[],[76]⟩,⟨[],[6]⟩,⟨[],[3,4,5,26]⟩,⟨[],[6]⟩,⟨[],[46]⟩,⟨[],[6]⟩,⟨[],[6]⟩]
def aOO:List aW:=[.tm 6]
theorem aQH:aO Tryz.prog Tryz.f45 aQZ=some (aNT,aOO):=by kernel_rfl
theorem aRQ:aN Tryz.prog aND Tryz.f45 aNT aOO:=
 aN.mk Tryz.func45 (by kernel_rfl) aQH
def aJP:AC:=
 (.seq (.region [rq 0 2 (.box true (.tm 0)),
 rq 1 3 (.box true (.tm 1)),
 rq 2 4 (.move (.kv (.bool false)))] 3 [2,3])
 (.seq (.seq (.region [rq 0 9 (.load 3 true (.tm 2)),
 rq 1 10 (.call aIV [(.tm 9)]),
 rq 2 11 (.un .not (.tm 10)),
 RM 3 12 11,
 GQ 4 13 (.fld 0 (.tm 3)) 12 false,
 GQ 5 14 (.load 2 true (.tm 13)) 12 false,
 GQ 6 15 (.call aIU [(.tm 14)]) 12 false,
 GQ 7 16 (.un .not (.tm 15)) 12 false,
 rq 8 17 (.pick (.tm 12) (.kv (.bool true)) (.tm 16)),
 RM 9 18 17,
 GQ 10 19 (.fld 2 (.tm 3)) 18 false,
 GQ 11 20 (.load 1 false (.tm 19)) 18 false,
 GQ 12 21 (.len false (.tm 20)) 18 false,
 GQ 13 22 (.bin .neq (.tm 21) (ki 3)) 18 false,
 rq 14 23 (.pick (.tm 18) (.kv (.bool true)) (.tm 22))] 15 [2,3,23])
 (.cond (.tm 23)
 (.seq (.region [rq 0 4 (.move (.kv (.bool false)))] 1 [4])
 .ret)
 .skip))
 (.seq (.region [rq 0 5 (.move (ki 0))] 1 [2,3,5])
 (.seq (.seq (.region [rq 0 6 (.move (ki 0))] 1 [2,3,5,6])
 (.block 0
 (.loop
 (.seq (.seq (.region [RM 0 24 6,
 rq 1 25 (.bin .lss (.tm 24) (ki 3))] 2 [2,3,5,6,25])
 (.cond (.tm 25)
 .skip
 (.exit 0)))
 (.seq (.block 1
 (.seq (.seq (.region [RF 0 28 2 3,
 RL 1 29 28,
 RM 2 30 6,
 rq 3 31 (.idx 1 (.tm 29) (.tm 30)),
 RL 4 32 31,
 RF 5 33 2 2,
 RL 6 34 33,
 RM 7 35 6,
 rq 8 36 (.idx 1 (.tm 34) (.tm 35)),
 RL 9 37 36,
 rq 10 38 (.len false (.tm 37)),
 rq 11 39 (.call y2 [(.tm 32),(ki 0),(.tm 38)]),
 rq 12 40 (.un .not (.tm 39))] 13 [2,3,5,6,40])
 (.cond (.tm 40)
 (.seq (.region [rq 0 4 (.move (.kv (.bool false)))] 1 [4])
 .ret)
 .skip))
 (.region [RM 0 41 5,
 RF 1 42 2 3,
 RL 2 43 42,
 RM 3 44 6,
 rq 4 45 (.idx 1 (.tm 43) (.tm 44)),
 RL 5 46 45,
 rq 6 47 (.bin .add (.tm 41) (.tm 46)),
 RM 7 5 47] 8 [2,3,5,6])))
 (.region [RM 0 26 6,
 rq 1 27 (.bin .add (.tm 26) (ki 1)),
 RM 2 6 27] 3 [2,3,5,6]))))))
 (.seq (.seq (.region [rq 0 48 (.load 3 true (.tm 2)),
 RF 1 49 2 3,
 RL 2 50 49,
 RF 3 51 3 3,
 RL 4 52 51,
 rq 5 53 (.call aIQ [(.tm 48),(.tm 50),(.tm 52),(.kv (.bool false))]),
 rq 6 54 (.un .not (.tm 53)),
 RM 7 55 54,
 GQ 8 56 (.load 3 true (.tm 2)) 55 false,
 GQ 9 57 (.fld 2 (.tm 3)) 55 false,
 GQ 10 58 (.load 1 false (.tm 57)) 55 false,
 GQ 11 59 (.fld 4 (.tm 3)) 55 false,
 GQ 12 60 (.load 1 false (.tm 59)) 55 false,
 GQ 13 61 (.call aIQ [(.tm 56),(.tm 58),(.tm 60),(.kv (.bool true))]) 55 false,
 GQ 14 62 (.un .not (.tm 61)) 55 false,
 rq 15 63 (.pick (.tm 55) (.kv (.bool true)) (.tm 62)),
 RM 16 64 63,
 GQ 17 65 (.load 3 true (.tm 2)) 64 false,
 GQ 18 66 (.load 6 true (.tm 3)) 64 false,
 GQ 19 67 (.call aIX [(.tm 65),(.tm 66)]) 64 false,
 GQ 20 68 (.un .not (.tm 67)) 64 false,
 rq 21 69 (.pick (.tm 64) (.kv (.bool true)) (.tm 68)),
 RM 22 70 69,
 GQ 23 71 (.fld 3 (.tm 3)) 70 false,
 GQ 24 72 (.load 1 false (.tm 71)) 70 false,
 GQ 25 73 (.len false (.tm 72)) 70 false,
 GQ 26 74 (.fld 4 (.tm 3)) 70 false,
 GQ 27 75 (.load 1 false (.tm 74)) 70 false,
 GQ 28 76 (.len false (.tm 75)) 70 false,
 GQ 29 77 (.bin .add (.tm 73) (.tm 76)) 70 false,
 GQ 30 78 (.fld 5 (.tm 3)) 70 false,
 GQ 31 79 (.load 1 false (.tm 78)) 70 false,
 GQ 32 80 (.len false (.tm 79)) 70 false,
 GQ 33 81 (.bin .add (.tm 77) (.tm 80)) 70 false,
 GQ 34 82 (.move (.tm 5)) 70 false,
 GQ 35 83 (.bin .neq (.tm 81) (.tm 82)) 70 false,
 rq 36 84 (.pick (.tm 70) (.kv (.bool true)) (.tm 83))] 37 [3,84])
 (.cond (.tm 84)
 (.seq (.region [rq 0 4 (.move (.kv (.bool false)))] 1 [4])
 .ret)
 .skip))
 (.seq (.seq (.region [rq 0 7 (.move (ki 0))] 1 [3,7])
 (.block 2
 (.loop
 (.seq (.seq (.region [RM 0 85 7,
 RF 1 86 5 3,
 RL 2 87 86,
 rq 3 88 (.len false (.tm 87)),
 rq 4 89 (.bin .lss (.tm 85) (.tm 88))] 5 [3,7,89])
 (.cond (.tm 89)
 .skip
 (.exit 2)))
 (.seq (.block 3
 (.seq (.region [RF 0 92 3 3,
 RL 1 93 92,
 RF 2 94 5 3,
 RL 3 95 94,
 RM 4 96 7,
 rq 5 97 (.idx 5 (.tm 95) (.tm 96)),
 RF 6 98 0 97,
 RL 7 99 98,
 RF 8 100 5 3,
 RL 9 101 100,
 RM 10 102 7,
 rq 11 103 (.idx 5 (.tm 101) (.tm 102)),
 RF 12 104 1 103,
 RL 13 105 104,
 rq 14 106 (.call aIN [(.tm 93),(.tm 99),(.tm 105)]),
 rq 15 107 (.bin .geq (.tm 106) (ki 0)),
 RM 16 108 107,
 GQ 17 109 (.fld 4 (.tm 3)) 108 false,
 GQ 18 110 (.load 1 false (.tm 109)) 108 false,
 GQ 19 111 (.fld 5 (.tm 3)) 108 false,
 GQ 20 112 (.load 1 false (.tm 111)) 108 false,
 GQ 21 113 (.move (.tm 7)) 108 false,
 GQ 22 114 (.idx 5 (.tm 112) (.tm 113)) 108 false,
 GQ 23 115 (.fld 0 (.tm 114)) 108 false,
 GQ 24 116 (.load 1 false (.tm 115)) 108 false,
 GQ 25 117 (.fld 5 (.tm 3)) 108 false,
 GQ 26 118 (.load 1 false (.tm 117)) 108 false,
 GQ 27 119 (.move (.tm 7)) 108 false,
 GQ 28 120 (.idx 5 (.tm 118) (.tm 119)) 108 false,
 GQ 29 121 (.fld 1 (.tm 120)) 108 false,
 GQ 30 122 (.load 1 false (.tm 121)) 108 false,
 GQ 31 123 (.call aIN [(.tm 110),(.tm 116),(.tm 122)]) 108 false,
 GQ 32 124 (.bin .geq (.tm 123) (ki 0)) 108 false,
 rq 33 125 (.pick (.tm 108) (.kv (.bool true)) (.tm 124))] 34 [3,7,125])
 (.cond (.tm 125)
 (.seq (.region [rq 0 4 (.move (.kv (.bool false)))] 1 [4])
 .ret)
 .skip)))
 (.region [RM 0 90 7,
 rq 1 91 (.bin .add (.tm 90) (ki 1)),
 RM 2 7 91] 3 [3,7]))))))
 (.seq (.seq (.region [rq 0 8 (.move (ki 0))] 1 [3,8])
 (.block 4
 (.loop
 (.seq (.seq (.region [RM 0 126 8,
 RF 1 127 4 3,
 RL 2 128 127,
 rq 3 129 (.len false (.tm 128)),
 rq 4 130 (.bin .lss (.tm 126) (.tm 129))] 5 [3,8,130])
 (.cond (.tm 130)
 .skip
 (.exit 4)))
 (.seq (.block 5
 (.seq (.region [RF 0 133 3 3,
 RL 1 134 133,
 RF 2 135 4 3,
 RL 3 136 135,
 RM 4 137 8,
 rq 5 138 (.idx 5 (.tm 136) (.tm 137)),
 RF 6 139 0 138,
 RL 7 140 139,
 RF 8 141 4 3,
 RL 9 142 141,
 RM 10 143 8,
 rq 11 144 (.idx 5 (.tm 142) (.tm 143)),
 RF 12 145 1 144,
 RL 13 146 145,
 rq 14 147 (.call aIN [(.tm 134),(.tm 140),(.tm 146)]),
 rq 15 148 (.bin .geq (.tm 147) (ki 0))] 16 [3,8,148])
 (.cond (.tm 148)
 (.seq (.region [rq 0 4 (.move (.kv (.bool false)))] 1 [4])
 .ret)
 .skip)))
 (.region [RM 0 131 8,
 rq 1 132 (.bin .add (.tm 131) (ki 1)),
 RM 2 8 132] 3 [3,8]))))))
 (.seq (.region [rq 0 4 (.move (.kv (.bool true)))] 1 [4])
 .ret))))))))
def aMI:List Cert:=[⟨[],[2,3]⟩,⟨[],[2,3,23]⟩,⟨[],[4]⟩,⟨[],[2,3,5]⟩,⟨[],[2,3,5,6]⟩,⟨[],[2,3,5,6,25]⟩,⟨[cz 0,cz 1,cz 2,cz 3,cz 4,cz 5,cz 6,cz 7,cz 8,cz 9,cz 10,cz 11,cz 12],[2,3,5,6,40]⟩,⟨[],[4]⟩,⟨[],[2,3,5,6]⟩,⟨[],[2,3,5,6]⟩,⟨[],[3,84]⟩,⟨[],[4]⟩,⟨[],[3,7]⟩,⟨[],[3,7,89]⟩,⟨[cz 0,cz 1,cz 2,cz 3,cz 4,cz 5,cz 6,cz 7,cz 8,cz 9,cz 10,cz 11,cz 12,cz 13,cz 14,cz 15,cz 16,cz 17,cz 18,cz 19,cz 20,cz 21,cz 22,cz 23,cz 24,cz 25,cz 26,cz 27,cz 28,cz 29,cz 30,cz 31,cz 32,cz 33],[3,7,125]⟩,⟨[],[4]⟩,⟨[],[3,7]⟩,⟨[],[3,8]⟩,⟨[],[3,8,130]⟩,⟨[cz 0,cz 1,cz 2,cz 3,cz 4,cz 5,cz 6,cz 7,cz 8,cz 9,cz 10,cz 11,cz 12,cz 13,cz 14,cz 15],[3,8,148]⟩,⟨[],[4]⟩,⟨[],[3,8]⟩,⟨[],[4]⟩]
def aKC:List aW:=[.tm 4]
theorem aMJ:aO Tryz.prog Tryz.f50 aMI=some (aJP,aKC):=by kernel_rfl
theorem aMM:aN Tryz.prog aI6 Tryz.f50 aJP aKC:=
 aN.mk Tryz.func50 (by kernel_rfl) aMJ
def aNP:AC:=
 (.seq (.region [rq 0 2 (.box true (.tm 0)),
 rq 1 3 (.box true (.tm 1)),
 rq 2 4 (.move (.kv (.bool false)))] 3 [2,3])
 (.seq (.region [RF 0 5 0 3,
 RL 1 6 5,
 rq 2 7 (.call y2 [(.tm 6),(ki 1),(ki 3)]),
 RM 3 8 7,
 GQ 4 9 (.fld 1 (.tm 3)) 8 true,
 GQ 5 10 (.load 1 false (.tm 9)) 8 true,
 GQ 6 11 (.call y2 [(.tm 10),(ki 0),(ki 2)]) 8 true,
 rq 7 12 (.pick (.tm 8) (.tm 11) (.kv (.bool false))),
 RM 8 13 12,
 GQ 9 14 (.fld 2 (.tm 3)) 13 true,
 GQ 10 15 (.load 1 false (.tm 14)) 13 true,
 GQ 11 16 (.fld 2 (.tm 2)) 13 true,
 GQ 12 17 (.load 1 false (.tm 16)) 13 true,
 GQ 13 18 (.fld 1 (.tm 3)) 13 true,
 GQ 14 19 (.load 1 false (.tm 18)) 13 true,
 GQ 15 20 (.idx 1 (.tm 17) (.tm 19)) 13 true,
 GQ 16 21 (.load 1 false (.tm 20)) 13 true,
 GQ 17 22 (.len false (.tm 21)) 13 true,
 GQ 18 23 (.bin .sub (.tm 22) (ki 1)) 13 true,
 GQ 19 24 (.call y2 [(.tm 15),(ki 0),(.tm 23)]) 13 true,
 rq 20 25 (.pick (.tm 13) (.tm 24) (.kv (.bool false))),
 RM 21 4 25] 22 [4])
 .ret))
def aQO:List Cert:=[⟨[],[2,3]⟩,⟨[cz 0,cz 1,cz 2,cz 3,cz 4,cz 5,cz 6,cz 7,cz 8,cz 9,cz 10,cz 11,cz 12,cz 13,cz 14,cz 15,cz 16,cz 17,cz 18,cz 19,cz 20,cz 21],[4]⟩]
def aOP:List aW:=[.tm 4]
theorem aRB:aO Tryz.prog Tryz.f92 aQO=some (aNP,aOP):=by kernel_rfl
theorem aRD:aN Tryz.prog aNF Tryz.f92 aNP aOP:=
 aN.mk Tryz.func92 (by kernel_rfl) aRB
def aI9:AC:=
 (.seq (.region [rq 0 4 (.box true (.tm 0)),
 rq 1 8 (.move (.kv (.bool false)))] 2 [1,2,3,4])
 (.seq (.seq (.region [rq 0 9 (.move (ki 0))] 1 [1,2,3,4,9])
 (.block 0
 (.loop
 (.seq (.seq (.region [RM 0 11 9,
 RM 1 12 2,
 rq 2 13 (.len false (.tm 12)),
 rq 3 14 (.bin .lss (.tm 11) (.tm 13))] 4 [1,2,3,4,9,14])
 (.cond (.tm 14)
 .skip
 (.exit 0)))
 (.seq (.block 1
 (.seq (.region [RM 0 17 2,
 RM 1 18 9,
 rq 2 19 (.idx 5 (.tm 17) (.tm 18)),
 rq 3 20 (.load 5 true (.tm 19)),
 rq 4 10 (.alloc [VZ,VZ,VZ,VZ,OZ]),
 rn 5 (.store 5 true (.tm 10) (.tm 20))] 6 [1,2,3,4,9,10])
 (.seq (.seq (.region [RF 0 21 0 10,
 RL 1 22 21,
 rq 2 23 (.call y2 [(.tm 22),(ki 0),(ki 2)]),
 rq 3 24 (.un .not (.tm 23)),
 RM 4 25 24,
 GQ 5 26 (.fld 1 (.tm 10)) 25 false,
 GQ 6 27 (.load 1 false (.tm 26)) 25 false,
 GQ 7 28 (.move (.tm 1)) 25 false,
 GQ 8 29 (.fld 0 (.tm 10)) 25 false,
 GQ 9 30 (.load 1 false (.tm 29)) 25 false,
 GQ 10 31 (.idx 1 (.tm 28) (.tm 30)) 25 false,
 GQ 11 32 (.load 1 false (.tm 31)) 25 false,
 GQ 12 33 (.bin .sub (.tm 32) (ki 1)) 25 false,
 GQ 13 34 (.call y2 [(.tm 27),(ki 0),(.tm 33)]) 25 false,
 GQ 14 35 (.un .not (.tm 34)) 25 false,
 rq 15 36 (.pick (.tm 25) (.kv (.bool true)) (.tm 35)),
 RM 16 37 36,
 GQ 17 38 (.move (.tm 9)) 37 false,
 GQ 18 39 (.bin .gtr (.tm 38) (ki 0)) 37 false,
 GQ 19 40 (.move (.tm 39)) 37 false,
 GQ 20 41 (.move (.tm 2)) 40 true,
 GQ 21 42 (.move (.tm 9)) 40 true,
 GQ 22 43 (.bin .sub (.tm 42) (ki 1)) 40 true,
 GQ 23 44 (.idx 5 (.tm 41) (.tm 43)) 40 true,
 GQ 24 45 (.load 5 true (.tm 44)) 40 true,
 GQ 25 46 (.load 5 true (.tm 10)) 40 true,
 GQ 26 47 (.call aKL [(.tm 45),(.tm 46)]) 40 true,
 GQ 27 48 (.un .not (.tm 47)) 40 true,
 GQ 28 49 (.pick (.tm 40) (.tm 48) (.kv (.bool false))) 37 false,
 rq 29 50 (.pick (.tm 37) (.kv (.bool true)) (.tm 49))] 30 [1,2,3,4,9,10,50])
 (.cond (.tm 50)
 (.seq (.region [rq 0 8 (.move (.kv (.bool false)))] 1 [8])
 .ret)
 .skip))
 (.seq (.region [RM 0 51 3,
 RM 1 52 51,
 GQ 2 53 (.fld 2 (.tm 10)) 52 true,
 GQ 3 54 (.load 3 true (.tm 53)) 52 true,
 GQ 4 55 (.call aIP [(.tm 54)]) 52 true,
 GQ 5 56 (.un .not (.tm 55)) 52 true,
 GQ 6 57 (.move (.tm 56)) 52 true,
 GQ 7 58 (.fld 2 (.tm 10)) 57 false,
 GQ 8 59 (.fld 0 (.tm 58)) 57 false,
 GQ 9 60 (.load 1 false (.tm 59)) 57 false,
 GQ 10 61 (.fld 2 (.tm 4)) 57 false,
 GQ 11 62 (.load 1 false (.tm 61)) 57 false,
 GQ 12 63 (.fld 0 (.tm 10)) 57 false,
 GQ 13 64 (.load 1 false (.tm 63)) 57 false,
 GQ 14 65 (.idx 1 (.tm 62) (.tm 64)) 57 false,
 GQ 15 66 (.load 1 false (.tm 65)) 57 false,
 GQ 16 67 (.fld 1 (.tm 10)) 57 false,
 GQ 17 68 (.load 1 false (.tm 67)) 57 false,
 GQ 18 69 (.idx 7 (.tm 66) (.tm 68)) 57 false,
 GQ 19 70 (.fld 0 (.tm 69)) 57 false,
 GQ 20 71 (.load 1 false (.tm 70)) 57 false,
 GQ 21 72 (.bin .neq (.tm 60) (.tm 71)) 57 false,
 GQ 22 73 (.pick (.tm 57) (.kv (.bool true)) (.tm 72)) 52 true,
 rq 23 74 (.pick (.tm 52) (.tm 73) (.kv (.bool false))),
 RM 24 75 74,
 GQ 25 76 (.move (.tm 3)) 75 false,
 GQ 26 77 (.un .not (.tm 76)) 75 false,
 GQ 27 78 (.move (.tm 77)) 75 false,
 GQ 28 79 (.fld 2 (.tm 10)) 78 true,
 GQ 29 80 (.fld 0 (.tm 79)) 78 true,
 GQ 30 81 (.load 1 false (.tm 80)) 78 true,
 GQ 31 82 (.bin .neq (.tm 81) (ki 0)) 78 true,
 GQ 32 83 (.move (.tm 82)) 78 true,
 GQ 33 84 (.fld 2 (.tm 10)) 83 false,
 GQ 34 85 (.fld 1 (.tm 84)) 83 false,
 GQ 35 86 (.load 1 false (.tm 85)) 83 false,
 GQ 36 87 (.bin .neq (.tm 86) (ki 0)) 83 false,
 GQ 37 88 (.pick (.tm 83) (.kv (.bool true)) (.tm 87)) 78 true,
 GQ 38 89 (.move (.tm 88)) 78 true,
 GQ 39 90 (.fld 2 (.tm 10)) 89 false,
 GQ 40 91 (.fld 2 (.tm 90)) 89 false,
 GQ 41 92 (.load 1 false (.tm 91)) 89 false,
 GQ 42 93 (.len false (.tm 92)) 89 false,
 GQ 43 94 (.bin .neq (.tm 93) (ki 0)) 89 false,
 GQ 44 95 (.pick (.tm 89) (.kv (.bool true)) (.tm 94)) 78 true,
 GQ 45 96 (.pick (.tm 78) (.tm 95) (.kv (.bool false))) 75 false,
 rq 46 97 (.pick (.tm 75) (.kv (.bool true)) (.tm 96))] 47 [1,2,3,4,9,97])
 (.cond (.tm 97)
 (.seq (.region [rq 0 8 (.move (.kv (.bool false)))] 1 [8])
 .ret)
 .skip)))))
 (.region [RM 0 15 9,
 rq 1 16 (.bin .add (.tm 15) (ki 1)),
 RM 2 9 16] 3 [1,2,3,4,9]))))))
 (.seq (.region [rq 0 8 (.move (.kv (.bool true)))] 1 [8])
 .ret)))
def aLC:List Cert:=[⟨[],[1,2,3,4]⟩,⟨[],[1,2,3,4,9]⟩,⟨[],[1,2,3,4,9,14]⟩,⟨[],[1,2,3,4,9,10]⟩,⟨[cz 0,cz 1,cz 2,cz 3,cz 4,cz 5,cz 6,cz 7,cz 8,cz 9,cz 10,cz 11,cz 12,cz 13,cz 14,cz 15,cz 16,cz 17,cz 18,cz 19,cz 20,cz 21,cz 22,cz 23,cz 24,cz 25,cz 26,cz 27,cz 28,cz 29],[1,2,3,4,9,10,50]⟩,⟨[],[8]⟩,⟨[cz 0,cz 1,cz 2,cz 3,cz 4,cz 5,cz 6,cz 7,cz 8,cz 9,cz 10,cz 11,cz 12,cz 13,cz 14,cz 15,cz 16,cz 17,cz 18,cz 19,cz 20,cz 21,cz 22,cz 23,cz 24,cz 25,cz 26,cz 27,cz 28,cz 29,cz 30,cz 31,cz 32,cz 33,cz 34,cz 35,cz 36,cz 37,cz 38,cz 39,cz 40,cz 41,cz 42,cz 43,cz 44,cz 45,cz 46],[1,2,3,4,9,97]⟩,⟨[],[8]⟩,⟨[],[1,2,3,4,9]⟩,⟨[],[8]⟩]
def aJ1:List aW:=[.tm 8]
theorem aKV:aO Tryz.prog Tryz.f102 aLC=some (aI9,aJ1):=by kernel_rfl
theorem aKZ:aN Tryz.prog aIQ Tryz.f102 aI9 aJ1:=
 aN.mk Tryz.func102 (by kernel_rfl) aKV
def aJD:AC:=
 (.seq (.region [rq 0 2 (.box true (.tm 0)),
 rq 1 3 (.box true (.tm 1)),
 rq 2 4 (.move (.kv (.bool false)))] 3 [2,3])
 (.seq (.seq (.region [rq 0 5 (.move (ki 0))] 1 [2,3,5])
 (.block 0
 (.loop
 (.seq (.seq (.region [RM 0 7 5,
 RF 1 8 5 3,
 RL 2 9 8,
 rq 3 10 (.len false (.tm 9)),
 rq 4 11 (.bin .lss (.tm 7) (.tm 10))] 5 [2,3,5,11])
 (.cond (.tm 11)
 .skip
 (.exit 0)))
 (.seq (.block 1
 (.seq (.region [RF 0 14 5 3,
 RL 1 15 14,
 RM 2 16 5,
 rq 3 17 (.idx 5 (.tm 15) (.tm 16)),
 rq 4 18 (.load 5 true (.tm 17)),
 rq 5 6 (.alloc [VZ,VZ,VZ,VZ,OZ]),
 rn 6 (.store 5 true (.tm 6) (.tm 18))] 7 [2,3,5,6])
 (.seq (.region [RF 0 19 0 6,
 RL 1 20 19,
 rq 2 21 (.call y2 [(.tm 20),(ki 0),(ki 2)]),
 rq 3 22 (.un .not (.tm 21)),
 RM 4 23 22,
 GQ 5 24 (.fld 1 (.tm 6)) 23 false,
 GQ 6 25 (.load 1 false (.tm 24)) 23 false,
 GQ 7 26 (.fld 2 (.tm 3)) 23 false,
 GQ 8 27 (.load 1 false (.tm 26)) 23 false,
 GQ 9 28 (.fld 0 (.tm 6)) 23 false,
 GQ 10 29 (.load 1 false (.tm 28)) 23 false,
 GQ 11 30 (.idx 1 (.tm 27) (.tm 29)) 23 false,
 GQ 12 31 (.load 1 false (.tm 30)) 23 false,
 GQ 13 32 (.bin .sub (.tm 31) (ki 1)) 23 false,
 GQ 14 33 (.call y2 [(.tm 25),(ki 0),(.tm 32)]) 23 false,
 GQ 15 34 (.un .not (.tm 33)) 23 false,
 rq 16 35 (.pick (.tm 23) (.kv (.bool true)) (.tm 34)),
 RM 17 36 35,
 GQ 18 37 (.fld 2 (.tm 6)) 36 false,
 GQ 19 38 (.load 3 true (.tm 37)) 36 false,
 GQ 20 39 (.call aIP [(.tm 38)]) 36 false,
 GQ 21 40 (.un .not (.tm 39)) 36 false,
 rq 22 41 (.pick (.tm 36) (.kv (.bool true)) (.tm 40)),
 RM 23 42 41,
 GQ 24 43 (.fld 2 (.tm 6)) 42 false,
 GQ 25 44 (.fld 0 (.tm 43)) 42 false,
 GQ 26 45 (.load 1 false (.tm 44)) 42 false,
 GQ 27 46 (.fld 2 (.tm 2)) 42 false,
 GQ 28 47 (.load 1 false (.tm 46)) 42 false,
 GQ 29 48 (.fld 0 (.tm 6)) 42 false,
 GQ 30 49 (.load 1 false (.tm 48)) 42 false,
 GQ 31 50 (.idx 1 (.tm 47) (.tm 49)) 42 false,
 GQ 32 51 (.load 1 false (.tm 50)) 42 false,
 GQ 33 52 (.fld 1 (.tm 6)) 42 false,
 GQ 34 53 (.load 1 false (.tm 52)) 42 false,
 GQ 35 54 (.idx 7 (.tm 51) (.tm 53)) 42 false,
 GQ 36 55 (.fld 0 (.tm 54)) 42 false,
 GQ 37 56 (.load 1 false (.tm 55)) 42 false,
 GQ 38 57 (.bin .neq (.tm 45) (.tm 56)) 42 false,
 rq 39 58 (.pick (.tm 42) (.kv (.bool true)) (.tm 57)),
 RM 40 59 58,
 GQ 41 60 (.fld 5 (.tm 3)) 59 false,
 GQ 42 61 (.load 1 false (.tm 60)) 59 false,
 GQ 43 62 (.move (.tm 5)) 59 false,
 GQ 44 63 (.slc 5 (.tm 61) none (some (.tm 62)) none) 59 false,
 GQ 45 64 (.fld 0 (.tm 6)) 59 false,
 GQ 46 65 (.load 1 false (.tm 64)) 59 false,
 GQ 47 66 (.fld 1 (.tm 6)) 59 false,
 GQ 48 67 (.load 1 false (.tm 66)) 59 false,
 GQ 49 68 (.call aIN [(.tm 63),(.tm 65),(.tm 67)]) 59 false,
 GQ 50 69 (.bin .geq (.tm 68) (ki 0)) 59 false,
 rq 51 70 (.pick (.tm 59) (.kv (.bool true)) (.tm 69))] 52 [2,3,5,70])
 (.cond (.tm 70)
 (.seq (.region [rq 0 4 (.move (.kv (.bool false)))] 1 [4])
 .ret)
 .skip))))
 (.region [RM 0 12 5,
 rq 1 13 (.bin .add (.tm 12) (ki 1)),
 RM 2 5 13] 3 [2,3,5]))))))
 (.seq (.region [rq 0 4 (.move (.kv (.bool true)))] 1 [4])
 .ret)))
def aK4:List Cert:=[⟨[],[2,3]⟩,⟨[],[2,3,5]⟩,⟨[],[2,3,5,11]⟩,⟨[],[2,3,5,6]⟩,⟨[cz 0,cz 1,cz 2,cz 3,cz 4,cz 5,cz 6,cz 7,cz 8,cz 9,cz 10,cz 11,cz 12,cz 13,cz 14,cz 15,cz 16,cz 17,cz 18,cz 19,cz 20,cz 21,cz 22,cz 23,cz 24,cz 25,cz 26,cz 27,cz 28,cz 29,cz 30,cz 31,cz 32,cz 33,cz 34,cz 35,cz 36,cz 37,cz 38,cz 39,cz 40,cz 41,cz 42,cz 43,cz 44,cz 45,cz 46,cz 47,cz 48,cz 49,cz 50,cz 51],[2,3,5,70]⟩,⟨[],[4]⟩,⟨[],[2,3,5]⟩,⟨[],[4]⟩]
def aJY:List aW:=[.tm 4]
theorem aK1:aO Tryz.prog Tryz.f103 aK4=some (aJD,aJY):=by kernel_rfl
theorem aK7:aN Tryz.prog aIX Tryz.f103 aJD aJY:=
 aN.mk Tryz.func103 (by kernel_rfl) aK1
end Go.Proofs.YtegiblhkjfiooaaGreat
end
section
namespace Go.Proofs.YtegiblhkjfiooaaGreat
open Go Go.AM
set_option maxRecDepth 100000
def aJQ:AC:=
 (.seq (.region [rq 0 1 (.box true (.tm 0)),
 rq 1 2 (.move (.kv (.bool false)))] 2 [1])
 (.seq (.seq (.region [RF 0 4 0 1,
 RL 1 5 4,
 rq 2 6 (.call aBG [(.tm 5)]),
 rq 3 7 (.un .not (.tm 6)),
 RM 4 8 7,
 GQ 5 9 (.fld 1 (.tm 1)) 8 false,
 GQ 6 10 (.load 1 false (.tm 9)) 8 false,
 GQ 7 11 (.len false (.tm 10)) 8 false,
 GQ 8 12 (.bin .neq (.tm 11) (ki 4)) 8 false,
 rq 9 13 (.pick (.tm 8) (.kv (.bool true)) (.tm 12)),
 RM 10 14 13,
 GQ 11 15 (.fld 1 (.tm 1)) 14 false,
 GQ 12 16 (.load 1 false (.tm 15)) 14 false,
 GQ 13 17 (.call aA3 [(.tm 16),(ki 0),(ki 3)]) 14 false,
 GQ 14 18 (.un .not (.tm 17)) 14 false,
 rq 15 19 (.pick (.tm 14) (.kv (.bool true)) (.tm 18)),
 RM 16 20 19,
 GQ 17 21 (.fld 2 (.tm 1)) 20 false,
 GQ 18 22 (.load 1 false (.tm 21)) 20 false,
 GQ 19 23 (.len false (.tm 22)) 20 false,
 GQ 20 24 (.bin .neq (.tm 23) (ki 3)) 20 false,
 rq 21 25 (.pick (.tm 20) (.kv (.bool true)) (.tm 24))] 22 [1,25])
 (.cond (.tm 25)
 (.seq (.region [rq 0 2 (.move (.kv (.bool false)))] 1 [2])
 .ret)
 .skip))
 (.seq (.seq (.region [rq 0 3 (.move (ki 0))] 1 [1,3])
 (.block 0
 (.loop
 (.seq (.seq (.region [RM 0 26 3,
 rq 1 27 (.bin .lss (.tm 26) (ki 3))] 2 [1,3,27])
 (.cond (.tm 27)
 .skip
 (.exit 0)))
 (.seq (.block 1
 (.seq (.region [RF 0 30 2 1,
 RL 1 31 30,
 RM 2 32 3,
 rq 3 33 (.idx 1 (.tm 31) (.tm 32)),
 RL 4 34 33,
 rq 5 35 (.len false (.tm 34)),
 rq 6 36 (.bin .gtr (.tm 35) (ki 12)),
 RM 7 37 36,
 GQ 8 38 (.fld 2 (.tm 1)) 37 false,
 GQ 9 39 (.load 1 false (.tm 38)) 37 false,
 GQ 10 40 (.move (.tm 3)) 37 false,
 GQ 11 41 (.idx 1 (.tm 39) (.tm 40)) 37 false,
 GQ 12 42 (.load 1 false (.tm 41)) 37 false,
 GQ 13 43 (.call aI2 [(.tm 42)]) 37 false,
 GQ 14 44 (.un .not (.tm 43)) 37 false,
 rq 15 45 (.pick (.tm 37) (.kv (.bool true)) (.tm 44))] 16 [1,3,45])
 (.cond (.tm 45)
 (.seq (.region [rq 0 2 (.move (.kv (.bool false)))] 1 [2])
 .ret)
 .skip)))
 (.region [RM 0 28 3,
 rq 1 29 (.bin .add (.tm 28) (ki 1)),
 RM 2 3 29] 3 [1,3]))))))
 (.seq (.region [rq 0 2 (.move (.kv (.bool true)))] 1 [2])
 .ret))))
def aLZ:List Cert:=[⟨[],[1]⟩,⟨[],[1,25]⟩,⟨[],[2]⟩,⟨[],[1,3]⟩,⟨[],[1,3,27]⟩,⟨[],[1,3,45]⟩,⟨[],[2]⟩,⟨[],[1,3]⟩,⟨[],[2]⟩]
def aKB:List aW:=[.tm 2]
theorem aL8:aO Tryz.prog Tryz.f76 aLZ=some (aJQ,aKB):=by kernel_rfl
theorem aLX:aN Tryz.prog aIV Tryz.f76 aJQ aKB:=
 aN.mk Tryz.func76 (by kernel_rfl) aL8
def aJM:AC:=
 (.seq (.region [rq 0 1 (.box true (.tm 0)),
 rq 1 2 (.move (.kv (.bool false)))] 2 [1])
 (.seq (.region [RF 0 3 0 1,
 rq 1 4 (.load 1 true (.tm 3)),
 rq 2 5 (.call aI7 [(.tm 4)]),
 RM 3 6 5,
 GQ 4 7 (.fld 1 (.tm 1)) 6 true,
 GQ 5 8 (.load 1 false (.tm 7)) 6 true,
 GQ 6 9 (.len false (.tm 8)) 6 true,
 GQ 7 10 (.bin .eql (.tm 9) (ki 6)) 6 true,
 rq 8 11 (.pick (.tm 6) (.tm 10) (.kv (.bool false))),
 RM 9 12 11,
 GQ 10 13 (.fld 1 (.tm 1)) 12 true,
 GQ 11 14 (.load 1 false (.tm 13)) 12 true,
 GQ 12 15 (.call aA3 [(.tm 14),(.kv (.int .i64 (-1))),(ki 63)]) 12 true,
 rq 13 16 (.pick (.tm 12) (.tm 15) (.kv (.bool false))),
 RM 14 2 16] 15 [2])
 .ret))
def aLN:List Cert:=[⟨[],[1]⟩,⟨[],[2]⟩]
def aJ7:List aW:=[.tm 2]
theorem aL9:aO Tryz.prog Tryz.f101 aLN=some (aJM,aJ7):=by kernel_rfl
theorem aLR:aN Tryz.prog aIU Tryz.f101 aJM aJ7:=
 aN.mk Tryz.func101 (by kernel_rfl) aL9
def aBO:AC:=
 (.seq (.region [rq 0 2 (.move (.kv (.bool false)))] 1 [0])
 (.seq (.seq (.region [RM 0 6 0,
 rq 1 7 (.len false (.tm 6)),
 rq 2 8 (.bin .gtr (.tm 7) (ki 4))] 3 [0,8])
 (.cond (.tm 8)
 (.seq (.region [rq 0 2 (.move (.kv (.bool false)))] 1 [2])
 .ret)
 .skip))
 (.seq (.seq (.region [rq 0 3 (.move (ki 0))] 1 [0,3])
 (.block 0
 (.loop
 (.seq (.seq (.region [RM 0 9 3,
 RM 1 10 0,
 rq 2 11 (.len false (.tm 10)),
 rq 3 12 (.bin .lss (.tm 9) (.tm 11))] 4 [0,3,12])
 (.cond (.tm 12)
 .skip
 (.exit 0)))
 (.seq (.block 1
 (.seq (.region [RM 0 15 0,
 RM 1 16 3,
 rq 2 17 (.idx 4 (.tm 15) (.tm 16)),
 rq 3 18 (.load 4 true (.tm 17)),
 rq 4 4 (.alloc [VZ,VZ,VZ,(.v (.bool false))]),
 rn 5 (.store 4 true (.tm 4) (.tm 18))] 6 [0,3,4])
 (.seq (.seq (.region [RF 0 19 0 4,
 RL 1 20 19,
 RF 2 21 1 4,
 RL 3 22 21,
 rq 4 23 (.call y2 [(.tm 20),(ki 0),(.tm 22)]),
 rq 5 24 (.un .not (.tm 23)),
 RM 6 25 24,
 GQ 7 26 (.fld 1 (.tm 4)) 25 false,
 GQ 8 27 (.load 1 false (.tm 26)) 25 false,
 GQ 9 28 (.bin .gtr (.tm 27) (ki 63)) 25 false,
 rq 10 29 (.pick (.tm 25) (.kv (.bool true)) (.tm 28)),
 RM 11 30 29,
 GQ 12 31 (.fld 2 (.tm 4)) 30 false,
 GQ 13 32 (.load 1 false (.tm 31)) 30 false,
 GQ 14 33 (.call y2 [(.tm 32),(ki 0),(ki 2)]) 30 false,
 GQ 15 34 (.un .not (.tm 33)) 30 false,
 rq 16 35 (.pick (.tm 30) (.kv (.bool true)) (.tm 34))] 17 [0,3,4,35])
 (.cond (.tm 35)
 (.seq (.region [rq 0 2 (.move (.kv (.bool false)))] 1 [2])
 .ret)
 .skip))
 (.seq (.region [rq 0 5 (.move (ki 0))] 1 [0,3,4,5])
 (.block 2
 (.loop
 (.seq (.seq (.region [RM 0 36 5,
 RM 1 37 3,
 rq 2 38 (.bin .lss (.tm 36) (.tm 37))] 3 [0,3,4,5,38])
 (.cond (.tm 38)
 .skip
 (.exit 2)))
 (.seq (.block 3
 (.seq (.region [RF 0 41 0 4,
 RL 1 42 41,
 RM 2 43 0,
 RM 3 44 5,
 rq 4 45 (.idx 4 (.tm 43) (.tm 44)),
 RF 5 46 1 45,
 RL 6 47 46,
 rq 7 48 (.bin .leq (.tm 42) (.tm 47)),
 RM 8 49 48,
 GQ 9 50 (.move (.tm 0)) 49 true,
 GQ 10 51 (.move (.tm 5)) 49 true,
 GQ 11 52 (.idx 4 (.tm 50) (.tm 51)) 49 true,
 GQ 12 53 (.fld 0 (.tm 52)) 49 true,
 GQ 13 54 (.load 1 false (.tm 53)) 49 true,
 GQ 14 55 (.fld 1 (.tm 4)) 49 true,
 GQ 15 56 (.load 1 false (.tm 55)) 49 true,
 GQ 16 57 (.bin .leq (.tm 54) (.tm 56)) 49 true,
 rq 17 58 (.pick (.tm 49) (.tm 57) (.kv (.bool false)))] 18 [0,3,4,5,58])
 (.cond (.tm 58)
 (.seq (.region [rq 0 2 (.move (.kv (.bool false)))] 1 [2])
 .ret)
 .skip)))
 (.region [RM 0 39 5,
 rq 1 40 (.bin .add (.tm 39) (ki 1)),
 RM 2 5 40] 3 [0,3,4,5])))))))))
 (.region [RM 0 13 3,
 rq 1 14 (.bin .add (.tm 13) (ki 1)),
 RM 2 3 14] 3 [0,3]))))))
 (.seq (.region [rq 0 2 (.move (.kv (.bool true)))] 1 [2])
 .ret))))
def aDQ:List Cert:=[⟨[],[0]⟩,⟨[],[0,8]⟩,⟨[],[2]⟩,⟨[],[0,3]⟩,⟨[],[0,3,12]⟩,⟨[],[0,3,4]⟩,⟨[],[0,3,4,35]⟩,⟨[],[2]⟩,⟨[],[0,3,4,5]⟩,⟨[],[0,3,4,5,38]⟩,⟨[cz 0,cz 1,cz 2,cz 3,cz 4,cz 5,cz 6,cz 7,cz 8,cz 9,cz 10,cz 11,cz 12,cz 13,cz 14,cz 15,cz 16,cz 17],[0,3,4,5,58]⟩,⟨[],[2]⟩,⟨[],[0,3,4,5]⟩,⟨[],[0,3]⟩,⟨[],[2]⟩]
def aB3:List aW:=[.tm 2]
theorem aDZ:aO Tryz.prog Tryz.f143 aDQ=some (aBO,aB3):=by kernel_rfl
theorem aDM:aN Tryz.prog aBG Tryz.f143 aBO aB3:=
 aN.mk Tryz.func143 (by kernel_rfl) aDZ
def aBP:AC:=
 (.seq (.region [rq 0 6 (.move (.kv (.bool false)))] 1 [0,1,2])
 (.seq (.seq (.region [rq 0 7 (.move (ki 0))] 1 [0,1,2,7])
 (.block 0
 (.loop
 (.seq (.seq (.region [RM 0 8 7,
 RM 1 9 0,
 rq 2 10 (.len false (.tm 9)),
 rq 3 11 (.bin .lss (.tm 8) (.tm 10))] 4 [0,1,2,7,11])
 (.cond (.tm 11)
 .skip
 (.exit 0)))
 (.seq (.block 1
 (.seq (.region [RM 0 14 0,
 RM 1 15 7,
 rq 2 16 (.idx 1 (.tm 14) (.tm 15)),
 RL 3 17 16,
 RM 4 18 1,
 RM 5 19 2,
 rq 6 20 (.call y2 [(.tm 17),(.tm 18),(.tm 19)]),
 rq 7 21 (.un .not (.tm 20))] 8 [0,1,2,7,21])
 (.cond (.tm 21)
 (.seq (.region [rq 0 6 (.move (.kv (.bool false)))] 1 [6])
 .ret)
 .skip)))
 (.region [RM 0 12 7,
 rq 1 13 (.bin .add (.tm 12) (ki 1)),
 RM 2 7 13] 3 [0,1,2,7]))))))
 (.seq (.region [rq 0 6 (.move (.kv (.bool true)))] 1 [6])
 .ret)))
def aDP:List Cert:=[⟨[],[0,1,2]⟩,⟨[],[0,1,2,7]⟩,⟨[],[0,1,2,7,11]⟩,⟨[],[0,1,2,7,21]⟩,⟨[],[6]⟩,⟨[],[0,1,2,7]⟩,⟨[],[6]⟩]
def aB1:List aW:=[.tm 6]
theorem aDO:aO Tryz.prog Tryz.f144 aDP=some (aBP,aB1):=by kernel_rfl
theorem aDN:aN Tryz.prog aA3 Tryz.f144 aBP aB1:=
 aN.mk Tryz.func144 (by kernel_rfl) aDO
def aJC:AC:=
 (.seq (.region [rq 0 2 (.move (.kv (.bool false)))] 1 [0])
 (.seq (.seq (.region [rq 0 3 (.move (ki 0))] 1 [0,3])
 (.block 0
 (.loop
 (.seq (.seq (.region [RM 0 4 3,
 RM 1 5 0,
 rq 2 6 (.len false (.tm 5)),
 rq 3 7 (.bin .lss (.tm 4) (.tm 6))] 4 [0,3,7])
 (.cond (.tm 7)
 .skip
 (.exit 0)))
 (.seq (.block 1
 (.seq (.region [RM 0 10 0,
 RM 1 11 3,
 rq 2 12 (.idx 7 (.tm 10) (.tm 11)),
 rq 3 13 (.load 7 true (.tm 12)),
 rq 4 14 (.call aBF [(.tm 13)]),
 rq 5 15 (.un .not (.tm 14))] 6 [0,3,15])
 (.cond (.tm 15)
 (.seq (.region [rq 0 2 (.move (.kv (.bool false)))] 1 [2])
 .ret)
 .skip)))
 (.region [RM 0 8 3,
 rq 1 9 (.bin .add (.tm 8) (ki 1)),
 RM 2 3 9] 3 [0,3]))))))
 (.seq (.region [rq 0 2 (.move (.kv (.bool true)))] 1 [2])
 .ret)))
def aKU:List Cert:=[⟨[],[0]⟩,⟨[],[0,3]⟩,⟨[],[0,3,7]⟩,⟨[],[0,3,15]⟩,⟨[],[2]⟩,⟨[],[0,3]⟩,⟨[],[2]⟩]
def aJ0:List aW:=[.tm 2]
theorem aK5:aO Tryz.prog Tryz.f145 aKU=some (aJC,aJ0):=by kernel_rfl
theorem aLI:aN Tryz.prog aI2 Tryz.f145 aJC aJ0:=
 aN.mk Tryz.func145 (by kernel_rfl) aK5
def aBM:AC:=
 (.seq (.region [rq 0 1 (.box true (.tm 0)),
 rq 1 2 (.move (.kv (.bool false)))] 2 [1])
 (.seq (.seq (.region [RF 0 3 0 1,
 RL 1 4 3,
 rq 2 5 (.call y2 [(.tm 4),(ki 0),(ki 1)]),
 rq 3 6 (.un .not (.tm 5)),
 RM 4 7 6,
 GQ 5 8 (.fld 1 (.tm 1)) 7 false,
 GQ 6 9 (.load 1 false (.tm 8)) 7 false,
 GQ 7 10 (.call y2 [(.tm 9),(ki 1),(ki 4)]) 7 false,
 GQ 8 11 (.un .not (.tm 10)) 7 false,
 rq 9 12 (.pick (.tm 7) (.kv (.bool true)) (.tm 11)),
 RM 10 13 12,
 GQ 11 14 (.fld 2 (.tm 1)) 13 false,
 GQ 12 15 (.load 1 false (.tm 14)) 13 false,
 GQ 13 16 (.fld 3 (.tm 1)) 13 false,
 GQ 14 17 (.load 1 false (.tm 16)) 13 false,
 GQ 15 18 (.fld 4 (.tm 1)) 13 false,
 GQ 16 19 (.load 1 false (.tm 18)) 13 false,
 GQ 17 20 (.call aA6 [(.tm 15),(.tm 17),(.tm 19)]) 13 false,
 GQ 18 21 (.un .not (.tm 20)) 13 false,
 rq 19 22 (.pick (.tm 13) (.kv (.bool true)) (.tm 21))] 20 [1,22])
 (.cond (.tm 22)
 (.seq (.region [rq 0 2 (.move (.kv (.bool false)))] 1 [2])
 .ret)
 .skip))
 (.seq (.seq (.region [RF 0 23 1 1,
 RL 1 24 23,
 rq 2 25 (.bin .geq (.tm 24) (ki 3)),
 RM 3 26 25,
 GQ 4 27 (.fld 3 (.tm 1)) 26 true,
 GQ 5 28 (.load 1 false (.tm 27)) 26 true,
 GQ 6 29 (.bin .neq (.tm 28) (ki 1)) 26 true,
 rq 7 30 (.pick (.tm 26) (.tm 29) (.kv (.bool false)))] 8 [1,30])
 (.cond (.tm 30)
 (.seq (.region [rq 0 2 (.move (.kv (.bool false)))] 1 [2])
 .ret)
 .skip))
 (.seq (.seq (.region [rq 0 31 (.load 7 true (.tm 1)),
 rq 1 32 (.call aAZ [(.tm 31)]),
 rq 2 33 (.un .not (.tm 32))] 3 [1,33])
 (.cond (.tm 33)
 (.seq (.region [RF 0 34 5 1,
 RL 1 35 34,
 rq 2 36 (.len false (.tm 35)),
 rq 3 37 (.bin .eql (.tm 36) (ki 0)),
 RM 4 38 37,
 GQ 5 39 (.fld 6 (.tm 1)) 38 true,
 GQ 6 40 (.load 1 false (.tm 39)) 38 true,
 GQ 7 41 (.len false (.tm 40)) 38 true,
 GQ 8 42 (.bin .eql (.tm 41) (ki 0)) 38 true,
 rq 9 43 (.pick (.tm 38) (.tm 42) (.kv (.bool false))),
 RM 10 2 43] 11 [2])
 .ret)
 .skip))
 (.seq (.region [RF 0 44 5 1,
 RL 1 45 44,
 rq 2 46 (.len false (.tm 45)),
 RF 3 47 3 1,
 RL 4 48 47,
 rq 5 49 (.bin .eql (.tm 46) (.tm 48)),
 RM 6 50 49,
 GQ 7 51 (.fld 6 (.tm 1)) 50 true,
 GQ 8 52 (.load 1 false (.tm 51)) 50 true,
 GQ 9 53 (.len false (.tm 52)) 50 true,
 GQ 10 54 (.fld 3 (.tm 1)) 50 true,
 GQ 11 55 (.load 1 false (.tm 54)) 50 true,
 GQ 12 56 (.bin .eql (.tm 53) (.tm 55)) 50 true,
 rq 13 57 (.pick (.tm 50) (.tm 56) (.kv (.bool false))),
 RM 14 58 57,
 GQ 15 59 (.fld 5 (.tm 1)) 58 true,
 GQ 16 60 (.load 1 false (.tm 59)) 58 true,
 GQ 17 61 (.call aA3 [(.tm 60),(ki 0),(ki 65535)]) 58 true,
 rq 18 62 (.pick (.tm 58) (.tm 61) (.kv (.bool false))),
 RM 19 63 62,
 GQ 20 64 (.fld 6 (.tm 1)) 63 true,
 GQ 21 65 (.load 1 false (.tm 64)) 63 true,
 GQ 22 66 (.call aA3 [(.tm 65),(ki 0),(ki 3)]) 63 true,
 rq 23 67 (.pick (.tm 63) (.tm 66) (.kv (.bool false))),
 RM 24 2 67] 25 [2])
 .ret)))))
def aDV:List Cert:=[⟨[],[1]⟩,⟨[],[1,22]⟩,⟨[],[2]⟩,⟨[],[1,30]⟩,⟨[],[2]⟩,⟨[],[1,33]⟩,⟨[],[2]⟩,⟨[],[2]⟩]
def aB4:List aW:=[.tm 2]
theorem aDY:aO Tryz.prog Tryz.f146 aDV=some (aBM,aB4):=by kernel_rfl
theorem aDW:aN Tryz.prog aBF Tryz.f146 aBM aB4:=
 aN.mk Tryz.func146 (by kernel_rfl) aDY
def aJK:AC:=
 (.seq (.region [rq 0 1 (.box true (.tm 0)),
 rq 1 2 (.move (.kv (.bool false)))] 2 [1])
 (.seq (.seq (.region [RF 0 4 0 1,
 RL 1 5 4,
 rq 2 6 (.len false (.tm 5)),
 rq 3 7 (.bin .neq (.tm 6) (ki 64))] 4 [1,7])
 (.cond (.tm 7)
 (.seq (.region [rq 0 2 (.move (.kv (.bool false)))] 1 [2])
 .ret)
 .skip))
 (.seq (.seq (.region [rq 0 3 (.move (ki 0))] 1 [1,3])
 (.block 0
 (.loop
 (.seq (.seq (.region [RM 0 8 3,
 RF 1 9 0 1,
 RL 2 10 9,
 rq 3 11 (.len false (.tm 10)),
 rq 4 12 (.bin .lss (.tm 8) (.tm 11))] 5 [1,3,12])
 (.cond (.tm 12)
 .skip
 (.exit 0)))
 (.seq (.block 1
 (.seq (.region [RF 0 15 0 1,
 RL 1 16 15,
 RM 2 17 3,
 rq 3 18 (.idx 1 (.tm 16) (.tm 17)),
 RL 4 19 18,
 rq 5 20 (.call y2 [(.tm 19),(ki 0),(ki 65535)]),
 rq 6 21 (.un .not (.tm 20))] 7 [1,3,21])
 (.cond (.tm 21)
 (.seq (.region [rq 0 2 (.move (.kv (.bool false)))] 1 [2])
 .ret)
 .skip)))
 (.region [RM 0 13 3,
 rq 1 14 (.bin .add (.tm 13) (ki 1)),
 RM 2 3 14] 3 [1,3]))))))
 (.seq (.region [rq 0 2 (.move (.kv (.bool true)))] 1 [2])
 .ret))))
def aMK:List Cert:=[⟨[],[1]⟩,⟨[],[1,7]⟩,⟨[],[2]⟩,⟨[],[1,3]⟩,⟨[],[1,3,12]⟩,⟨[],[1,3,21]⟩,⟨[],[2]⟩,⟨[],[1,3]⟩,⟨[],[2]⟩]
def aJ8:List aW:=[.tm 2]
theorem aLU:aO Tryz.prog Tryz.f173 aMK=some (aJK,aJ8):=by kernel_rfl
theorem aMO:aN Tryz.prog aI7 Tryz.f173 aJK aJ8:=
 aN.mk Tryz.func173 (by kernel_rfl) aLU
def aJL:AC:=
 (.seq (.region [rq 0 1 (.box true (.tm 0)),
 rq 1 2 (.move (.kv (.bool false)))] 2 [1])
 (.seq (.region [RF 0 3 0 1,
 RL 1 4 3,
 rq 2 5 (.call y2 [(.tm 4),(ki 0),(ki 1)]),
 RM 3 6 5,
 GQ 4 7 (.fld 1 (.tm 1)) 6 true,
 GQ 5 8 (.load 1 false (.tm 7)) 6 true,
 GQ 6 9 (.call y2 [(.tm 8),(ki 1),(ki 4)]) 6 true,
 rq 7 10 (.pick (.tm 6) (.tm 9) (.kv (.bool false))),
 RM 8 11 10,
 GQ 9 12 (.fld 2 (.tm 1)) 11 true,
 GQ 10 13 (.load 1 false (.tm 12)) 11 true,
 GQ 11 14 (.len false (.tm 13)) 11 true,
 GQ 12 15 (.bin .leq (.tm 14) (ki 4)) 11 true,
 rq 13 16 (.pick (.tm 11) (.tm 15) (.kv (.bool false))),
 RM 14 17 16,
 GQ 15 18 (.fld 2 (.tm 1)) 17 true,
 GQ 16 19 (.load 1 false (.tm 18)) 17 true,
 GQ 17 20 (.call aA3 [(.tm 19),(ki 0),(ki 65535)]) 17 true,
 rq 18 21 (.pick (.tm 17) (.tm 20) (.kv (.bool false))),
 RM 19 2 21] 20 [2])
 .ret))
def aL3:List Cert:=[⟨[],[1]⟩,⟨[],[2]⟩]
def aJ6:List aW:=[.tm 2]
theorem aLS:aO Tryz.prog Tryz.f175 aL3=some (aJL,aJ6):=by kernel_rfl
theorem aMN:aN Tryz.prog aIP Tryz.f175 aJL aJ6:=
 aN.mk Tryz.func175 (by kernel_rfl) aLS
end Go.Proofs.YtegiblhkjfiooaaGreat
end
