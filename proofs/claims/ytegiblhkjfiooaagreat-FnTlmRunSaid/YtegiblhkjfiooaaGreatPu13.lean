/- Texts laid together by a program: rules, contracts and the walk that leads to the law. -/
import Derived.Test.YtegiblhkjfiooaaGreatPu12
import Derived.Test.YtegiblhkjfiooaaGreatPu3
set_option linter.unusedVariables false
set_option linter.unusedSimpArgs false
set_option linter.unusedSectionVars false
section
namespace Go.AM
theorem aXE {l:List Job} {j:Job} (h:key j∈l.map key):jT (Go.Proofs.YtegiblhkjfiooaaGreat.UB l) [j.who,j.n]=some 1:=by
 induction l with
 |nil=>simp at h
 |cons x l ih=>
  unfold jT Go.Proofs.YtegiblhkjfiooaaGreat.UB
  rw[List.map_cons,List.find?_cons]
  by_cases he:[j.who,j.n]=[x.who,x.n]
  ·simp[he]
  ·have h2:key j∈l.map key:=by
    rw[List.map_cons,List.mem_cons] at h
    rcases h with h|h
    ·exact absurd (by simp only[key,Prod.mk.injEq] at h;rw[h.1,h.2]) he
    ·exact h
   simp only[he,decide_false]
   exact ih h2
theorem aXB {α:Type} [Inhabited α] {l:List α} {i:Nat} (h:i<l.length):l=l.take i++l.getD i default::l.drop (i+1):=by
 have:l.getD i default=l[i]:=by simp[List.getD,h]
 rw[this,←List.drop_eq_getElem_cons h,List.take_append_drop]
end Go.AM
namespace Go.Proofs.YtegiblhkjfiooaaGreat
open Go Go.AM
set_option maxRecDepth 100000
set_option maxHeartbeats 16000000
section
variable {H : aA} {nx : Nat} {K : D → aA → Nat → Prop}
theorem aVZ (c:Cfg) (s:TSt) (hb:aQ c) (ht:aTQ s):aB Tryz.prog j9 [dA (cU c),dA (eSt s)] .nil 0 fun rr _ _=>rr.plain=true∧rr=dB (stB c s):=by
 refine GV rfl fun Q hQ=> ?_
 unfold mC
 obtain⟨hp3,hp12⟩:=hC hb
 obtain⟨t1,t2,t3,t4,aU1,aU2,aXK⟩:=ht
 have hd: ∀j∈s.wait++s.done++s.told,j.rsp.data.length<2^40:=fun j hj=>by have:=aXK j hj;omega
 by_cases h0:JS s.words s.holds∧(s.asked.length:Int)=3∧kW s.wait∧kW s.done
 case neg=>
  have hno: ¬BA c s:=fun hs=>h0 ⟨ZS hs.atm,by rw[hs.JI];rfl,hs.NR,hs.NW⟩
  repeat' (first| (with_reducible first| (refine hK _ _ _ ?_;clear hK K)| (refine hA ?_;clear hA hB A B)| (refine hB ?_;clear hA hB A B)|refine Z1 ?_|refine Z2 ?_|refine Z3 fun KB hKB=> ?_|refine Z6 (fun h=> ?_) fun h=> ?_)| (first| (with_reducible first|refine Y2 fun K hK=> ?_|refine Y3 fun A B hA hB=> ?_|refine Y6 (fun h=> ?_) fun h=> ?_)| (refine JZ (w:=s.words) (u:=s.holds) (by omega) (by omega) (aE rfl) ?_)| (refine IK (l:=s.wait) (by omega) (aE rfl) ?_)| (refine IK (l:=s.done) (by omega) (aE rfl) ?_))<;>(simp only[go_sem])| ((with_reducible refine Y8 ?_);try simp only[AQ.then,AQ.blk,reduceIte,Nat.reduceEqDiff])|fail)
  all_goals first|exact aZ hQ (dB false) rfl rfl (congrArg dB (aWH hno).symm)|exact absurd ⟨by simp_all,by omega,by simp_all,by simp_all⟩ h0
 obtain⟨hatm,hal,hwS,hdS⟩:=h0
 have hal:s.asked.length=3:=by omega
 have hsum3:=af9 hal
 repeat' (first| (with_reducible first| (refine hK _ _ _ ?_;clear hK K)| (refine hB ?_;clear hA hB A B)|refine Z1 ?_|refine Z2 ?_|refine Z3 fun KB hKB=> ?_)| (first| (with_reducible first|refine Y2 fun K hK=> ?_|refine Y3 fun A B hA hB=> ?_|refine Y5 (by omega) ?_)| (refine JZ (w:=s.words) (u:=s.holds) (by omega) (by omega) (aE rfl) ?_)| (refine IK (l:=s.wait) (by omega) (aE rfl) ?_)| (refine IK (l:=s.done) (by omega) (aE rfl) ?_))<;>(simp only[go_sem,eq_true hatm,eq_true hwS,eq_true hdS])|fail)
 (have hKX:=hKB;clear hKB)
 refine aM.sG 0 (β:=Nat) (fun b k=>en [(38,dI k),(37,dI s.asked.length),(36,dS (s.asked.map aJ)),(5,dI (s.asked.take k).sum),(3,.one (.c (.fQ (eSt s)))),(2,.one (.c (.fQ (cU c))))]) (fun b k=>.nil) (fun k=>k≤3∧(0≤(s.asked.take k).sum∧(s.asked.take k).sum≤12*k)∧ ∀i,i<k→0≤s.asked.getD i default∧s.asked.getD i default≤(c.cP.getD i default).length) (fun k=>3-k) 0 (bU (Nat.le_refl _) (by repeat' (first| (with_reducible first|exact C1|refine C2 ?_ ?_)| ((with_reducible refine D0 ?_);first|exact CA rfl|exact CI rfl (by simp) rfl rfl rfl)|fail))) ⟨by omega,by simp,fun i hi=>by omega⟩ ?_
 rintro k ⟨hk,⟨h1,h2⟩,hinv⟩ KL hKL
 by_cases hlt:k<3
 ·have hst:=alS (l:=s.asked) (k:=k) (by omega)
  have hpk:=hp12 k
  repeat' (first| (with_reducible first| (refine hK _ _ _ ?_;clear hK K)| (refine hA ?_;clear hA hB A B)| (refine hB ?_;clear hA hB A B)|refine Z1 ?_|refine Z2 ?_|refine Z3 fun KB hKB=> ?_|refine Z4 (by omega) ?_|refine Z6 (fun h=> ?_) fun h=> ?_)| (first| (with_reducible first|refine Y2 fun K hK=> ?_|refine Y3 fun A B hA hB=> ?_)| (with_reducible refine fE ?_))<;>(simp only[go_sem];try simp (disch:=omega) only[Iw])| ((with_reducible refine Y8 ?_);try simp only[AQ.then,AQ.blk,reduceIte,Nat.reduceEqDiff])| ((with_reducible refine Y0 ?_);simp only[AQ.then,AQ.blk])|refine⟨by omega,?_⟩| (with_reducible refine hKB _ _ _ ?_)|fail)
  ·exact aZ hQ (dB false) rfl rfl (congrArg dB (aWH fun hs=>by have:=hs.DC k hlt;omega).symm)
  ·exact hKL _ _ _ (k+1) (by omega) (by rw[hst];exact bU (by omega) (by repeat' (first| (with_reducible first|exact C1|refine C2 ?_ ?_)| ((with_reducible refine D0 ?_);exact CA rfl)|fail))) ⟨by omega,by rw[hst];omega,iS hinv (by omega)⟩ (by omega)
 have hk3:k=3:=by omega
 subst hk3
 have hask:aTF c s.asked:=hinv
 have hab: ∀i,0≤s.asked.getD i default∧s.asked.getD i default≤12:=fun i=>by
  by_cases hi:i<3
  ·have h1:=hask i hi;have h2:=hp12 i;omega
  ·have:s.asked.getD i default=0:=by simp[List.getD,show s.asked.length≤i by omega]
   omega
 repeat' (first| (with_reducible first| (refine hK _ _ _ ?_;clear hK K)| (refine hB ?_;clear hA hB A B)|refine Z1 ?_|refine Z3 fun KB hKB=> ?_|refine Z5 (by omega) ?_|refine hKX _ _ _ ?_)| (with_reducible first|refine Y2 fun K hK=> ?_|refine Y3 fun A B hA hB=> ?_)<;>(simp only[go_sem])| ((with_reducible refine Y9 ?_);try simp only[AQ.then,AQ.blk,reduceIte,Nat.reduceEqDiff])|fail)
 (have hKY:=hKB;clear hKB)
 obtain⟨LL,hLL⟩: ∃LL:List TE,LL=[s.wait,s.done,s.told]:=⟨_,rfl⟩
 have hLl:LL.length=3:=by subst hLL;rfl
 have hLr:[[D1.isl (s.wait.map aS)],[D1.isl (s.done.map aS)],[D1.isl (s.told.map aS)]]=LL.map IF:=by subst hLL;rfl
 obtain⟨seen,hse⟩: ∃seen:Nat→List Job,seen=fun k=>(LL.take k).flatten:=⟨_,rfl⟩
 have hs0:seen 0=[]:=by subst hse;rfl
 have hs3:seen 3=s.wait++s.done++s.told:=by subst hse;subst hLL;simp
 have hss: ∀k,k<3→seen (k+1)=seen k++LL.getD k default:=fun k hk=>by
  subst hse
  simp only
  rw[List.take_succ_eq_append_getElem (by omega),List.flatten_append]
  simp[List.getD,show k<LL.length by omega]
 have hsk: ∀k,k<3→∃r,seen 3=seen k++LL.getD k default++r:=fun k hk=>by
  have:k=0∨k=1∨k=2:=by omega
  rcases this with rfl|rfl|rfl
  ·exact⟨LL.getD 1 default++LL.getD 2 default,by rw[hss 2 (by omega),hss 1 (by omega),hss 0 (by omega),List.append_assoc]⟩
  ·exact⟨LL.getD 2 default,by rw[hss 2 (by omega),hss 1 (by omega)]⟩
  ·exact⟨[],by rw[hss 2 (by omega),List.append_nil]⟩
 have hmem: ∀k,k<3→∀j∈LL.getD k default,j∈s.wait++s.done++s.told:=fun k hk j hj=>by
  obtain⟨r,hr⟩:=hsk k hk
  rw[←hs3,hr];exact List.mem_append_left _ (List.mem_append_right _ hj)
 have hL0:LL.getD 0 default=s.wait:=by subst hLL;rfl
 have hL12: ∀j,j∈s.done++s.told↔∃k,(k=1∨k=2)∧j∈LL.getD k default:=fun j=>by
  subst hLL
  constructor
  ·intro h
   rcases List.mem_append.1 h with h|h
   ·exact⟨1,.inl rfl,h⟩
   ·exact⟨2,.inr rfl,h⟩
  ·rintro⟨k,rfl|rfl,h⟩
   ·exact List.mem_append_left _ h
   ·exact List.mem_append_right _ h
 have hLs: ∀k,k<3→(LL.getD k default).length<2^20:=fun k hk=>by
  have:k=0∨k=1∨k=2:=by omega
  subst hLL
  rcases this with rfl|rfl|rfl<;>(simp[List.getD];omega)
 have hsl: ∀k,k≤3→(seen k).length≤k*2^20:=fun k hk=>by
  have e1:=hLs 0 (by omega);have e2:=hLs 1 (by omega);have e3:=hLs 2 (by omega)
  have f1:(seen 1).length=(LL.getD 0 default).length:=by rw[hss 0 (by omega),hs0,List.nil_append]
  have f2:(seen 2).length=(seen 1).length+(LL.getD 1 default).length:=by rw[hss 1 (by omega),List.length_append]
  have f3:(seen 3).length=(seen 2).length+(LL.getD 2 default).length:=by rw[hss 2 (by omega),List.length_append]
  have:k=0∨k=1∨k=2∨k=3:=by omega
  rcases this with rfl|rfl|rfl|rfl
  ·rw[hs0];simp
  ·omega
  ·omega
  ·omega
 rw[hLr]
 clear hLr hLL hse
 refine aM.sG 1 (β:=Nat) (fun b k=>en [(65,dI k),(64,dI 3),(63,dS (LL.map IF)),(8,.one (.c (.omap b))),(5,dI (s.asked.take 3).sum),(3,.one (.c (.fQ (eSt s)))),(2,.one (.c (.fQ (cU c))))]) (fun b k=>hp [(b,u4 ⟨2,true,UB (seen k)⟩)])
  (fun k=>k≤3∧(∀j∈seen k,InA s.asked j)∧((seen k).map key).Nodup∧(0<k→∀j∈s.wait,j.rsp=oW)∧ ∀i,i<k→0<i→∀j∈LL.getD i default,as5 c j) (fun k=>3-k) 0 ?_ ⟨by omega,fun j hj=>by rw[hs0] at hj;simp at hj,by rw[hs0];simp,fun h=>by omega,fun i hi=>by omega⟩ ?_
 ·refine cR [31] (by omega) ?_ ⟨⟨by simp,by simp[sgL],_,rfl,GH (by rw[hs0];rfl)⟩,trivial⟩ (by simp[sgL])
  refine oF (oF (oF (oF (oF (oF (oF K6 ?_) ?_) ?_) ?_) ?_) ?_) ?_
  all_goals first
   |exact DJ (rows:=LL.map IF) (aG al7 LL) (by simp;omega) (by simp) rfl rfl (List.take_of_length_le (by simp)) (by simp;omega)
   |exact apS (aa6 (by omega) rfl)
   | (repeat' ((with_reducible refine D0 ?_);exact CA rfl);done)
 rintro k ⟨hk,hI1,hI2,hI3,hI4⟩ KM hKM
 by_cases hlt:k<3
 ·have hss1:=hss k hlt
  have hmm:=hmem k hlt
  have hlk:=hLs k hlt
  obtain⟨rest,hrest⟩:=hsk k hlt
  have hc0:k=0→LL.getD k default=s.wait:=fun h=>by rw[h];exact hL0
  have hc1:0<k→∀j∈LL.getD k default,j∈s.done++s.told:=fun h j hj=>(hL12 j).2 ⟨k,by omega,hj⟩
  have hI4': ∀i,i<k→0<i→∀j∈LL.getD i default,as5 c j:=hI4
  have hI5:(∀j∈LL.getD k default,as5 c j)→∀i,i<k+1→0<i→∀j∈LL.getD i default,as5 c j:=fun h i hi h0=>by
   rcases Nat.lt_succ_iff_lt_or_eq.1 hi with h2|h2
   ·exact hI4 i h2 h0
   ·subst h2;exact h
  generalize hcur:LL.getD k default=cur at hss1 hmm hlk hc0 hc1 hrest hI5
  repeat' (first| (with_reducible first| (refine hK _ _ _ ?_;clear hK K)| (refine hA ?_;clear hA hB A B)|refine Z1 ?_|refine Z2 ?_|refine Z3 fun KB hKB=> ?_|refine Z4 (by omega) ?_)| (with_reducible first|refine Y2 fun K hK=> ?_|refine Y3 fun A B hA hB=> ?_)<;>(simp only[go_sem,hcur])|refine⟨by omega,?_⟩|fail)
  (have hKZ:=hKB;clear hKB)
  refine aM.sG 1 (β:=Nat) (fun b i=>en [(72,dI i),(71,dI cur.length),(70,dS (cur.map aS)),(65,dI k),(64,dI 3),(63,dS (LL.map IF)),(9,dI k),(8,.one (.c (.omap b))),(5,dI (s.asked.take 3).sum),(3,.one (.c (.fQ (eSt s)))),(2,.one (.c (.fQ (cU c))))]) (fun b i=>hp [(b,u4 ⟨2,true,UB (seen k++cur.take i)⟩)])
   (fun i=>i≤cur.length∧(∀j∈seen k++cur.take i,InA s.asked j)∧((seen k++cur.take i).map key).Nodup∧ ∀j∈cur.take i,if k=0 then j.rsp=oW else as5 c j) (fun i=>cur.length-i) 0 (by(refine cR [42] (by omega) (by repeat' (first| (with_reducible first|exact C1|refine C2 ?_ ?_)| ((with_reducible refine C0 ?_);exact CR (by omega) rfl)| ((with_reducible refine D0 ?_);first|exact CA rfl|refine CJ ?_)|fail)) ⟨⟨by simp,by simp[sgL],_,rfl,GH (by simp)⟩,trivial⟩ (by simp[sgL]))) ⟨by omega,by simpa using hI1,by simpa using hI2,by simp⟩ ?_
  rintro i ⟨hi,hJ1,hJ2,hJ3⟩ KN hKN
  by_cases hil:i<cur.length
  ·have hjc:=cC hil
   have hjm:=hmm _ hjc
   have hjd:=hd _ hjm
   have hts:cur.take (i+1)=cur.take i++[cur.getD i default]:=by rw[List.take_succ_eq_append_getElem hil];simp[List.getD,hil]
   have hall:s.wait++s.done++s.told=(seen k++cur.take i)++cur.getD i default::(cur.drop (i+1)++rest):=by
    rw[←hs3,hrest,List.append_assoc,List.append_assoc,←List.cons_append,←List.append_assoc (cur.take i),←aXB hil]
   have hw0:k=0→cur.getD i default∈s.wait:=fun h=>by rw[←hc0 h];exact hjc
   have hw1:0<k→cur.getD i default∈s.done++s.told:=fun h=>hc1 h _ hjc
   generalize hjj:cur.getD i default=j at*
   have hno1: ¬InA s.asked j→¬BA c s:=fun h hs=>h (hs.inA j hjm)
   have hno2:key j∈(seen k++cur.take i).map key→¬BA c s:=fun h hs=>by
    have hn:=hs.nodup
    unfold keys at hn
    rw[hall,List.map_append] at hn
    exact(List.nodup_append.1 hn).2.2 _ h _ (by simp) rfl
   by_cases hin:InA s.asked j
   case neg=>
    unfold InA at hin
    have hal3:(s.asked.length:Int)=3:=by omega
    have har:=hab j.who.toNat
    have hpk:=hp12 j.who.toNat
    repeat' (first| (with_reducible first| (refine hK _ _ _ ?_;clear hK K)| (refine hA ?_;clear hA hB A B)|refine Z1 ?_|refine Z2 ?_|refine Z3 fun KB hKB=> ?_|refine Z4 (by omega) ?_)| (first| (with_reducible first|refine Y2 fun K hK=> ?_|refine Y3 fun A B hA hB=> ?_|refine Y4 (by omega) ?_|refine Y6 (fun h=> ?_) fun h=> ?_)| (with_reducible refine oR ?_)| (with_reducible refine fE ?_))<;>(simp only[go_sem,hjj];try simp (disch:=omega) only[Iw])| ((with_reducible refine Y8 ?_);try simp only[AQ.then,AQ.blk,reduceIte,Nat.reduceEqDiff])|refine⟨by omega,?_⟩|fail)
    all_goals first
     |exact aZ hQ (dB false) rfl rfl (congrArg dB (aWH (hno1 hin)).symm)
     | (exfalso;omega)
   have hni:key j∉(seen k++cur.take i).map key∨key j∈(seen k++cur.take i).map key:=(Classical.em _).symm
   have hJ1': ∀x∈seen k++cur.take (i+1),InA s.asked x:=fun x hx=>by
    rw[hts,←List.append_assoc] at hx
    rcases List.mem_append.1 hx with hx|hx
    ·exact hJ1 x hx
    ·simp at hx;subst hx;exact hin
   have hja:oA c j.who j.n:=by
    obtain⟨⟨q1,q2⟩,q3,q4⟩:=hin
    have:=hask j.who.toNat (by omega)
    exact⟨⟨q1,q2⟩,q3,by omega⟩
   obtain⟨⟨q1,q2⟩,q3,q4⟩:=hin
   have har:=hask j.who.toNat (by omega)
   have hpk:=hp12 j.who.toNat
   rcases hni with hni|hni
   case inr=>
    have hget:=aXE hni
    repeat' (first| (with_reducible first| (refine hK _ _ _ ?_;clear hK K)| (refine hA ?_;clear hA hB A B)|refine Z1 ?_|refine Z2 ?_|refine Z3 fun KB hKB=> ?_|refine Z4 (by omega) ?_)| (first| (with_reducible first|refine Y2 fun K hK=> ?_|refine Y3 fun A B hA hB=> ?_|refine Y5 (by omega) ?_)| (with_reducible refine oR ?_)| (with_reducible refine fE ?_))<;>(simp only[go_sem,hjj,hget,Option.getD_some];try simp (disch:=omega) only[Iw])| ((with_reducible refine Y8 ?_);try simp only[AQ.then,AQ.blk,reduceIte,Nat.reduceEqDiff])|refine⟨by omega,?_⟩|fail)
    all_goals exact aZ hQ (dB false) rfl rfl (congrArg dB (aWH (hno2 hni)).symm)
   have hget:=alK hni
   have hset:=alD hni
   have hJ2':((seen k++cur.take (i+1)).map key).Nodup:=by
    rw[hts,←List.append_assoc,List.map_append]
    refine List.nodup_append.2 ⟨hJ2,by simp,fun a ha b hb he=> ?_⟩
    simp at hb;subst hb;subst he;exact hni ha
   have hJ3':(if k=0 then j.rsp=oW else as5 c j)→∀x∈cur.take (i+1),if k=0 then x.rsp=oW else as5 c x:=fun h x hx=>by
    rw[hts] at hx
    rcases List.mem_append.1 hx with hx|hx
    ·exact hJ3 x hx
    ·simp at hx;subst hx;exact h
   by_cases hk0:k=0
   ·by_cases hjr:j.rsp=oW
    ·repeat' (first| (with_reducible first| (refine hK _ _ _ ?_;clear hK K)| (refine hA ?_;clear hA hB A B)| (refine hB ?_;clear hA hB A B)|refine Z1 ?_|refine Z2 ?_|refine Z3 fun KB hKB=> ?_|refine Z4 (by omega) ?_)| (first| (with_reducible first|refine Y2 fun K hK=> ?_|refine Y3 fun A B hA hB=> ?_|refine Y4 (by omega) ?_|refine Y5 (by omega) ?_)| (with_reducible refine oR ?_)| (with_reducible refine fE ?_)| (with_reducible refine HK hjd ?_))<;>(simp only[go_sem,hjj,hget,hset,Option.getD_none,eq_true hjr];try simp (disch:=omega) only[Iw])| ((with_reducible refine Y0 ?_);simp only[AQ.then,AQ.blk])|refine⟨by omega,?_⟩| (with_reducible refine hKB _ _ _ ?_)|fail)
     exact hKN _ _ _ (i+1) (by omega) (by(refine cR [52] (by omega) (by repeat' (first| (with_reducible first|exact C1|refine C2 ?_ ?_)| ((with_reducible refine C0 ?_);exact CR (by omega) rfl)| ((with_reducible refine D0 ?_);first|exact CA rfl|refine CJ ?_)|fail)) ⟨⟨by simp,by simp[sgL],_,rfl,GH (by rw[hts,List.append_assoc])⟩,trivial⟩ (by simp[sgL]))) ⟨by omega,hJ1',hJ2',hJ3' (by rw[if_pos hk0];exact hjr)⟩ (by omega)
    ·repeat' (first| (with_reducible first| (refine hK _ _ _ ?_;clear hK K)| (refine hA ?_;clear hA hB A B)| (refine hB ?_;clear hA hB A B)|refine Z1 ?_|refine Z2 ?_|refine Z3 fun KB hKB=> ?_|refine Z4 (by omega) ?_)| (first| (with_reducible first|refine Y2 fun K hK=> ?_|refine Y3 fun A B hA hB=> ?_|refine Y4 (by omega) ?_|refine Y5 (by omega) ?_)| (with_reducible refine oR ?_)| (with_reducible refine fE ?_)| (with_reducible refine HK hjd ?_))<;>(simp only[go_sem,hjj,hget,hset,Option.getD_none,eq_false hjr];try simp (disch:=omega) only[Iw])| ((with_reducible refine Y8 ?_);try simp only[AQ.then,AQ.blk,reduceIte,Nat.reduceEqDiff])|refine⟨by omega,?_⟩|fail)
     exact aZ hQ (dB false) rfl rfl (congrArg dB (aWH fun hs=>hjr (hs.P4 j (hw0 hk0))).symm)
   ·have hkp:0<k:=by omega
    have hno3: ¬as5 c j→¬BA c s:=fun h hs=>h (hs.R8 j (hw1 hkp))
    by_cases hjr:pA j.rsp
    ·repeat' (first| (with_reducible first| (refine hK _ _ _ ?_;clear hK K)| (refine hA ?_;clear hA hB A B)| (refine hB ?_;clear hA hB A B)|refine Z1 ?_|refine Z2 ?_|refine Z3 fun KB hKB=> ?_|refine Z4 (by omega) ?_|refine Z6 (fun h=> ?_) fun h=> ?_)| (first| (with_reducible first|refine Y2 fun K hK=> ?_|refine Y3 fun A B hA hB=> ?_|refine Y4 (by omega) ?_|refine Y5 (by omega) ?_)| (with_reducible refine oR ?_)| (with_reducible refine fE ?_)| (with_reducible refine I8 hjd ?_)| (with_reducible refine iJ hp3 hja ?_))<;>(simp only[go_sem,hjj,hget,hset,Option.getD_none,eq_true hjr];try simp (disch:=omega) only[Iw])| ((with_reducible refine Y8 ?_);try simp only[AQ.then,AQ.blk,reduceIte,Nat.reduceEqDiff])| ((with_reducible refine Y0 ?_);simp only[AQ.then,AQ.blk])|refine⟨by omega,?_⟩| (with_reducible refine hKB _ _ _ ?_)|fail)
     ·exact aZ hQ (dB false) rfl rfl (congrArg dB (aWH (hno3 fun h=>by have:=h.2;omega)).symm)
     ·exact hKN _ _ _ (i+1) (by omega) (by(refine cR [52] (by omega) (by repeat' (first| (with_reducible first|exact C1|refine C2 ?_ ?_)| ((with_reducible refine C0 ?_);exact CR (by omega) rfl)| ((with_reducible refine D0 ?_);first|exact CA rfl|refine CJ ?_)|fail)) ⟨⟨by simp,by simp[sgL],_,rfl,GH (by rw[hts,List.append_assoc])⟩,trivial⟩ (by simp[sgL]))) ⟨by omega,hJ1',hJ2',hJ3' (by rw[if_neg hk0];exact⟨hjr,by omega⟩)⟩ (by omega)
    ·repeat' (first| (with_reducible first| (refine hK _ _ _ ?_;clear hK K)| (refine hA ?_;clear hA hB A B)| (refine hB ?_;clear hA hB A B)|refine Z1 ?_|refine Z2 ?_|refine Z3 fun KB hKB=> ?_|refine Z4 (by omega) ?_)| (first| (with_reducible first|refine Y2 fun K hK=> ?_|refine Y3 fun A B hA hB=> ?_|refine Y4 (by omega) ?_|refine Y5 (by omega) ?_)| (with_reducible refine oR ?_)| (with_reducible refine fE ?_)| (with_reducible refine I8 hjd ?_))<;>(simp only[go_sem,hjj,hget,hset,Option.getD_none,eq_false hjr];try simp (disch:=omega) only[Iw])| ((with_reducible refine Y8 ?_);try simp only[AQ.then,AQ.blk,reduceIte,Nat.reduceEqDiff])|refine⟨by omega,?_⟩|fail)
     exact aZ hQ (dB false) rfl rfl (congrArg dB (aWH (hno3 fun h=>hjr h.1)).symm)
  ·have hi2:i=cur.length:=by omega
   subst hi2
   rw[List.take_length,←hss1] at hJ1 hJ2
   rw[List.take_length] at hJ3
   rw[List.take_length,←hss1]
   repeat' (first| (with_reducible first| (refine hK _ _ _ ?_;clear hK K)| (refine hB ?_;clear hA hB A B)|refine Z1 ?_|refine Z5 (by omega) ?_|refine hKZ _ _ _ ?_)| (with_reducible first|refine Y2 fun K hK=> ?_|refine Y3 fun A B hA hB=> ?_)<;>(simp only[go_sem];try simp (disch:=omega) only[Iw])| ((with_reducible refine Y9 ?_);try simp only[AQ.then,AQ.blk,reduceIte,Nat.reduceEqDiff])| ((with_reducible refine Y0 ?_);simp only[AQ.then,AQ.blk])| (with_reducible refine hKB _ _ _ ?_)|fail)
   refine hKM _ _ _ (k+1) (by omega) (by(refine cR [52] (by omega) (by repeat' (first| (with_reducible first|exact C1|refine C2 ?_ ?_)| ((with_reducible refine C0 ?_);exact CR (by omega) rfl)| ((with_reducible refine D0 ?_);first|exact CA rfl|refine CJ ?_)|fail)) ⟨⟨by simp,by simp[sgL],_,rfl,GH rfl⟩,trivial⟩ (by simp[sgL]))) ⟨by omega,hJ1,hJ2,fun _=> ?_,?_⟩ (by omega)
   ·by_cases hk0:k=0
    ·intro j hj
     have:=hJ3 j (by rw[hc0 hk0];exact hj)
     rwa [if_pos hk0] at this
    ·exact hI3 (by omega)
   ·intro i2 h1 h2
    by_cases hk0:k=0
    ·omega
    ·exact hI5 (fun j hj=>by have:=hJ3 j hj;rwa [if_neg hk0] at this) i2 h1 h2
 ·have hk3:k=3:=by omega
  subst hk3
  rw[hs3] at hI1 hI2
  have hl3:=congrArg List.length hs3
  rw[List.length_append,List.length_append] at hl3
  repeat' (first| (with_reducible first| (refine hK _ _ _ ?_;clear hK K)| (refine hB ?_;clear hA hB A B)|refine Z1 ?_|refine Z5 (by omega) ?_|refine hKY _ _ _ ?_)| (with_reducible first|refine Y2 fun K hK=> ?_|refine Y3 fun A B hA hB=> ?_)<;>(simp only[go_sem])| ((with_reducible first|refine Y8 ?_|refine Y9 ?_);try simp only[AQ.then,AQ.blk,reduceIte,Nat.reduceEqDiff])|fail)
  refine aZ hQ (dB (decide (((UB (seen 3)).length:Int)=(s.asked.take 3).sum))) rfl rfl (congrArg dB ?_)
  rw[amR]
  by_cases hcnt:((seen 3).length:Int)=(s.asked.take 3).sum
  ·rw[decide_eq_true hcnt]
   refine(aXJ (aUA hatm hal hask hwS hdS hI1 hI2 (by omega) (hI3 (by omega)) fun j hj=> ?_)).symm
   obtain⟨k,hk,hj⟩:=(hL12 j).1 hj
   exact hI4 k (by omega) (by omega) j hj
  ·rw[decide_eq_false hcnt]
   exact(aWH fun hs=>by have:=hs.count;omega).symm
theorem aVW {c:Cfg} {s:TSt} (hb:aQ c) (ht:aTQ s) (h:K (dB (stB c s)) H nx):aB Tryz.prog j9 [dA (cU c),dA (eSt s)] H nx K:=
 (aVZ c s hb ht).pure rfl (aI ⟨aE rfl,aE rfl,trivial⟩) (fun r hr=>hr▸h)
theorem aW4 (c:Cfg) (s:TSt) (hcf:jO c) (ht:aTQ s):aB Tryz.prog au7 [dA (cU c),dA (eSt s)] .nil 0 fun rr _ _=>rr.plain=true∧rr=dB (tlB c s):=by
 refine ayK rfl fun Q hQ=> ?_
 unfold av2
 by_cases hb:aQ c
 ·repeat' (first| (with_reducible first| (refine hK _ _ _ ?_;clear hK K)|refine Z1 ?_)| (first| (with_reducible refine Y2 fun K hK=> ?_)| (refine W6 hcf ?_)| (refine aVW hb ht ?_))<;>(simp only[go_sem,eq_true hb])| ((with_reducible refine Y8 ?_);try simp only[AQ.then,AQ.blk,reduceIte,Nat.reduceEqDiff])|fail)
  exact aZ hQ (dB (stB c s)) rfl rfl (congrArg dB (aXH hb).symm)
 ·repeat' (first| (with_reducible first| (refine hK _ _ _ ?_;clear hK K)|refine Z1 ?_)| (first| (with_reducible refine Y2 fun K hK=> ?_)| (refine W6 hcf ?_))<;>(simp only[go_sem,eq_false hb])| ((with_reducible refine Y8 ?_);try simp only[AQ.then,AQ.blk,reduceIte,Nat.reduceEqDiff])|fail)
  exact aZ hQ (dB false) rfl rfl (congrArg dB (aOH fun h=>hb h.1).symm)
theorem aV5 {c:Cfg} {s:TSt} (hcf:jO c) (ht:aTQ s) (h:K (dB (tlB c s)) H nx):aB Tryz.prog au7 [dA (cU c),dA (eSt s)] H nx K:=
 (aW4 c s hcf ht).pure rfl (aI ⟨aE rfl,aE rfl,trivial⟩) (fun r hr=>hr▸h)
end
end Go.Proofs.YtegiblhkjfiooaaGreat
end
section
namespace Go.Proofs.YtegiblhkjfiooaaGreat
open Go Go.AM
set_option maxRecDepth 100000
set_option maxHeartbeats 8000000
section
variable {H : aA} {nx : Nat} {K : D → aA → Nat → Prop}
theorem aRE (c:Cfg) (es:List Ev) (hb:aQ c) (hcf:jO c) (s0:TSt) (hs0:BA c s0) (hok: ∀{H:aA} {nx:Nat} {K:D→aA→Nat→Prop},K (dB true) H nx→aB Tryz.prog au7 [dA (cU c),dA (eSt s0)] H nx K) (hlen:es.length≤200):
 aB Tryz.prog auW [dA (cU c),dA (eSt s0),dS (es.map eEv)] .nil 0 fun r _ n=>n=0∧r.imm=true∧r= .tup [.agg (eSt (runM c s0 (es.take (b9 c s0 es)))),.c (cI (b9 c s0 es))]:=by
 refine axV rfl fun Q hQ=> ?_
 unfold avV
 have hSok:=fun k (hk:k≤b9 c s0 es)=>aPL hb hs0 hk
 have hSw:=fun k (hk:k<b9 c s0 es)=>aS0 hk
 have hSb:=aN8 (c:=c) (s:=s0) (l:=es)
 have hle:=aNZ (c:=c) (s:=s0) (l:=es)
 generalize b9 c s0 es=n at*
 obtain⟨hp3,hp12⟩:=hC hb
 repeat' (first| (with_reducible first| (refine hK _ _ _ ?_;clear hK K)| (refine hB ?_;clear hA hB A B)|refine Z1 ?_|refine Z2 ?_|refine Z3 fun KB hKB=> ?_|refine Z5 (by omega) ?_)| (first| (with_reducible first|refine Y2 fun K hK=> ?_|refine Y3 fun A B hA hB=> ?_)| (refine hok ?_)| (refine CM hb hs0 (fun m0 m1 m2 m3 m4 m5 hm=> ?_)))<;>(simp only[go_sem])|fail)
 (have hQX:=hKB;clear hKB)
 refine aM.sG 3 (β:=Nat×(Nat×Nat×Nat)×(Nat×Nat×Nat))
  (fun b u=>en [(25,dI u.1),(24,dI es.length),(23,dS (es.map eEv)),(8,dP 6 15),(6,dP 6 2),(3,dP 3 0),(2,dS (es.map eEv))])
  (fun b u=>hp [(0,⟨3,1,[cU c]⟩),(2,⟨6,1,[[.osl 0 0 0 0 0,.osl 0 0 0 0 0,.osl 0 0 0 0 0,.osl 0 0 0 0 0,.osl 0 0 0 0 0,.osl 0 0 0 0 0]]⟩),(15,⟨6,1,[oIm 17 18 19 b (b+1) (b+2) s0.words.length s0.holds.length s0.asked.length u.2.1.1 u.2.1.2.1 u.2.1.2.2 (runM c s0 (es.take u.1))]⟩),(17,⟨1,m0,(runM c s0 (es.take u.1)).words.map aJ⟩),(18,⟨1,m1,(runM c s0 (es.take u.1)).holds.map aJ⟩),(19,⟨1,m2,(runM c s0 (es.take u.1)).asked.map aJ⟩),(b,⟨5,u.2.2.1,(runM c s0 (es.take u.1)).wait.map aS⟩),((b+1),⟨5,u.2.2.2.1,(runM c s0 (es.take u.1)).done.map aS⟩),((b+2),⟨5,u.2.2.2.2,(runM c s0 (es.take u.1)).told.map aS⟩)])
  (fun u=>u.1≤n∧((runM c s0 (es.take u.1)).wait.length≤u.2.1.1∧(runM c s0 (es.take u.1)).done.length≤u.2.1.2.1∧(runM c s0 (es.take u.1)).told.length≤u.2.1.2.2)∧(u.2.1.1≤u.2.2.1∧u.2.1.2.1≤u.2.2.2.1∧u.2.1.2.2≤u.2.2.2.2))
  (fun u=>es.length-u.1) (0,(s0.wait.length,s0.done.length,s0.told.length),(m3,m4,m5))
  (by(refine cR [20,21,22,0,2,15,17,18,19] (by omega) (by repeat' (first| (with_reducible first|exact C1|refine C2 ?_ ?_)| ((with_reducible refine C0 ?_);exact CE (by omega) rfl)| ((with_reducible refine D0 ?_);first|exact CA rfl|refine CJ ?_)|fail)) ⟨⟨by simp,by simp[sgL],_,rfl,aP (GW fun x hx=>List.all_eq_true.1 (azD c).2 x hx)⟩,⟨by simp,by simp[sgL],_,rfl,aP (by repeat' (first| (with_reducible first|exact C3|refine C4 ?_ ?_)| ((with_reducible refine C0 ?_);exact CC)|fail))⟩,⟨by simp,by simp[sgL],_,rfl,aP (by unfold oIm;repeat' (first| (with_reducible first|exact C3|refine C4 ?_ ?_)| ((with_reducible refine C0 ?_);exact CQ (by omega) rfl rfl (by rfl) rfl)|fail))⟩,⟨by simp,by simp[sgL],_,rfl,bP (aG bF _) rfl rfl⟩,⟨by simp,by simp[sgL],_,rfl,bP (aG bF _) rfl rfl⟩,⟨by simp,by simp[sgL],_,rfl,bP (aG bF _) rfl rfl⟩,⟨by simp,by simp[sgL],_,rfl,bP (aG dZ _) rfl rfl⟩,⟨by simp,by simp[sgL],_,rfl,bP (aG dZ _) rfl rfl⟩,⟨by simp,by simp[sgL],_,rfl,bP (aG dZ _) rfl rfl⟩,trivial⟩ (by simp[sgL]))) ⟨Nat.zero_le _,⟨Nat.le_refl _,Nat.le_refl _,Nat.le_refl _⟩,hm.2.2.2⟩ ?_
 rintro⟨k,⟨c3,c4,c5⟩,⟨m3,m4,m5⟩⟩ ⟨hk,hcc,hmm⟩ KL hKL
 dsimp only at hk hcc hmm
 have hs:=hSok k hk
 have hstep:=fun hlt=>av6 (c:=c) (s:=s0) (l:=es) (k:=k) hlt
 have hw0:=hSw k
 generalize hS:runM c s0 (es.take k)=s at*
 have hlens:=hs.lens hb
 have hcl:s.words.length≤s0.words.length∧s.holds.length≤s0.holds.length∧s.asked.length≤s0.asked.length∧s.wait.length≤c3∧s.done.length≤c4∧s.told.length≤c5:=by
  rw[hs.atm.wl,hs0.atm.wl,hs.atm.hl,hs0.atm.hl,hs.JI,hs0.JI];exact⟨Nat.le_refl _,Nat.le_refl _,Nat.le_refl _,hcc⟩
 by_cases hlt:k<n
 ·have hw1:=hw0 hlt
  have hs2:=hstep (by omega)
  have hsk:=G9 hb hs hw1
  repeat' (first| (with_reducible first| (refine hK _ _ _ ?_;clear hK K)| (refine hA ?_;clear hA hB A B)| (refine hB ?_;clear hA hB A B)|refine Z1 ?_|refine Z2 ?_|refine Z3 fun KB hKB=> ?_|refine Z4 (by omega) ?_)| (first| (with_reducible first|refine Y2 fun K hK=> ?_|refine Y3 fun A B hA hB=> ?_)| (refine axC (c:=c) (s:=s) (e:=es.getD k default) hcf hp3 (hs.fit hb) (azA hcl rfl rfl rfl rfl rfl rfl trivial trivial trivial trivial trivial trivial) ?_)| (refine awO hb hs hw1 hcl hmm (by omega) (by simp) rfl rfl rfl rfl rfl rfl rfl (fun c3' c4' c5' m3' m4' m5' q1 q2=> ?_)))<;>(simp only[go_sem,hw1];try simp (disch:=omega) only[Iw])| ((with_reducible refine Y0 ?_);simp only[AQ.then,AQ.blk])|refine⟨by omega,?_⟩| (with_reducible refine hKB _ _ _ ?_)|fail)
  refine hKL _ _ _ (k+1,(c3',c4',c5'),(m3',m4',m5')) (by omega) ?_ ⟨by dsimp only;omega,by dsimp only;rw[hs2];exact q1,q2⟩ (by dsimp only;omega)
  dsimp only
  rw[hs2]
  have hl1:(lS c s (es.getD k default)).words.length=s.words.length:=by rw[hs.atm.wl,hsk.atm.wl]
  have hl2:(lS c s (es.getD k default)).holds.length=s.holds.length:=by rw[hs.atm.hl,hsk.atm.hl]
  have hl3:(lS c s (es.getD k default)).asked.length=s.asked.length:=by rw[hs.JI,hsk.JI]
  (refine cR [44,45,46,0,2,15,17,18,19] (by omega) (by repeat' (first| (with_reducible first|exact C1|refine C2 ?_ ?_)| ((with_reducible refine C0 ?_);exact CE (by omega) rfl)| ((with_reducible refine D0 ?_);first|exact CA rfl|refine CJ ?_)|fail)) ⟨⟨by simp,by simp[sgL],_,rfl,aP (GW fun x hx=>List.all_eq_true.1 (azD c).2 x hx)⟩,⟨by simp,by simp[sgL],_,rfl,aP (by repeat' (first| (with_reducible first|exact C3|refine C4 ?_ ?_)| ((with_reducible refine C0 ?_);exact CC)|fail))⟩,⟨by simp,by simp[sgL],_,rfl,aP (by unfold oIm;repeat' (first| (with_reducible first|exact C3|refine C4 ?_ ?_)| ((with_reducible refine C0 ?_);exact CQ (by omega) rfl rfl (by rfl) rfl)|fail))⟩,⟨by simp,by simp[sgL],_,rfl,bP (aG bF _) rfl rfl⟩,⟨by simp,by simp[sgL],_,rfl,bP (aG bF _) rfl rfl⟩,⟨by simp,by simp[sgL],_,rfl,bP (aG bF _) rfl rfl⟩,⟨by simp,by simp[sgL],_,rfl,bP (aG dZ _) rfl rfl⟩,⟨by simp,by simp[sgL],_,rfl,bP (aG dZ _) rfl rfl⟩,⟨by simp,by simp[sgL],_,rfl,bP (aG dZ _) rfl rfl⟩,trivial⟩ (by simp[sgL]))
 have hkn:k=n:=by omega
 subst hkn
 by_cases hkl:k=es.length
 ·repeat' (first| (with_reducible first| (refine hK _ _ _ ?_;clear hK K)| (refine hB ?_;clear hA hB A B)|refine Z1 ?_|refine Z5 (by omega) ?_)| (with_reducible first|refine Y2 fun K hK=> ?_|refine Y3 fun A B hA hB=> ?_)<;>(simp only[go_sem])| ((with_reducible refine Y9 ?_);try simp only[AQ.then,AQ.blk,reduceIte,Nat.reduceEqDiff])|fail)
  refine hQX _ _ _ ?_
  refine aM.aqB 0 (en [(8,.one (.c (.fQ (eSt s)))),(6,dP 6 2),(2,dS (es.map eEv))]) (hp [(2,⟨6,1,[[.osl 0 0 0 0 0,.osl 0 0 0 0 0,.osl 0 0 0 0 0,.osl 0 0 0 0 0,.osl 0 0 0 0 0,.osl 0 0 0 0 0]]⟩)]) ?_ ?_
  ·refine cR [2] (by omega) (oF (oF (oF K6 (aE rfl)) (DG (by omega) rfl)) (ay3 (σ:=id) (nh:=0) (azX s).2 (azA hcl rfl rfl rfl rfl rfl rfl (by simp) (by simp) (by simp) (by simp) (by simp) (by simp)) (by simp) rfl rfl rfl)) ?_ (by simp[sgL])
   exact⟨⟨by omega,by simp[sgL],_,rfl,aP (by repeat' (first| (with_reducible first|exact C3|refine C4 ?_ ?_)| ((with_reducible refine C0 ?_);exact CC)|fail))⟩,trivial⟩
  subst hkl
  repeat' (first| (with_reducible first| (refine hK _ _ _ ?_;clear hK K)|refine Z1 ?_)| (first| (with_reducible refine Y2 fun K hK=> ?_)| (refine CM hb hs (fun n0 n1 n2 n3 az7 az8 hn=> ?_)))<;>(simp only[go_sem])| ((with_reducible refine Y8 ?_);try simp only[AQ.then,AQ.blk,reduceIte,Nat.reduceEqDiff])|fail)
  exact V4 hQ (.tup [.agg (eSt s),.c (cI es.length)]) _ rfl (ay7 (ayY (azA ⟨Nat.le_refl _,Nat.le_refl _,Nat.le_refl _,Nat.le_refl _,Nat.le_refl _,Nat.le_refl _⟩ rfl rfl rfl rfl rfl rfl trivial trivial trivial trivial trivial trivial)) (azN (bB rfl))) rfl (by rw[hS])
 ·have hbad:=hSb (by omega)
  rw[hS] at hbad
  refine aM.aqB 0 (en [(25,dI k),(24,dI es.length),(23,dS (es.map eEv)),(8,.one (.c (.fQ (eSt s)))),(6,dP 6 2),(3,.one (.c (.fQ (cU c)))),(2,dS (es.map eEv))]) (hp [(2,⟨6,1,[[.osl 0 0 0 0 0,.osl 0 0 0 0 0,.osl 0 0 0 0 0,.osl 0 0 0 0 0,.osl 0 0 0 0 0,.osl 0 0 0 0 0]]⟩)]) ?_ ?_
  ·refine cR [2] (by omega) (oF (oF (oF (oF (oF (oF (oF K6 (aE rfl)) (aeE (azD c).2 (by simp) rfl rfl rfl)) (DG (by omega) rfl)) (ay3 (σ:=id) (nh:=0) (azX s).2 (azA hcl rfl rfl rfl rfl rfl rfl (by simp) (by simp) (by simp) (by simp) (by simp) (by simp)) (by simp) rfl rfl rfl)) (aE rfl)) (aE rfl)) (aE rfl)) ?_ (by simp[sgL])
   exact⟨⟨by omega,by simp[sgL],_,rfl,aP (by repeat' (first| (with_reducible first|exact C3|refine C4 ?_ ?_)| ((with_reducible refine C0 ?_);exact CC)|fail))⟩,trivial⟩
  repeat' (first| (with_reducible first| (refine hK _ _ _ ?_;clear hK K)| (refine hA ?_;clear hA hB A B)|refine Z1 ?_|refine Z2 ?_|refine Z3 fun KB hKB=> ?_|refine Z4 (by omega) ?_)| (first| (with_reducible first|refine Y2 fun K hK=> ?_|refine Y3 fun A B hA hB=> ?_)| (refine axC (c:=c) (s:=s) (e:=es.getD k default) hcf hp3 (hs.fit hb) (GW fun x hx=>List.all_eq_true.1 (azX s).2 x hx) ?_)| (refine CM hb hs (fun n0 n1 n2 n3 az7 az8 hn=> ?_)))<;>(simp only[go_sem])| ((with_reducible refine Y8 ?_);try simp only[AQ.then,AQ.blk,reduceIte,Nat.reduceEqDiff])|refine⟨by omega,?_⟩|fail)
  exact V4 hQ (.tup [.agg (eSt s),.c (cI k)]) _ rfl (ay7 (ayY (azA ⟨Nat.le_refl _,Nat.le_refl _,Nat.le_refl _,Nat.le_refl _,Nat.le_refl _,Nat.le_refl _⟩ rfl rfl rfl rfl rfl rfl trivial trivial trivial trivial trivial trivial)) (azN (bB rfl))) rfl (by rw[hS])
theorem aQT {c:Cfg} {es:List Ev} {s:TSt} (hb:aQ c) (hcf:jO c) (hs:BA c s) (hlen:es.length≤200) (h:K (.tup [.agg (eSt (runM c s (es.take (b9 c s es)))),.c (cI (b9 c s es))]) H nx):aB Tryz.prog auW [dA (cU c),dA (eSt s),dS (es.map eEv)] H nx K:=
 (aRE c es hb hcf s hs (fun h=>aPH hb hcf hs h) hlen).fresh rfl fun r hr=>hr▸h
end
end Go.Proofs.YtegiblhkjfiooaaGreat
end
section
namespace Go.Proofs.YtegiblhkjfiooaaGreat
open Go Go.AM
set_option maxRecDepth 100000
def aXR:AC:=
 (.seq (.region [rq 0 3 (.box true (.tm 0)),
 rq 1 4 (.box true (.tm 1)),
 rq 2 5 (.box true (.tm 2)),
 rq 3 6 (.alloc [OZ,OZ,OZ,OZ,OZ,OZ]),
 rq 4 7 (.move (.kv (.bool false)))] 5 [3,4,5,6])
 (.seq (.seq (.region [rq 0 10 (.load 3 true (.tm 3)),
 rq 1 11 (.load 6 true (.tm 4)),
 rq 2 12 (.call aI6 [(.tm 10),(.tm 11)]),
 rq 3 13 (.un .not (.tm 12))] 4 [3,4,5,6,13])
 (.cond (.tm 13)
 (.seq (.region [rq 0 14 (.build [OZ,OZ,OZ,OZ,OZ,OZ] []),
 rn 1 (.store 6 true (.tm 6) (.tm 14)),
 rq 2 7 (.move (.kv (.bool false)))] 3 [6,7])
 .ret)
 .skip))
 (.seq (.region [⟨0,(some 16),.load 3 true (.tm 3),none,[8],[],true⟩,
 ⟨1,(some 17),.load 6 true (.tm 4),none,[8],[],false⟩,
 ⟨3,(some 19),.load 3 true (.tm 5),none,[8],[],true⟩,
 rq 8 8 (.alloc [OZ,OZ,OZ,OZ,OZ,OZ]),
 ⟨2,(some 18),.call aI0 [(.tm 17)],none,[8],[0,3],false⟩,
 ⟨4,(some 20),.call v5 [(.tm 16),(.tm 18),(.tm 19)],none,[8],[],false⟩,
 RM 5 15 20,
 rq 6 21 (.ext (.tm 15) 0),
 rq 7 22 (.ext (.tm 15) 1),
 rn 9 (.store 6 true (.tm 8) (.tm 21)),
 RM 10 9 22] 11 [6,8,9])
 (.seq (.region [rq 0 23 (.load 6 true (.tm 8)),
 rq 1 24 (.call aI0 [(.tm 23)]),
 RM 2 25 9,
 rn 3 (.store 6 true (.tm 6) (.tm 24)),
 RM 4 7 25] 5 [6,7])
 .ret))))
def aX6:List Cert:=[⟨[],[3,4,5,6]⟩,⟨[],[3,4,5,6,13]⟩,⟨[],[6,7]⟩,⟨[(0,[8],[],true),(1,[8],[],false),(3,[8],[],true),cz 8,(2,[8],[0,3],false),(4,[8],[],false),cz 5,cz 6,cz 7,cz 9,cz 10],[6,8,9]⟩,⟨[],[6,7]⟩]
def aXT:List aW:=[.cell 6 6 true,.tm 7]
theorem aXW:aO Tryz.prog Tryz.f48 aX6=some (aXR,aXT):=by kernel_rfl
def aJP:AC:=
 (.seq (.region [rq 0 2 (.box true (.tm 0)),
 rq 1 3 (.box true (.tm 1)),
 rq 2 4 (.move (.kv (.bool false)))] 3 [2,3])
 (.seq (.seq (.region [rq 0 9 (.load 3 true (.tm 2)),
 rq 1 10 (.call aIV [(.tm 9)]),
 rq 2 11 (.un .not (.tm 10)),
 RM 3 12 11,
 GQ 4 13 (.fld 0 (.tm 3)) 12 false,
 GQ 5 14 (.load 2 true (.tm 13)) 12 false,
 GQ 6 15 (.call aIU [(.tm 14)]) 12 false,
 GQ 7 16 (.un .not (.tm 15)) 12 false,
 rq 8 17 (.pick (.tm 12) (.kv (.bool true)) (.tm 16)),
 RM 9 18 17,
 GQ 10 19 (.fld 2 (.tm 3)) 18 false,
 GQ 11 20 (.load 1 false (.tm 19)) 18 false,
 GQ 12 21 (.len false (.tm 20)) 18 false,
 GQ 13 22 (.bin .neq (.tm 21) (ki 3)) 18 false,
 rq 14 23 (.pick (.tm 18) (.kv (.bool true)) (.tm 22))] 15 [2,3,23])
 (.cond (.tm 23)
 (.seq (.region [rq 0 4 (.move (.kv (.bool false)))] 1 [4])
 .ret)
 .skip))
 (.seq (.region [rq 0 5 (.move (ki 0))] 1 [2,3,5])
 (.seq (.seq (.region [rq 0 6 (.move (ki 0))] 1 [2,3,5,6])
 (.block 0
 (.loop
 (.seq (.seq (.region [RM 0 24 6,
 rq 1 25 (.bin .lss (.tm 24) (ki 3))] 2 [2,3,5,6,25])
 (.cond (.tm 25)
 .skip
 (.exit 0)))
 (.seq (.block 1
 (.seq (.seq (.region [RF 0 28 2 3,
 RL 1 29 28,
 RM 2 30 6,
 rq 3 31 (.idx 1 (.tm 29) (.tm 30)),
 RL 4 32 31,
 RF 5 33 2 2,
 RL 6 34 33,
 RM 7 35 6,
 rq 8 36 (.idx 1 (.tm 34) (.tm 35)),
 RL 9 37 36,
 rq 10 38 (.len false (.tm 37)),
 rq 11 39 (.call y2 [(.tm 32),(ki 0),(.tm 38)]),
 rq 12 40 (.un .not (.tm 39))] 13 [2,3,5,6,40])
 (.cond (.tm 40)
 (.seq (.region [rq 0 4 (.move (.kv (.bool false)))] 1 [4])
 .ret)
 .skip))
 (.region [RM 0 41 5,
 RF 1 42 2 3,
 RL 2 43 42,
 RM 3 44 6,
 rq 4 45 (.idx 1 (.tm 43) (.tm 44)),
 RL 5 46 45,
 rq 6 47 (.bin .add (.tm 41) (.tm 46)),
 RM 7 5 47] 8 [2,3,5,6])))
 (.region [RM 0 26 6,
 rq 1 27 (.bin .add (.tm 26) (ki 1)),
 RM 2 6 27] 3 [2,3,5,6]))))))
 (.seq (.seq (.region [rq 0 48 (.load 3 true (.tm 2)),
 RF 1 49 2 3,
 RL 2 50 49,
 RF 3 51 3 3,
 RL 4 52 51,
 rq 5 53 (.call aIQ [(.tm 48),(.tm 50),(.tm 52),(.kv (.bool false))]),
 rq 6 54 (.un .not (.tm 53)),
 RM 7 55 54,
 GQ 8 56 (.load 3 true (.tm 2)) 55 false,
 GQ 9 57 (.fld 2 (.tm 3)) 55 false,
 GQ 10 58 (.load 1 false (.tm 57)) 55 false,
 GQ 11 59 (.fld 4 (.tm 3)) 55 false,
 GQ 12 60 (.load 1 false (.tm 59)) 55 false,
 GQ 13 61 (.call aIQ [(.tm 56),(.tm 58),(.tm 60),(.kv (.bool true))]) 55 false,
 GQ 14 62 (.un .not (.tm 61)) 55 false,
 rq 15 63 (.pick (.tm 55) (.kv (.bool true)) (.tm 62)),
 RM 16 64 63,
 GQ 17 65 (.load 3 true (.tm 2)) 64 false,
 GQ 18 66 (.load 6 true (.tm 3)) 64 false,
 GQ 19 67 (.call aIX [(.tm 65),(.tm 66)]) 64 false,
 GQ 20 68 (.un .not (.tm 67)) 64 false,
 rq 21 69 (.pick (.tm 64) (.kv (.bool true)) (.tm 68)),
 RM 22 70 69,
 GQ 23 71 (.fld 3 (.tm 3)) 70 false,
 GQ 24 72 (.load 1 false (.tm 71)) 70 false,
 GQ 25 73 (.len false (.tm 72)) 70 false,
 GQ 26 74 (.fld 4 (.tm 3)) 70 false,
 GQ 27 75 (.load 1 false (.tm 74)) 70 false,
 GQ 28 76 (.len false (.tm 75)) 70 false,
 GQ 29 77 (.bin .add (.tm 73) (.tm 76)) 70 false,
 GQ 30 78 (.fld 5 (.tm 3)) 70 false,
 GQ 31 79 (.load 1 false (.tm 78)) 70 false,
 GQ 32 80 (.len false (.tm 79)) 70 false,
 GQ 33 81 (.bin .add (.tm 77) (.tm 80)) 70 false,
 GQ 34 82 (.move (.tm 5)) 70 false,
 GQ 35 83 (.bin .neq (.tm 81) (.tm 82)) 70 false,
 rq 36 84 (.pick (.tm 70) (.kv (.bool true)) (.tm 83))] 37 [3,84])
 (.cond (.tm 84)
 (.seq (.region [rq 0 4 (.move (.kv (.bool false)))] 1 [4])
 .ret)
 .skip))
 (.seq (.seq (.region [rq 0 7 (.move (ki 0))] 1 [3,7])
 (.block 2
 (.loop
 (.seq (.seq (.region [RM 0 85 7,
 RF 1 86 5 3,
 RL 2 87 86,
 rq 3 88 (.len false (.tm 87)),
 rq 4 89 (.bin .lss (.tm 85) (.tm 88))] 5 [3,7,89])
 (.cond (.tm 89)
 .skip
 (.exit 2)))
 (.seq (.block 3
 (.seq (.region [RF 0 92 3 3,
 RL 1 93 92,
 RF 2 94 5 3,
 RL 3 95 94,
 RM 4 96 7,
 rq 5 97 (.idx 5 (.tm 95) (.tm 96)),
 RF 6 98 0 97,
 RL 7 99 98,
 RF 8 100 5 3,
 RL 9 101 100,
 RM 10 102 7,
 rq 11 103 (.idx 5 (.tm 101) (.tm 102)),
 RF 12 104 1 103,
 RL 13 105 104,
 rq 14 106 (.call aIN [(.tm 93),(.tm 99),(.tm 105)]),
 rq 15 107 (.bin .geq (.tm 106) (ki 0)),
 RM 16 108 107,
 GQ 17 109 (.fld 4 (.tm 3)) 108 false,
 GQ 18 110 (.load 1 false (.tm 109)) 108 false,
 GQ 19 111 (.fld 5 (.tm 3)) 108 false,
 GQ 20 112 (.load 1 false (.tm 111)) 108 false,
 GQ 21 113 (.move (.tm 7)) 108 false,
 GQ 22 114 (.idx 5 (.tm 112) (.tm 113)) 108 false,
 GQ 23 115 (.fld 0 (.tm 114)) 108 false,
 GQ 24 116 (.load 1 false (.tm 115)) 108 false,
 GQ 25 117 (.fld 5 (.tm 3)) 108 false,
 GQ 26 118 (.load 1 false (.tm 117)) 108 false,
 GQ 27 119 (.move (.tm 7)) 108 false,
 GQ 28 120 (.idx 5 (.tm 118) (.tm 119)) 108 false,
 GQ 29 121 (.fld 1 (.tm 120)) 108 false,
 GQ 30 122 (.load 1 false (.tm 121)) 108 false,
 GQ 31 123 (.call aIN [(.tm 110),(.tm 116),(.tm 122)]) 108 false,
 GQ 32 124 (.bin .geq (.tm 123) (ki 0)) 108 false,
 rq 33 125 (.pick (.tm 108) (.kv (.bool true)) (.tm 124))] 34 [3,7,125])
 (.cond (.tm 125)
 (.seq (.region [rq 0 4 (.move (.kv (.bool false)))] 1 [4])
 .ret)
 .skip)))
 (.region [RM 0 90 7,
 rq 1 91 (.bin .add (.tm 90) (ki 1)),
 RM 2 7 91] 3 [3,7]))))))
 (.seq (.seq (.region [rq 0 8 (.move (ki 0))] 1 [3,8])
 (.block 4
 (.loop
 (.seq (.seq (.region [RM 0 126 8,
 RF 1 127 4 3,
 RL 2 128 127,
 rq 3 129 (.len false (.tm 128)),
 rq 4 130 (.bin .lss (.tm 126) (.tm 129))] 5 [3,8,130])
 (.cond (.tm 130)
 .skip
 (.exit 4)))
 (.seq (.block 5
 (.seq (.region [RF 0 133 3 3,
 RL 1 134 133,
 RF 2 135 4 3,
 RL 3 136 135,
 RM 4 137 8,
 rq 5 138 (.idx 5 (.tm 136) (.tm 137)),
 RF 6 139 0 138,
 RL 7 140 139,
 RF 8 141 4 3,
 RL 9 142 141,
 RM 10 143 8,
 rq 11 144 (.idx 5 (.tm 142) (.tm 143)),
 RF 12 145 1 144,
 RL 13 146 145,
 rq 14 147 (.call aIN [(.tm 134),(.tm 140),(.tm 146)]),
 rq 15 148 (.bin .geq (.tm 147) (ki 0))] 16 [3,8,148])
 (.cond (.tm 148)
 (.seq (.region [rq 0 4 (.move (.kv (.bool false)))] 1 [4])
 .ret)
 .skip)))
 (.region [RM 0 131 8,
 rq 1 132 (.bin .add (.tm 131) (ki 1)),
 RM 2 8 132] 3 [3,8]))))))
 (.seq (.region [rq 0 4 (.move (.kv (.bool true)))] 1 [4])
 .ret))))))))
def aMI:List Cert:=[⟨[],[2,3]⟩,⟨[],[2,3,23]⟩,⟨[],[4]⟩,⟨[],[2,3,5]⟩,⟨[],[2,3,5,6]⟩,⟨[],[2,3,5,6,25]⟩,⟨[cz 0,cz 1,cz 2,cz 3,cz 4,cz 5,cz 6,cz 7,cz 8,cz 9,cz 10,cz 11,cz 12],[2,3,5,6,40]⟩,⟨[],[4]⟩,⟨[],[2,3,5,6]⟩,⟨[],[2,3,5,6]⟩,⟨[],[3,84]⟩,⟨[],[4]⟩,⟨[],[3,7]⟩,⟨[],[3,7,89]⟩,⟨[cz 0,cz 1,cz 2,cz 3,cz 4,cz 5,cz 6,cz 7,cz 8,cz 9,cz 10,cz 11,cz 12,cz 13,cz 14,cz 15,cz 16,cz 17,cz 18,cz 19,cz 20,cz 21,cz 22,cz 23,cz 24,cz 25,cz 26,cz 27,cz 28,cz 29,cz 30,cz 31,cz 32,cz 33],[3,7,125]⟩,⟨[],[4]⟩,⟨[],[3,7]⟩,⟨[],[3,8]⟩,⟨[],[3,8,130]⟩,⟨[cz 0,cz 1,cz 2,cz 3,cz 4,cz 5,cz 6,cz 7,cz 8,cz 9,cz 10,cz 11,cz 12,cz 13,cz 14,cz 15],[3,8,148]⟩,⟨[],[4]⟩,⟨[],[3,8]⟩,⟨[],[4]⟩]
def aKC:List aW:=[.tm 4]
theorem aMJ:aO Tryz.prog Tryz.f50 aMI=some (aJP,aKC):=by kernel_rfl
theorem aMM:aN Tryz.prog aI6 Tryz.f50 aJP aKC:=
 aN.mk Tryz.func50 (by kernel_rfl) aMJ
def aYO:AC:=
 (.seq (.region [rq 0 3 (.box true (.tm 0)),
 rq 1 4 (.box true (.tm 1)),
 rq 2 6 (.alloc [OZ,OZ,OZ,OZ,OZ,OZ]),
 rq 3 7 (.move (ki 0))] 4 [2,3,4,6])
 (.seq (.seq (.region [rq 0 12 (.load 3 true (.tm 3)),
 rq 1 13 (.load 6 true (.tm 4)),
 rq 2 14 (.call aI6 [(.tm 12),(.tm 13)]),
 rq 3 15 (.un .not (.tm 14)),
 RM 4 16 15,
 GQ 5 17 (.move (.tm 2)) 16 false,
 GQ 6 18 (.len false (.tm 17)) 16 false,
 GQ 7 19 (.bin .gtr (.tm 18) (ki 200)) 16 false,
 rq 8 20 (.pick (.tm 16) (.kv (.bool true)) (.tm 19))] 9 [2,3,4,6,20])
 (.cond (.tm 20)
 (.seq (.region [rq 0 21 (.build [OZ,OZ,OZ,OZ,OZ,OZ] []),
 rn 1 (.store 6 true (.tm 6) (.tm 21)),
 rq 2 7 (.move (.kv (.int .i64 (-1))))] 3 [6,7])
 .ret)
 .skip))
 (.seq (.region [rq 0 22 (.load 6 true (.tm 4)),
 rq 1 23 (.call aI0 [(.tm 22)]),
 rq 2 8 (.alloc [OZ,OZ,OZ,OZ,OZ,OZ]),
 rn 3 (.store 6 true (.tm 8) (.tm 23))] 4 [2,3,6,8])
 (.seq (.seq (.region [rq 0 9 (.move (ki 0))] 1 [2,3,6,8,9])
 (.block 0
 (.loop
 (.seq (.seq (.region [RM 0 24 9,
 RM 1 25 2,
 rq 2 26 (.len false (.tm 25)),
 rq 3 27 (.bin .lss (.tm 24) (.tm 26))] 4 [2,3,6,8,9,27])
 (.cond (.tm 27)
 .skip
 (.exit 0)))
 (.seq (.block 1
 (.seq (.region [⟨0,(some 31),.load 3 true (.tm 3),none,[10],[],false⟩,
 ⟨1,(some 32),.load 6 true (.tm 8),none,[10],[],false⟩,
 RM 2 33 2,
 RM 3 34 9,
 rq 4 35 (.idx 3 (.tm 33) (.tm 34)),
 ⟨5,(some 36),.load 3 true (.tm 35),none,[10],[],false⟩,
 rq 10 10 (.alloc [OZ,OZ,OZ,OZ,OZ,OZ]),
 ⟨6,(some 37),.call v5 [(.tm 31),(.tm 32),(.tm 36)],none,[10],[],false⟩,
 RM 7 30 37,
 rq 8 38 (.ext (.tm 30) 0),
 rq 9 39 (.ext (.tm 30) 1),
 rn 11 (.store 6 true (.tm 10) (.tm 38)),
 RM 12 11 39] 13 [2,3,6,8,9,10,11])
 (.seq (.seq (.region [RM 0 40 11,
 rq 1 41 (.un .not (.tm 40))] 2 [2,3,6,8,9,10,41])
 (.cond (.tm 41)
 (.seq (.region [rq 0 42 (.load 6 true (.tm 10)),
 rq 1 43 (.call aI0 [(.tm 42)]),
 RM 2 44 9,
 rn 3 (.store 6 true (.tm 6) (.tm 43)),
 RM 4 7 44] 5 [6,7])
 .ret)
 .skip))
 (.region [rq 0 45 (.load 6 true (.tm 10)),
 rn 1 (.store 6 true (.tm 8) (.tm 45))] 2 [2,3,6,8,9]))))
 (.region [RM 0 28 9,
 rq 1 29 (.bin .add (.tm 28) (ki 1)),
 RM 2 9 29] 3 [2,3,6,8,9]))))))
 (.seq (.region [rq 0 46 (.load 6 true (.tm 8)),
 rq 1 47 (.call aI0 [(.tm 46)]),
 RM 2 48 2,
 rq 3 49 (.len false (.tm 48)),
 rn 4 (.store 6 true (.tm 6) (.tm 47)),
 RM 5 7 49] 6 [6,7])
 .ret)))))
def aZA:List Cert:=[⟨[],[2,3,4,6]⟩,⟨[],[2,3,4,6,20]⟩,⟨[],[6,7]⟩,⟨[],[2,3,6,8]⟩,⟨[],[2,3,6,8,9]⟩,⟨[],[2,3,6,8,9,27]⟩,⟨[(0,[10],[],false),(1,[10],[],false),cz 2,cz 3,cz 4,(5,[10],[],false),cz 10,(6,[10],[],false),cz 7,cz 8,cz 9,cz 11,cz 12],[2,3,6,8,9,10,11]⟩,⟨[],[2,3,6,8,9,10,41]⟩,⟨[],[6,7]⟩,⟨[],[2,3,6,8,9]⟩,⟨[],[2,3,6,8,9]⟩,⟨[],[6,7]⟩]
def aYT:List aW:=[.cell 6 6 true,.tm 7]
theorem aYW:aO Tryz.prog Tryz.f54 aZA=some (aYO,aYT):=by kernel_rfl
theorem aZC:aN Tryz.prog aYN Tryz.f54 aYO aYT:=
 aN.mk Tryz.func54 (by kernel_rfl) aYW
def aI9:AC:=
 (.seq (.region [rq 0 4 (.box true (.tm 0)),
 rq 1 8 (.move (.kv (.bool false)))] 2 [1,2,3,4])
 (.seq (.seq (.region [rq 0 9 (.move (ki 0))] 1 [1,2,3,4,9])
 (.block 0
 (.loop
 (.seq (.seq (.region [RM 0 11 9,
 RM 1 12 2,
 rq 2 13 (.len false (.tm 12)),
 rq 3 14 (.bin .lss (.tm 11) (.tm 13))] 4 [1,2,3,4,9,14])
 (.cond (.tm 14)
 .skip
 (.exit 0)))
 (.seq (.block 1
 (.seq (.region [RM 0 17 2,
 RM 1 18 9,
 rq 2 19 (.idx 5 (.tm 17) (.tm 18)),
 rq 3 20 (.load 5 true (.tm 19)),
 rq 4 10 (.alloc [VZ,VZ,VZ,VZ,OZ]),
 rn 5 (.store 5 true (.tm 10) (.tm 20))] 6 [1,2,3,4,9,10])
 (.seq (.seq (.region [RF 0 21 0 10,
 RL 1 22 21,
 rq 2 23 (.call y2 [(.tm 22),(ki 0),(ki 2)]),
 rq 3 24 (.un .not (.tm 23)),
 RM 4 25 24,
 GQ 5 26 (.fld 1 (.tm 10)) 25 false,
 GQ 6 27 (.load 1 false (.tm 26)) 25 false,
 GQ 7 28 (.move (.tm 1)) 25 false,
 GQ 8 29 (.fld 0 (.tm 10)) 25 false,
 GQ 9 30 (.load 1 false (.tm 29)) 25 false,
 GQ 10 31 (.idx 1 (.tm 28) (.tm 30)) 25 false,
 GQ 11 32 (.load 1 false (.tm 31)) 25 false,
 GQ 12 33 (.bin .sub (.tm 32) (ki 1)) 25 false,
 GQ 13 34 (.call y2 [(.tm 27),(ki 0),(.tm 33)]) 25 false,
 GQ 14 35 (.un .not (.tm 34)) 25 false,
 rq 15 36 (.pick (.tm 25) (.kv (.bool true)) (.tm 35)),
 RM 16 37 36,
 GQ 17 38 (.move (.tm 9)) 37 false,
 GQ 18 39 (.bin .gtr (.tm 38) (ki 0)) 37 false,
 GQ 19 40 (.move (.tm 39)) 37 false,
 GQ 20 41 (.move (.tm 2)) 40 true,
 GQ 21 42 (.move (.tm 9)) 40 true,
 GQ 22 43 (.bin .sub (.tm 42) (ki 1)) 40 true,
 GQ 23 44 (.idx 5 (.tm 41) (.tm 43)) 40 true,
 GQ 24 45 (.load 5 true (.tm 44)) 40 true,
 GQ 25 46 (.load 5 true (.tm 10)) 40 true,
 GQ 26 47 (.call aKL [(.tm 45),(.tm 46)]) 40 true,
 GQ 27 48 (.un .not (.tm 47)) 40 true,
 GQ 28 49 (.pick (.tm 40) (.tm 48) (.kv (.bool false))) 37 false,
 rq 29 50 (.pick (.tm 37) (.kv (.bool true)) (.tm 49))] 30 [1,2,3,4,9,10,50])
 (.cond (.tm 50)
 (.seq (.region [rq 0 8 (.move (.kv (.bool false)))] 1 [8])
 .ret)
 .skip))
 (.seq (.region [RM 0 51 3,
 RM 1 52 51,
 GQ 2 53 (.fld 2 (.tm 10)) 52 true,
 GQ 3 54 (.load 3 true (.tm 53)) 52 true,
 GQ 4 55 (.call aIP [(.tm 54)]) 52 true,
 GQ 5 56 (.un .not (.tm 55)) 52 true,
 GQ 6 57 (.move (.tm 56)) 52 true,
 GQ 7 58 (.fld 2 (.tm 10)) 57 false,
 GQ 8 59 (.fld 0 (.tm 58)) 57 false,
 GQ 9 60 (.load 1 false (.tm 59)) 57 false,
 GQ 10 61 (.fld 2 (.tm 4)) 57 false,
 GQ 11 62 (.load 1 false (.tm 61)) 57 false,
 GQ 12 63 (.fld 0 (.tm 10)) 57 false,
 GQ 13 64 (.load 1 false (.tm 63)) 57 false,
 GQ 14 65 (.idx 1 (.tm 62) (.tm 64)) 57 false,
 GQ 15 66 (.load 1 false (.tm 65)) 57 false,
 GQ 16 67 (.fld 1 (.tm 10)) 57 false,
 GQ 17 68 (.load 1 false (.tm 67)) 57 false,
 GQ 18 69 (.idx 7 (.tm 66) (.tm 68)) 57 false,
 GQ 19 70 (.fld 0 (.tm 69)) 57 false,
 GQ 20 71 (.load 1 false (.tm 70)) 57 false,
 GQ 21 72 (.bin .neq (.tm 60) (.tm 71)) 57 false,
 GQ 22 73 (.pick (.tm 57) (.kv (.bool true)) (.tm 72)) 52 true,
 rq 23 74 (.pick (.tm 52) (.tm 73) (.kv (.bool false))),
 RM 24 75 74,
 GQ 25 76 (.move (.tm 3)) 75 false,
 GQ 26 77 (.un .not (.tm 76)) 75 false,
 GQ 27 78 (.move (.tm 77)) 75 false,
 GQ 28 79 (.fld 2 (.tm 10)) 78 true,
 GQ 29 80 (.fld 0 (.tm 79)) 78 true,
 GQ 30 81 (.load 1 false (.tm 80)) 78 true,
 GQ 31 82 (.bin .neq (.tm 81) (ki 0)) 78 true,
 GQ 32 83 (.move (.tm 82)) 78 true,
 GQ 33 84 (.fld 2 (.tm 10)) 83 false,
 GQ 34 85 (.fld 1 (.tm 84)) 83 false,
 GQ 35 86 (.load 1 false (.tm 85)) 83 false,
 GQ 36 87 (.bin .neq (.tm 86) (ki 0)) 83 false,
 GQ 37 88 (.pick (.tm 83) (.kv (.bool true)) (.tm 87)) 78 true,
 GQ 38 89 (.move (.tm 88)) 78 true,
 GQ 39 90 (.fld 2 (.tm 10)) 89 false,
 GQ 40 91 (.fld 2 (.tm 90)) 89 false,
 GQ 41 92 (.load 1 false (.tm 91)) 89 false,
 GQ 42 93 (.len false (.tm 92)) 89 false,
 GQ 43 94 (.bin .neq (.tm 93) (ki 0)) 89 false,
 GQ 44 95 (.pick (.tm 89) (.kv (.bool true)) (.tm 94)) 78 true,
 GQ 45 96 (.pick (.tm 78) (.tm 95) (.kv (.bool false))) 75 false,
 rq 46 97 (.pick (.tm 75) (.kv (.bool true)) (.tm 96))] 47 [1,2,3,4,9,97])
 (.cond (.tm 97)
 (.seq (.region [rq 0 8 (.move (.kv (.bool false)))] 1 [8])
 .ret)
 .skip)))))
 (.region [RM 0 15 9,
 rq 1 16 (.bin .add (.tm 15) (ki 1)),
 RM 2 9 16] 3 [1,2,3,4,9]))))))
 (.seq (.region [rq 0 8 (.move (.kv (.bool true)))] 1 [8])
 .ret)))
def aLC:List Cert:=[⟨[],[1,2,3,4]⟩,⟨[],[1,2,3,4,9]⟩,⟨[],[1,2,3,4,9,14]⟩,⟨[],[1,2,3,4,9,10]⟩,⟨[cz 0,cz 1,cz 2,cz 3,cz 4,cz 5,cz 6,cz 7,cz 8,cz 9,cz 10,cz 11,cz 12,cz 13,cz 14,cz 15,cz 16,cz 17,cz 18,cz 19,cz 20,cz 21,cz 22,cz 23,cz 24,cz 25,cz 26,cz 27,cz 28,cz 29],[1,2,3,4,9,10,50]⟩,⟨[],[8]⟩,⟨[cz 0,cz 1,cz 2,cz 3,cz 4,cz 5,cz 6,cz 7,cz 8,cz 9,cz 10,cz 11,cz 12,cz 13,cz 14,cz 15,cz 16,cz 17,cz 18,cz 19,cz 20,cz 21,cz 22,cz 23,cz 24,cz 25,cz 26,cz 27,cz 28,cz 29,cz 30,cz 31,cz 32,cz 33,cz 34,cz 35,cz 36,cz 37,cz 38,cz 39,cz 40,cz 41,cz 42,cz 43,cz 44,cz 45,cz 46],[1,2,3,4,9,97]⟩,⟨[],[8]⟩,⟨[],[1,2,3,4,9]⟩,⟨[],[8]⟩]
def aJ1:List aW:=[.tm 8]
theorem aKV:aO Tryz.prog Tryz.f102 aLC=some (aI9,aJ1):=by kernel_rfl
theorem aKZ:aN Tryz.prog aIQ Tryz.f102 aI9 aJ1:=
 aN.mk Tryz.func102 (by kernel_rfl) aKV
def aJD:AC:=
 (.seq (.region [rq 0 2 (.box true (.tm 0)),
 rq 1 3 (.box true (.tm 1)),
 rq 2 4 (.move (.kv (.bool false)))] 3 [2,3])
 (.seq (.seq (.region [rq 0 5 (.move (ki 0))] 1 [2,3,5])
 (.block 0
 (.loop
 (.seq (.seq (.region [RM 0 7 5,
 RF 1 8 5 3,
 RL 2 9 8,
 rq 3 10 (.len false (.tm 9)),
 rq 4 11 (.bin .lss (.tm 7) (.tm 10))] 5 [2,3,5,11])
 (.cond (.tm 11)
 .skip
 (.exit 0)))
 (.seq (.block 1
 (.seq (.region [RF 0 14 5 3,
 RL 1 15 14,
 RM 2 16 5,
 rq 3 17 (.idx 5 (.tm 15) (.tm 16)),
 rq 4 18 (.load 5 true (.tm 17)),
 rq 5 6 (.alloc [VZ,VZ,VZ,VZ,OZ]),
 rn 6 (.store 5 true (.tm 6) (.tm 18))] 7 [2,3,5,6])
 (.seq (.region [RF 0 19 0 6,
 RL 1 20 19,
 rq 2 21 (.call y2 [(.tm 20),(ki 0),(ki 2)]),
 rq 3 22 (.un .not (.tm 21)),
 RM 4 23 22,
 GQ 5 24 (.fld 1 (.tm 6)) 23 false,
 GQ 6 25 (.load 1 false (.tm 24)) 23 false,
 GQ 7 26 (.fld 2 (.tm 3)) 23 false,
 GQ 8 27 (.load 1 false (.tm 26)) 23 false,
 GQ 9 28 (.fld 0 (.tm 6)) 23 false,
 GQ 10 29 (.load 1 false (.tm 28)) 23 false,
 GQ 11 30 (.idx 1 (.tm 27) (.tm 29)) 23 false,
 GQ 12 31 (.load 1 false (.tm 30)) 23 false,
 GQ 13 32 (.bin .sub (.tm 31) (ki 1)) 23 false,
 GQ 14 33 (.call y2 [(.tm 25),(ki 0),(.tm 32)]) 23 false,
 GQ 15 34 (.un .not (.tm 33)) 23 false,
 rq 16 35 (.pick (.tm 23) (.kv (.bool true)) (.tm 34)),
 RM 17 36 35,
 GQ 18 37 (.fld 2 (.tm 6)) 36 false,
 GQ 19 38 (.load 3 true (.tm 37)) 36 false,
 GQ 20 39 (.call aIP [(.tm 38)]) 36 false,
 GQ 21 40 (.un .not (.tm 39)) 36 false,
 rq 22 41 (.pick (.tm 36) (.kv (.bool true)) (.tm 40)),
 RM 23 42 41,
 GQ 24 43 (.fld 2 (.tm 6)) 42 false,
 GQ 25 44 (.fld 0 (.tm 43)) 42 false,
 GQ 26 45 (.load 1 false (.tm 44)) 42 false,
 GQ 27 46 (.fld 2 (.tm 2)) 42 false,
 GQ 28 47 (.load 1 false (.tm 46)) 42 false,
 GQ 29 48 (.fld 0 (.tm 6)) 42 false,
 GQ 30 49 (.load 1 false (.tm 48)) 42 false,
 GQ 31 50 (.idx 1 (.tm 47) (.tm 49)) 42 false,
 GQ 32 51 (.load 1 false (.tm 50)) 42 false,
 GQ 33 52 (.fld 1 (.tm 6)) 42 false,
 GQ 34 53 (.load 1 false (.tm 52)) 42 false,
 GQ 35 54 (.idx 7 (.tm 51) (.tm 53)) 42 false,
 GQ 36 55 (.fld 0 (.tm 54)) 42 false,
 GQ 37 56 (.load 1 false (.tm 55)) 42 false,
 GQ 38 57 (.bin .neq (.tm 45) (.tm 56)) 42 false,
 rq 39 58 (.pick (.tm 42) (.kv (.bool true)) (.tm 57)),
 RM 40 59 58,
 GQ 41 60 (.fld 5 (.tm 3)) 59 false,
 GQ 42 61 (.load 1 false (.tm 60)) 59 false,
 GQ 43 62 (.move (.tm 5)) 59 false,
 GQ 44 63 (.slc 5 (.tm 61) none (some (.tm 62)) none) 59 false,
 GQ 45 64 (.fld 0 (.tm 6)) 59 false,
 GQ 46 65 (.load 1 false (.tm 64)) 59 false,
 GQ 47 66 (.fld 1 (.tm 6)) 59 false,
 GQ 48 67 (.load 1 false (.tm 66)) 59 false,
 GQ 49 68 (.call aIN [(.tm 63),(.tm 65),(.tm 67)]) 59 false,
 GQ 50 69 (.bin .geq (.tm 68) (ki 0)) 59 false,
 rq 51 70 (.pick (.tm 59) (.kv (.bool true)) (.tm 69))] 52 [2,3,5,70])
 (.cond (.tm 70)
 (.seq (.region [rq 0 4 (.move (.kv (.bool false)))] 1 [4])
 .ret)
 .skip))))
 (.region [RM 0 12 5,
 rq 1 13 (.bin .add (.tm 12) (ki 1)),
 RM 2 5 13] 3 [2,3,5]))))))
 (.seq (.region [rq 0 4 (.move (.kv (.bool true)))] 1 [4])
 .ret)))
def aK4:List Cert:=[⟨[],[2,3]⟩,⟨[],[2,3,5]⟩,⟨[],[2,3,5,11]⟩,⟨[],[2,3,5,6]⟩,⟨[cz 0,cz 1,cz 2,cz 3,cz 4,cz 5,cz 6,cz 7,cz 8,cz 9,cz 10,cz 11,cz 12,cz 13,cz 14,cz 15,cz 16,cz 17,cz 18,cz 19,cz 20,cz 21,cz 22,cz 23,cz 24,cz 25,cz 26,cz 27,cz 28,cz 29,cz 30,cz 31,cz 32,cz 33,cz 34,cz 35,cz 36,cz 37,cz 38,cz 39,cz 40,cz 41,cz 42,cz 43,cz 44,cz 45,cz 46,cz 47,cz 48,cz 49,cz 50,cz 51],[2,3,5,70]⟩,⟨[],[4]⟩,⟨[],[2,3,5]⟩,⟨[],[4]⟩]
def aJY:List aW:=[.tm 4]
theorem aK1:aO Tryz.prog Tryz.f103 aK4=some (aJD,aJY):=by kernel_rfl
theorem aK7:aN Tryz.prog aIX Tryz.f103 aJD aJY:=
 aN.mk Tryz.func103 (by kernel_rfl) aK1
end Go.Proofs.YtegiblhkjfiooaaGreat
end
