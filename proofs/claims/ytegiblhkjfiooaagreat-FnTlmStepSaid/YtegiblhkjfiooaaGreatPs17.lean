/- Texts laid together by a program: rules, contracts and the walk that leads to the law. -/
import Derived.Test.YtegiblhkjfiooaaGreatPs16
import Derived.Test.YtegiblhkjfiooaaGreatPs14
import Derived.Test.YtegiblhkjfiooaaGreatPs3
import Derived.Test.YtegiblhkjfiooaaGreatPs12
import Derived.Test.YtegiblhkjfiooaaGreatPs4
import Derived.Test.YtegiblhkjfiooaaGreatPs10
import Derived.Test.YtegiblhkjfiooaaGreatPs15
import Derived.Test.YtegiblhkjfiooaaGreatPs8
set_option linter.unusedVariables false
set_option linter.unusedSimpArgs false
set_option linter.unusedSectionVars false
section
namespace Go.Proofs.YtegiblhkjfiooaaGreat
open Go Go.AM
set_option maxRecDepth 100000
set_option maxHeartbeats 4000000
section
variable {H : aA} {nx : Nat} {K : D → aA → Nat → Prop}
theorem aS6 (l:List Job) (a:Nat) (ha:a<l.length) (hl:l.length<2^20):aB Tryz.prog gR [dS (l.map aS),dI a] .nil 0 fun rr _ nn=>nn=0∧rr.imm=true∧rr=dS ((MT l a).map aS):=by
 refine aRY rfl fun Q hQ=> ?_
 unfold aN5
 repeat' (first| (with_reducible first| (refine hK _ _ _ ?_;clear hK K)|refine Z1 ?_|refine Z3 fun KB hKB=> ?_)| (with_reducible refine Y2 fun K hK=> ?_)<;>(simp only[go_sem])|fail)
 (have hKX:=hKB;clear hKB)
 refine aM.sG 1 (β:=Nat×Nat) (fun b u=>en [(6,dI u.1),(5,dO 5 b (aPD l a u.1).length u.2),(1,dI a),(0,dS (l.map aS))])
  (fun b u=>hp [(b,⟨5,u.2,(aPD l a u.1).map aS⟩)]) (fun u=>u.1≤l.length∧(aPD l a u.1).length≤u.2) (fun u=>l.length-u.1) (0,0) (by(refine cR [1] (by omega) (by repeat' (first| (with_reducible first|exact C1|refine C2 ?_ ?_)| ((with_reducible refine C0 ?_);exact CC)| ((with_reducible refine D0 ?_);first|exact CA rfl|refine CJ ?_)|fail)) ⟨⟨by simp,by simp[sgL],_,rfl,bP (aG dZ _) rfl rfl⟩,trivial⟩ (by simp[sgL]))) ⟨by omega,by simp[aPD]⟩ ?_
 rintro⟨k,cap⟩ ⟨hk,hc⟩ KL hKL
 dsimp only at hk hc
 have hlen:=aTT (a:=a) hk
 by_cases hlt:k<l.length
 ·repeat' (first| (with_reducible first| (refine hK _ _ _ ?_;clear hK K)| (refine hA ?_;clear hA hB A B)| (refine hB ?_;clear hA hB A B)|refine Z1 ?_|refine Z2 ?_|refine Z3 fun KB hKB=> ?_|refine Z4 (by omega) ?_|refine Z6 (fun h=> ?_) fun h=> ?_|refine fun(cap:Nat) (hcap:_≤cap)=> ?_|refine fun(hcp:_≤cap)=> ?_)| (with_reducible first|refine Y2 fun K hK=> ?_|refine Y3 fun A B hA hB=> ?_)<;>(simp only[go_sem];try simp (disch:=omega) only[Iw])| ((with_reducible refine Y0 ?_);simp only[AQ.then,AQ.blk])|refine⟨by omega,?_⟩| (with_reducible refine hKB _ _ _ ?_)|fail)
  ·have hn:=aUC hlt (a:=a) (by omega)
   have hn2:=congrArg List.length hn
   simp only[List.length_append,List.length_cons,List.length_nil] at hn2
   exact hKL _ _ _ (k+1,cap) (by omega) (by(refine cR [18] (by omega) (by repeat' (first| (with_reducible first|exact C1|refine C2 ?_ ?_)| ((with_reducible refine C0 ?_);exact CQ (by omega) rfl rfl (by omega) rfl)| ((with_reducible refine D0 ?_);first|exact CA rfl|refine CJ ?_)|fail)) ⟨⟨by simp,by simp[sgL],_,rfl,bP (aG dZ _) (congrArg _ hn) rfl⟩,trivial⟩ (by simp[sgL]))) ⟨by dsimp only;omega,by dsimp only;omega⟩ (by dsimp only;omega)
  ·have hn:=aUB hlt (a:=a) (by omega)
   have hn2:=congrArg List.length hn
   exact hKL _ _ _ (k+1,cap) (by omega) (by(refine cR [4] (by omega) (by repeat' (first| (with_reducible first|exact C1|refine C2 ?_ ?_)| ((with_reducible refine C0 ?_);exact CQ (by omega) rfl rfl (by omega) rfl)| ((with_reducible refine D0 ?_);first|exact CA rfl|refine CJ ?_)|fail)) ⟨⟨by simp,by simp[sgL],_,rfl,bP (aG dZ _) (congrArg _ hn) rfl⟩,trivial⟩ (by simp[sgL]))) ⟨by dsimp only;omega,by dsimp only;rw[hn];exact hc⟩ (by dsimp only;omega)
 ·repeat' (first| (with_reducible first| (refine hK _ _ _ ?_;clear hK K)| (refine hB ?_;clear hA hB A B)|refine Z1 ?_|refine Z5 (by omega) ?_|refine hKX _ _ _ ?_)| (with_reducible first|refine Y2 fun K hK=> ?_|refine Y3 fun A B hA hB=> ?_)<;>(simp only[go_sem])| ((with_reducible first|refine Y8 ?_|refine Y9 ?_);try simp only[AQ.then,AQ.blk,reduceIte,Nat.reduceEqDiff])|fail)
  have hk2:k=l.length:=by omega
  subst hk2
  exact V4 hQ (dS _) _ rfl (yP (l:=aPD l a l.length) dZ rfl (by simp) (by omega) trivial) rfl (by rw[aT1 ha])
theorem aSZ {l:List Job} {a:Nat} (ha:a<l.length) (hl:l.length<2^20) (h:K (dS ((MT l a).map aS)) H nx):aB Tryz.prog gR [dS (l.map aS),dI a] H nx K:=
 (aS6 l a ha hl).fresh rfl (fun r hr=>hr▸h)
def oSt (i0 i1 i2 i3 wc hc ac tc:Nat) (s:TSt):List D1:=[.osl 1 i0 0 64 wc,.osl 1 i1 0 6 hc,.osl 1 i2 0 3 ac,.isl (s.wait.map aS),.isl (s.done.map aS),.osl 5 i3 0 s.told.length tc]
theorem aR1 {l:List Job} {a b:Int} (hl:l.length<2^20) (h:K (dS ((BM l ⟨a,b,oW⟩).map aS)) H nx):aB Tryz.prog aJS [dS (l.map aS),dA [cI a,cI b,cI 0,cI 0,.osl 0 0 0 0 0]] H nx K:=
 (aPM l ⟨a,b,oW⟩ hl).azZ rfl ⟨aE rfl,aH (bB rfl) (aH (bB rfl) (aH (bB rfl) (aH (bB rfl) (aH xG eP)))),trivial⟩ fun r hr=>hr▸h
theorem aSF {l:List Job} {a b:Int} {r:Rsp} (hl:l.length<2^20) (h:K (dS ((BM l ⟨a,b,r⟩).map aS)) H nx):aB Tryz.prog aJS [dS (l.map aS),dA (cI a::cI b::tG r)] H nx K:=
 aS4 (j:=⟨a,b,r⟩) hl h
theorem aO5 {l:List Job} {z:Int} (hz: ¬z<0) (ha:z.toNat<l.length) (hl:l.length<2^20) (h:K (dS ((MT l z.toNat).map aS)) H nx):aB Tryz.prog gR [dS (l.map aS),dI z] H nx K:=by
 have:=aSZ (K:=K) ha hl h
 rwa [Int.toNat_of_nonneg (by omega)] at this
theorem aSJ (c:Cfg) (s:TSt) (e:Ev) (wc wm hc hm ac am tc tm:Nat) (hb:aQ c) (hs:BA c s) (hwc:64≤wc) (hhc:6≤hc) (hac:3≤ac) (htc:s.told.length≤tc) (htm:tc≤tm):
 aB Tryz.prog v5 [dA (cU c),dA (oSt 0 1 2 3 wc hc ac tc s),dA (eEv e)] (hp [(0,⟨1,wm,s.words.map aJ⟩),(1,⟨1,hm,s.holds.map aJ⟩),(2,⟨1,am,s.asked.map aJ⟩),(3,⟨5,tm,s.told.map aS⟩)]) 4
 fun r H' n'=>(X6 c s e=0∧ ∃tc' tm',(lS c s e).told.length≤tc'∧tc'≤tm'∧n'=5∧H'=hp [(0,⟨1,wm,(lS c s e).words.map aJ⟩),(1,⟨1,hm,(lS c s e).holds.map aJ⟩),(2,⟨1,am,(lS c s e).asked.map aJ⟩),(4,⟨5,tm',(lS c s e).told.map aS⟩)]
  ∧r= .tup [.agg (oSt 0 1 2 4 wc hc ac tc' (lS c s e)),.c (cB true)])∨
  (¬X6 c s e=0∧n'=4∧H'=hp [(0,⟨1,wm,s.words.map aJ⟩),(1,⟨1,hm,s.holds.map aJ⟩),(2,⟨1,am,s.asked.map aJ⟩),(3,⟨5,tm,s.told.map aS⟩)]∧r= .tup [.agg (oSt 0 1 2 3 wc hc ac tc s),.c (cB false)]):=by
 have hl:=hs.lens hb
 have hf:=hs.fit hb
 obtain⟨hp3,hp12⟩:=hC hb
 have hwl:=hs.atm.wl
 have hhl:=hs.atm.hl
 have hal:=hs.JI
 have hmap:=hb.1.1
 have hb12:=hp12 e.who.toNat
 refine aQG rfl fun Q hQ=> ?_
 unfold aNV
 simp only[oSt]
 by_cases hok:oA c e.who e.n
 ·have hrq:=GK hb hok
  obtain⟨ho1,ho2⟩:=hok
  have hok:oA c e.who e.n:=⟨ho1,ho2⟩
  have ht1:=fun h=>(pW (l:=s.wait) (who:=e.who) (n:=e.n) h).1
  have ht2:=fun h=>(pW (l:=s.done) (who:=e.who) (n:=e.n) h).1
  have hg1:=aoF (p:=iM e.who e.n) (l:=s.wait)
  have hg2:=aoF (p:=iM e.who e.n) (l:=s.done)
  repeat' (first| (with_reducible first| (refine hK _ _ _ ?_;clear hK K)| (refine hA ?_;clear hA hB A B)| (refine hB ?_;clear hA hB A B)|refine Z1 ?_|refine Z2 ?_|refine Z3 fun KB hKB=> ?_|refine Z5 (by omega) ?_|refine Z6 (fun h=> ?_) fun h=> ?_|refine fun(cap:Nat) (hcap:_≤cap)=> ?_|refine fun(hcp:_≤cap)=> ?_)| (first| (with_reducible first|refine Y2 fun K hK=> ?_|refine Y3 fun A B hA hB=> ?_|refine Y5 (by omega) ?_|refine Y6 (fun h=> ?_) fun h=> ?_)| (with_reducible refine aBC ?_)| (with_reducible refine aKK (by omega) ?_)| (with_reducible refine ap1 (l:=s.wait) (e:=e) (by omega) hp3 hok (fun j hj _ _=>hf.wait j hj) ?_)| (with_reducible refine ap1 (l:=s.done) (e:=e) (by omega) hp3 hok (fun j hj _ _=>hf.done j hj) ?_)| (with_reducible refine aR1 (by omega) ?_)| (with_reducible refine aSF (by omega) ?_)| (with_reducible refine aO5 (l:=s.wait) (by assumption) (ht1 (by assumption)) (by omega) ?_)| (with_reducible refine aO5 (l:=s.done) (by assumption) (ht2 (by assumption)) (by omega) ?_)| (refine aS7 (by omega) hs.atm hwc hhc ho1 hrq (by omega) (by omega) (by omega) rfl rfl ?_))<;>(simp only[go_sem];try simp (disch:=omega) only[Iw])| ((with_reducible refine Y8 ?_);try simp only[AQ.then,AQ.blk,reduceIte,Nat.reduceEqDiff])| ((with_reducible refine Y0 ?_);simp only[AQ.then,AQ.blk])|refine⟨by omega,?_⟩| (with_reducible refine hKB _ _ _ ?_)|fail)
  all_goals first
   | (have hwhy: ¬X6 c s e=0:=by(unfold X6;grind)
      (refine hQ _ _ _ _ _ 4 (.tup [.agg (oSt 0 1 2 3 wc hc ac tc s),.c (cB false)]) (hp [(0,⟨1,wm,s.words.map aJ⟩),(1,⟨1,hm,s.holds.map aJ⟩),(2,⟨1,am,s.asked.map aJ⟩),(3,⟨5,tm,s.told.map aS⟩)]) _ _ (.inr rfl) rfl (fU [0,1,2,3] (by omega) (by repeat' (first| (with_reducible first|refine aUP ?_ ?_|refine aUQ ?_|refine aUR ?_)| ((with_reducible refine C0 ?_);first|exact CB rfl|exact CQ (by omega) rfl rfl (by rfl) rfl)|exact C3|refine C4 ?_ ?_|fail)) ⟨⟨by simp,by simp[sgL],_,rfl,bP (aG bF _) rfl rfl⟩,⟨by simp,by simp[sgL],_,rfl,bP (aG bF _) rfl rfl⟩,⟨by simp,by simp[sgL],_,rfl,bP (aG bF _) rfl rfl⟩,⟨by simp,by simp[sgL],_,rfl,bP (aG dZ _) rfl rfl⟩,trivial⟩ (by simp[sgL])) ?_)
      exact .inr ⟨hwhy,rfl,rfl,rfl⟩)
   |have hwhy:X6 c s e=0:=by(unfold X6;grind)
  ·have hnx:lS c s e=({s with asked:=s.asked.set e.who.toNat (e.n+1),wait:=BM s.wait ⟨e.who,e.n,oW⟩}:TSt):=by simp only[lS];rw[if_pos (by assumption)]
   rw[hnx] at hQ
   (refine hQ _ _ _ _ _ 5 (.tup [.agg (oSt 0 1 2 4 wc hc ac tc ({s with asked:=s.asked.set e.who.toNat (e.n+1),wait:=BM s.wait ⟨e.who,e.n,oW⟩}:TSt)),.c (cB true)]) (hp [(0,⟨1,wm,({s with asked:=s.asked.set e.who.toNat (e.n+1),wait:=BM s.wait ⟨e.who,e.n,oW⟩}:TSt).words.map aJ⟩),(1,⟨1,hm,({s with asked:=s.asked.set e.who.toNat (e.n+1),wait:=BM s.wait ⟨e.who,e.n,oW⟩}:TSt).holds.map aJ⟩),(2,⟨1,am,({s with asked:=s.asked.set e.who.toNat (e.n+1),wait:=BM s.wait ⟨e.who,e.n,oW⟩}:TSt).asked.map aJ⟩),(4,⟨5,tm,({s with asked:=s.asked.set e.who.toNat (e.n+1),wait:=BM s.wait ⟨e.who,e.n,oW⟩}:TSt).told.map aS⟩)]) _ _ (.inr rfl) rfl (fU [3,0,1,2] (by omega) (by repeat' (first| (with_reducible first|refine aUP ?_ ?_|refine aUQ ?_|refine aUR ?_)| ((with_reducible refine C0 ?_);first|exact CB rfl|exact CQ (by omega) rfl rfl (by rfl) rfl)|exact C3|refine C4 ?_ ?_|fail)) ⟨⟨by simp,by simp[sgL],_,rfl,bP (aG bF _) rfl rfl⟩,⟨by simp,by simp[sgL],_,rfl,bP (aG bF _) rfl rfl⟩,⟨by simp,by simp[sgL],_,rfl,bP (aG bF _) rfl rfl⟩,⟨by simp,by simp[sgL],_,rfl,bP (aG dZ _) rfl rfl⟩,trivial⟩ (by simp[sgL])) ?_)
   exact .inl ⟨hwhy,tc,tm,htc,htm,rfl,rfl,rfl⟩
  ·have hnx:lS c s e=({s with words:=(doM c.map s.words s.holds e.who (bT c e.who e.n)).1.1,holds:=(doM c.map s.words s.holds e.who (bT c e.who e.n)).1.2,wait:=MT s.wait (bK (iM e.who e.n) s.wait).toNat,done:=BM s.done ⟨e.who,e.n,(doM c.map s.words s.holds e.who (bT c e.who e.n)).2⟩}:TSt):=by simp only[lS];rw[if_neg (by assumption),if_pos (by assumption)]
   rw[hnx] at hQ
   (refine hQ _ _ _ _ _ 5 (.tup [.agg (oSt 0 1 2 4 wc hc ac tc ({s with words:=(doM c.map s.words s.holds e.who (bT c e.who e.n)).1.1,holds:=(doM c.map s.words s.holds e.who (bT c e.who e.n)).1.2,wait:=MT s.wait (bK (iM e.who e.n) s.wait).toNat,done:=BM s.done ⟨e.who,e.n,(doM c.map s.words s.holds e.who (bT c e.who e.n)).2⟩}:TSt)),.c (cB true)]) (hp [(0,⟨1,wm,({s with words:=(doM c.map s.words s.holds e.who (bT c e.who e.n)).1.1,holds:=(doM c.map s.words s.holds e.who (bT c e.who e.n)).1.2,wait:=MT s.wait (bK (iM e.who e.n) s.wait).toNat,done:=BM s.done ⟨e.who,e.n,(doM c.map s.words s.holds e.who (bT c e.who e.n)).2⟩}:TSt).words.map aJ⟩),(1,⟨1,hm,({s with words:=(doM c.map s.words s.holds e.who (bT c e.who e.n)).1.1,holds:=(doM c.map s.words s.holds e.who (bT c e.who e.n)).1.2,wait:=MT s.wait (bK (iM e.who e.n) s.wait).toNat,done:=BM s.done ⟨e.who,e.n,(doM c.map s.words s.holds e.who (bT c e.who e.n)).2⟩}:TSt).holds.map aJ⟩),(2,⟨1,am,({s with words:=(doM c.map s.words s.holds e.who (bT c e.who e.n)).1.1,holds:=(doM c.map s.words s.holds e.who (bT c e.who e.n)).1.2,wait:=MT s.wait (bK (iM e.who e.n) s.wait).toNat,done:=BM s.done ⟨e.who,e.n,(doM c.map s.words s.holds e.who (bT c e.who e.n)).2⟩}:TSt).asked.map aJ⟩),(4,⟨5,tm,({s with words:=(doM c.map s.words s.holds e.who (bT c e.who e.n)).1.1,holds:=(doM c.map s.words s.holds e.who (bT c e.who e.n)).1.2,wait:=MT s.wait (bK (iM e.who e.n) s.wait).toNat,done:=BM s.done ⟨e.who,e.n,(doM c.map s.words s.holds e.who (bT c e.who e.n)).2⟩}:TSt).told.map aS⟩)]) _ _ (.inr rfl) rfl (fU [3,0,1,2] (by omega) (by repeat' (first| (with_reducible first|refine aUP ?_ ?_|refine aUQ ?_|refine aUR ?_)| ((with_reducible refine C0 ?_);first|exact CB rfl|exact CQ (by omega) rfl rfl (by rfl) rfl)|exact C3|refine C4 ?_ ?_|fail)) ⟨⟨by simp,by simp[sgL],_,rfl,bP (aG bF _) rfl rfl⟩,⟨by simp,by simp[sgL],_,rfl,bP (aG bF _) rfl rfl⟩,⟨by simp,by simp[sgL],_,rfl,bP (aG bF _) rfl rfl⟩,⟨by simp,by simp[sgL],_,rfl,bP (aG dZ _) rfl rfl⟩,trivial⟩ (by simp[sgL])) ?_)
   exact .inl ⟨hwhy,tc,tm,htc,htm,rfl,rfl,rfl⟩
  ·have hnx:lS c s e=({s with told:=s.told++[s.done.getD (bK (iM e.who e.n) s.done).toNat default],done:=MT s.done (bK (iM e.who e.n) s.done).toNat}:TSt):=by simp only[lS];rw[if_neg (by assumption),if_neg (by assumption)]
   rw[hnx] at hQ
   (refine hQ _ _ _ _ _ 5 (.tup [.agg (oSt 0 1 2 4 wc hc ac cap ({s with told:=s.told++[s.done.getD (bK (iM e.who e.n) s.done).toNat default],done:=MT s.done (bK (iM e.who e.n) s.done).toNat}:TSt)),.c (cB true)]) (hp [(0,⟨1,wm,({s with told:=s.told++[s.done.getD (bK (iM e.who e.n) s.done).toNat default],done:=MT s.done (bK (iM e.who e.n) s.done).toNat}:TSt).words.map aJ⟩),(1,⟨1,hm,({s with told:=s.told++[s.done.getD (bK (iM e.who e.n) s.done).toNat default],done:=MT s.done (bK (iM e.who e.n) s.done).toNat}:TSt).holds.map aJ⟩),(2,⟨1,am,({s with told:=s.told++[s.done.getD (bK (iM e.who e.n) s.done).toNat default],done:=MT s.done (bK (iM e.who e.n) s.done).toNat}:TSt).asked.map aJ⟩),(4,⟨5,cap,({s with told:=s.told++[s.done.getD (bK (iM e.who e.n) s.done).toNat default],done:=MT s.done (bK (iM e.who e.n) s.done).toNat}:TSt).told.map aS⟩)]) _ _ (.inr rfl) rfl (fU [75,0,1,2] (by omega) (by repeat' (first| (with_reducible first|refine aUP ?_ ?_|refine aUQ ?_|refine aUR ?_)| ((with_reducible refine C0 ?_);first|exact CB rfl| (exact CQ (by omega) rfl rfl (by first|rfl| (simp;done)) rfl))|exact C3|refine C4 ?_ ?_|fail)) ⟨⟨by simp,by simp[sgL],_,rfl,bP (aG bF _) rfl rfl⟩,⟨by simp,by simp[sgL],_,rfl,bP (aG bF _) rfl rfl⟩,⟨by simp,by simp[sgL],_,rfl,bP (aG bF _) rfl rfl⟩,⟨by simp,by simp[sgL],_,rfl,bP (aG dZ _) rfl rfl⟩,trivial⟩ (by simp[sgL])) ?_)
   exact .inl ⟨hwhy,cap,cap,by simpa using hcap,Nat.le_refl _,rfl,rfl,rfl⟩
 ·have hwhy: ¬X6 c s e=0:=fun h=>hok (M8 h).1
  by_cases hw1:0≤e.who∧e.who≤2
  ·have hn1: ¬(0≤e.n∧e.n≤(c.cP.getD e.who.toNat default).length-1):=fun h=>hok ⟨hw1,h⟩
   repeat' (first| (with_reducible first| (refine hK _ _ _ ?_;clear hK K)| (refine hA ?_;clear hA hB A B)|refine Z1 ?_|refine Z4 (by omega) ?_)| (first| (with_reducible first|refine Y2 fun K hK=> ?_|refine Y3 fun A B hA hB=> ?_|refine Y5 (by omega) ?_)| (with_reducible refine aBC ?_))<;>(simp only[go_sem];try simp (disch:=omega) only[Iw])| ((with_reducible refine Y8 ?_);try simp only[AQ.then,AQ.blk,reduceIte,Nat.reduceEqDiff])|refine⟨by omega,?_⟩|fail)
   all_goals (refine hQ _ _ _ _ _ 4 (.tup [.agg (oSt 0 1 2 3 wc hc ac tc s),.c (cB false)]) (hp [(0,⟨1,wm,s.words.map aJ⟩),(1,⟨1,hm,s.holds.map aJ⟩),(2,⟨1,am,s.asked.map aJ⟩),(3,⟨5,tm,s.told.map aS⟩)]) _ _ (.inr rfl) rfl (fU [0,1,2,3] (by omega) (by repeat' (first| (with_reducible first|refine aUP ?_ ?_|refine aUQ ?_|refine aUR ?_)| ((with_reducible refine C0 ?_);first|exact CB rfl|exact CQ (by omega) rfl rfl (by rfl) rfl)|exact C3|refine C4 ?_ ?_|fail)) ⟨⟨by simp,by simp[sgL],_,rfl,bP (aG bF _) rfl rfl⟩,⟨by simp,by simp[sgL],_,rfl,bP (aG bF _) rfl rfl⟩,⟨by simp,by simp[sgL],_,rfl,bP (aG bF _) rfl rfl⟩,⟨by simp,by simp[sgL],_,rfl,bP (aG dZ _) rfl rfl⟩,trivial⟩ (by simp[sgL])) ?_)
   all_goals exact .inr ⟨hwhy,rfl,rfl,rfl⟩
  ·repeat' (first| (with_reducible first| (refine hK _ _ _ ?_;clear hK K)| (refine hA ?_;clear hA hB A B)|refine Z1 ?_)| (first| (with_reducible first|refine Y2 fun K hK=> ?_|refine Y3 fun A B hA hB=> ?_|refine Y4 (by omega) ?_)| (with_reducible refine aBC ?_))<;>(simp only[go_sem])| ((with_reducible refine Y8 ?_);try simp only[AQ.then,AQ.blk,reduceIte,Nat.reduceEqDiff])|fail)
   all_goals (refine hQ _ _ _ _ _ 4 (.tup [.agg (oSt 0 1 2 3 wc hc ac tc s),.c (cB false)]) (hp [(0,⟨1,wm,s.words.map aJ⟩),(1,⟨1,hm,s.holds.map aJ⟩),(2,⟨1,am,s.asked.map aJ⟩),(3,⟨5,tm,s.told.map aS⟩)]) _ _ (.inr rfl) rfl (fU [0,1,2,3] (by omega) (by repeat' (first| (with_reducible first|refine aUP ?_ ?_|refine aUQ ?_|refine aUR ?_)| ((with_reducible refine C0 ?_);first|exact CB rfl|exact CQ (by omega) rfl rfl (by rfl) rfl)|exact C3|refine C4 ?_ ?_|fail)) ⟨⟨by simp,by simp[sgL],_,rfl,bP (aG bF _) rfl rfl⟩,⟨by simp,by simp[sgL],_,rfl,bP (aG bF _) rfl rfl⟩,⟨by simp,by simp[sgL],_,rfl,bP (aG bF _) rfl rfl⟩,⟨by simp,by simp[sgL],_,rfl,bP (aG dZ _) rfl rfl⟩,trivial⟩ (by simp[sgL])) ?_)
   all_goals exact .inr ⟨hwhy,rfl,rfl,rfl⟩
theorem aP2 {τ:Nat→Nat} {n m:Nat} {l:List Job}:bA.rn τ ⟨n,m,l.map aS⟩=⟨n,m,l.map aS⟩:=by
 refine rF fun r hr x hx=> ?_
 obtain⟨y,_,rfl⟩:=List.mem_map.1 hr
 exact List.all_eq_true.1 (dZ y).2 x hx
theorem aO4 {c:Cfg} {s:TSt} {e:Ev} {wc wm hc hm ac am tc tm i0 i1 i2 i3:Nat} (hb:aQ c) (hs:BA c s) (hwc:64≤wc) (hhc:6≤hc) (hac:3≤ac) (htc:s.told.length≤tc) (htm:tc≤tm)
 (hi0:i0<nx) (hi1:i1<nx) (hi2:i2<nx) (hi3:i3<nx) (hd:[i0,i1,i2,i3].Nodup) (h0:H i0=some ⟨1,wm,s.words.map aJ⟩) (h1:H i1=some ⟨1,hm,s.holds.map aJ⟩) (h2:H i2=some ⟨1,am,s.asked.map aJ⟩) (h3:H i3=some ⟨5,tm,s.told.map aS⟩)
 (h:X6 c s e=0→∀tc' tm',(lS c s e).told.length≤tc'→tc'≤tm'→K (.tup [.agg (oSt i0 i1 i2 nx wc hc ac tc' (lS c s e)),.c (cB true)]) (((((H.set i0 ⟨1,wm,(lS c s e).words.map aJ⟩).set i1 ⟨1,hm,(lS c s e).holds.map aJ⟩).set i2 ⟨1,am,(lS c s e).asked.map aJ⟩).del i3).set nx ⟨5,tm',(lS c s e).told.map aS⟩) (nx+1))
 (h': ¬X6 c s e=0→K (.tup [.agg (oSt i0 i1 i2 i3 wc hc ac tc s),.c (cB false)]) ((((H.set i0 ⟨1,wm,s.words.map aJ⟩).set i1 ⟨1,hm,s.holds.map aJ⟩).set i2 ⟨1,am,s.asked.map aJ⟩).set i3 ⟨5,tm,s.told.map aS⟩) nx):
 aB Tryz.prog v5 [dA (cU c),dA (oSt i0 i1 i2 i3 wc hc ac tc s),dA (eEv e)] H nx K:=by
 refine(aSJ c s e wc wm hc hm ac am tc tm hb hs hwc hhc hac htc htm).AF [i0,i1,i2,i3] rfl ⟨aE rfl,?_,aE rfl,trivial⟩ ?_ ?_ ?_ hd fun r H' n' _ q=> ?_
 ·unfold oSt;exact aH (aaF (by simp) rfl rfl rfl rfl) (aH (aaF (by simp) rfl rfl rfl rfl) (aH (aaF (by simp) rfl rfl rfl rfl) (aH (bB rfl) (aH (bB rfl) (aH (aaF (by simp) rfl rfl rfl rfl) eP)))))
 ·exact⟨⟨by simp,id,_,h0,bP (aG bF _) rfl rfl⟩,⟨by simp,id,_,h1,bP (aG bF _) rfl rfl⟩,⟨by simp,id,_,h2,bP (aG bF _) rfl rfl⟩,⟨by simp,id,_,h3,bP (aG dZ _) rfl rfl⟩,trivial⟩
 ·exact hd
 ·intro x hx;simp only[List.mem_cons,List.not_mem_nil,or_false] at hx;omega
 ·rcases q with⟨q0,tc',tm',q1,q2,q3,q4,q5⟩|⟨q0,q3,q4,q5⟩
  ·subst q3;subst q4;subst q5
   have e2:=h q0 tc' tm' q1 q2
   generalize lS c s e=s' at*
   have e1:back (tau 4 nx (nth [i0,i1,i2,i3])) (hp [(0,⟨1,wm,s'.words.map aJ⟩),(1,⟨1,hm,s'.holds.map aJ⟩),(2,⟨1,am,s'.asked.map aJ⟩),(4,⟨5,tm',s'.told.map aS⟩)]) 5 H=((((H.set i0 ⟨1,wm,s'.words.map aJ⟩).set i1 ⟨1,hm,s'.holds.map aJ⟩).set i2 ⟨1,am,s'.asked.map aJ⟩).del i3).set nx ⟨5,tm',s'.told.map aS⟩:=by
    simp[back,hp,aA.set,aA.nil,tau,nth,uB,aP2,aA.eL,aA.yI]
   rw[←e1] at e2
   exact e2
  ·subst q3;subst q4;subst q5
   have e2:=h' q0
   have e1:back (tau 4 nx (nth [i0,i1,i2,i3])) (hp [(0,⟨1,wm,s.words.map aJ⟩),(1,⟨1,hm,s.holds.map aJ⟩),(2,⟨1,am,s.asked.map aJ⟩),(3,⟨5,tm,s.told.map aS⟩)]) 4 H=((((H.set i0 ⟨1,wm,s.words.map aJ⟩).set i1 ⟨1,hm,s.holds.map aJ⟩).set i2 ⟨1,am,s.asked.map aJ⟩).set i3 ⟨5,tm,s.told.map aS⟩):=by
    simp[back,hp,aA.set,aA.nil,tau,nth,uB,aP2,aA.eL,aA.yI]
   rw[←e1] at e2
   exact e2
theorem aoT {i0 i1 i2 i3 wc hc ac tc:Nat} {s:TSt}:(oSt i0 i1 i2 i3 wc hc ac tc s).length=6:=rfl
theorem ak4 {i0 i1 i2 i3 wc hc ac tc:Nat} {s:TSt}:(oSt i0 i1 i2 i3 wc hc ac tc s).take 6=oSt i0 i1 i2 i3 wc hc ac tc s:=rfl
theorem ajY {i0 i1 i2 i3 wc hc ac tc k:Nat} {s:TSt} {cs:List D1}:iA cs (k+1) (oSt i0 i1 i2 i3 wc hc ac tc s)=iA cs (k+1) [.osl 1 i0 0 64 wc,.osl 1 i1 0 6 hc,.osl 1 i2 0 3 ac,.isl (s.wait.map aS),.isl (s.done.map aS),.osl 5 i3 0 s.told.length tc]:=rfl
attribute [go_sem] aoT ak4 ajY
end
end Go.Proofs.YtegiblhkjfiooaaGreat
end
section
namespace Go.Proofs.YtegiblhkjfiooaaGreat
open Go Go.AM
set_option maxRecDepth 100000
set_option maxHeartbeats 4000000
section
variable {H : aA} {nx : Nat} {K : D → aA → Nat → Prop}
theorem aM8 {j:Job}:cI j.who::cI j.n::tG j.rsp=aS j:=rfl
theorem aRZ:aB Tryz.prog v8 [] (hp []) 0
 fun r H' n'=>n'=1∧H'=hp [(0,⟨1,64,(List.replicate 64 (0:Int)).map aJ⟩)]∧r=dA [.osl 1 0 0 64 64]:=by
 refine aQI rfl fun Q hQ=> ?_
 unfold aNN
 repeat' (first| (with_reducible first| (refine hK _ _ _ ?_;clear hK K)|refine Z1 ?_)| (with_reducible refine Y2 fun K hK=> ?_)<;>(simp only[go_sem])| ((with_reducible refine Y8 ?_);try simp only[AQ.then,AQ.blk,reduceIte,Nat.reduceEqDiff])|fail)
 (refine hQ _ _ _ _ _ 1 (dA [.osl 1 0 0 64 64]) (hp [(0,⟨1,64,(List.replicate 64 (0:Int)).map aJ⟩)]) _ _ (.inr rfl) rfl (fU [1] (by omega) (by repeat' (first| ((with_reducible refine C0 ?_);exact CQ (by omega) rfl rfl (by rfl) rfl)| ((with_reducible refine D0 ?_);refine C9 ?_)|exact C3|refine C4 ?_ ?_|fail)) ⟨⟨by simp,by simp[sgL],_,rfl,bP (aG bF _) rfl rfl⟩,trivial⟩ (by simp[sgL])) ?_)
 exact⟨rfl,rfl,rfl⟩
theorem aSB (h:K (dA [.osl 1 nx 0 64 64]) (H.set nx ⟨1,64,(List.replicate 64 (0:Int)).map aJ⟩) (nx+1)):aB Tryz.prog v8 [] H nx K:=by
 refine aRZ.AF (l0:=[]) [] rfl trivial trivial (by simp) (by simp) (by simp) fun r H' n' _ ⟨q1,q2,q3⟩=> ?_
 subst q1;subst q2;subst q3
 have e1:back (tau 0 nx (nth [])) (hp [(0,⟨1,64,(List.replicate 64 (0:Int)).map aJ⟩)]) 1 H=H.set nx ⟨1,64,(List.replicate 64 (0:Int)).map aJ⟩:=by
  simp only[back,hp,aA.set,tau,Nat.not_lt_zero,if_true,if_false,Nat.sub_zero,Nat.add_zero,Option.map_some,uB,aA.eL]
 rw[←e1] at h
 exact h
theorem aSG:aB Tryz.prog v7 [] (hp []) 0
 fun r H' n'=>∃hc,6≤hc∧n'=2∧H'=hp [(0,⟨1,64,(List.replicate 64 (0:Int)).map aJ⟩),(1,⟨1,hc,(List.replicate 6 (-1:Int)).map aJ⟩)]∧r=dA [.osl 1 0 0 64 64,.osl 1 1 0 6 hc]:=by
 refine aQ1 rfl fun Q hQ=> ?_
 unfold aNO
 generalize hw0:List.replicate 64 (0:Int)=w0
 have hmn: ∀{H:aA} {nx:Nat} {K:D→aA→Nat→Prop},K (dA [.osl 1 nx 0 64 64]) (H.set nx ⟨1,64,w0.map aJ⟩) (nx+1)→aB Tryz.prog v8 [] H nx K:=fun h=>by subst hw0;exact aSB h
 repeat' (first| (with_reducible first| (refine hK _ _ _ ?_;clear hK K)|refine Z1 ?_|refine Z3 fun KB hKB=> ?_)| (first| (with_reducible refine Y2 fun K hK=> ?_)| (refine hmn ?_))<;>(simp only[go_sem])|fail)
 (have hKX:=hKB;clear hKB)
 refine aM.EJ 1 ?_
 refine aM.sG 4 (β:=Nat×Nat) (fun b u=>en [(2,dI u.1),(1,dP 2 (b+1)),(0,dP 2 b)])
  (fun b u=>hp [(b,⟨2,1,[[.osl 0 0 0 0 0,.osl 0 0 0 0 0]]⟩),(b+1,⟨2,1,[[.osl 1 (b+2) 0 64 64,.osl 1 (b+3) 0 u.1 u.2]]⟩),(b+2,⟨1,64,w0.map aJ⟩),(b+3,⟨1,u.2,(List.replicate u.1 (-1:Int)).map aJ⟩)]) (fun u=>u.1≤6∧u.1≤u.2) (fun u=>6-u.1) (0,0)
  ?_ ⟨by dsimp only;omega,by dsimp only;omega⟩ ?_
 · (refine cR [0,3,5,7] (by omega) (by repeat' (first| (with_reducible first|exact C1|refine C2 ?_ ?_)| ((with_reducible refine C0 ?_);exact CE (by omega) rfl)| ((with_reducible refine D0 ?_);first|exact CA rfl|refine CJ ?_)|fail)) ⟨⟨by simp,by simp[sgL],_,rfl,aP (by repeat' (first| (with_reducible first|exact C3|refine C4 ?_ ?_)| ((with_reducible refine C0 ?_);exact CC)|fail))⟩,⟨by simp,by simp[sgL],_,rfl,aP (by repeat' (first| (with_reducible first|exact C3|refine C4 ?_ ?_)| ((with_reducible refine C0 ?_);first|exact CC|exact CQ (by omega) rfl rfl (by rfl) rfl)|fail))⟩,⟨by simp,by simp[sgL],_,rfl,bP (aG bF _) rfl rfl⟩,⟨by simp,by simp[sgL],_,rfl,bP (aG bF _) rfl rfl⟩,trivial⟩ (by simp[sgL]))
 ·rintro⟨k,cap⟩ ⟨hk,hc⟩ KL hKL
  dsimp only at hk hc
  have hrep:List.replicate (k+1) (-1:Int)=List.replicate k (-1)++[-1]:=List.replicate_succ'
  by_cases hlt:k<6
  ·repeat' (first| (with_reducible first| (refine hK _ _ _ ?_;clear hK K)| (refine hA ?_;clear hA hB A B)|refine Z1 ?_|refine Z2 ?_|refine Z3 fun KB hKB=> ?_|refine Z4 (by omega) ?_|refine fun(cap:Nat) (hcap:_≤cap)=> ?_|refine fun(hcp:_≤cap)=> ?_)| (with_reducible first|refine Y2 fun K hK=> ?_|refine Y3 fun A B hA hB=> ?_)<;>(simp only[go_sem];try simp (disch:=omega) only[Iw])| ((with_reducible refine Y0 ?_);simp only[AQ.then,AQ.blk])|refine⟨by omega,?_⟩| (with_reducible refine hKB _ _ _ ?_)|fail)
   exact hKL _ _ _ (k+1,cap) (by omega) (by(refine cR [8,9,10,17] (by omega) (by repeat' (first| (with_reducible first|exact C1|refine C2 ?_ ?_)| ((with_reducible refine C0 ?_);exact CE (by omega) rfl)| ((with_reducible refine D0 ?_);first|exact CA rfl|refine CJ ?_)|fail)) ⟨⟨by simp,by simp[sgL],_,rfl,aP (by repeat' (first| (with_reducible first|exact C3|refine C4 ?_ ?_)| ((with_reducible refine C0 ?_);exact CC)|fail))⟩,⟨by simp,by simp[sgL],_,rfl,aP (by repeat' (first| (with_reducible first|exact C3|refine C4 ?_ ?_)| ((with_reducible refine C0 ?_);exact CQ (by omega) rfl rfl (by rfl) rfl)|fail))⟩,⟨by simp,by simp[sgL],_,rfl,bP (aG bF _) rfl rfl⟩,⟨by simp,by simp[sgL],_,rfl,bP (aG bF _) (congrArg _ hrep) rfl⟩,trivial⟩ (by simp[sgL]))) ⟨by dsimp only;omega,by dsimp only;omega⟩ (by dsimp only;omega)
  ·repeat' (first| (with_reducible first| (refine hK _ _ _ ?_;clear hK K)| (refine hB ?_;clear hA hB A B)|refine Z1 ?_|refine Z5 (by omega) ?_|refine hKX _ _ _ ?_)| (with_reducible first|refine Y2 fun K hK=> ?_|refine Y3 fun A B hA hB=> ?_)<;>(simp only[go_sem])| ((with_reducible first|refine Y8 ?_|refine Y9 ?_);try simp only[AQ.then,AQ.blk,reduceIte,Nat.reduceEqDiff])|fail)
   have hk2:k=6:=by omega
   subst hk2
   (refine hQ _ _ _ _ _ 2 (dA [.osl 1 0 0 64 64,.osl 1 1 0 6 cap]) (hp [(0,⟨1,64,w0.map aJ⟩),(1,⟨1,cap,(List.replicate 6 (-1:Int)).map aJ⟩)]) _ _ (.inr rfl) rfl (fU [10,11] (by omega) (by repeat' (first| ((with_reducible refine C0 ?_);exact CQ (by omega) rfl rfl (by rfl) rfl)| ((with_reducible refine D0 ?_);refine C9 ?_)|exact C3|refine C4 ?_ ?_|fail)) ⟨⟨by simp,by simp[sgL],_,rfl,bP (aG bF _) rfl rfl⟩,⟨by simp,by simp[sgL],_,rfl,bP (aG bF _) rfl rfl⟩,trivial⟩ (by simp[sgL])) ?_)
   exact⟨cap,hc,rfl,by rw[hw0],rfl⟩
theorem aR5 (h: ∀hc,6≤hc→K (dA [.osl 1 nx 0 64 64,.osl 1 (nx+1) 0 6 hc]) ((H.set nx ⟨1,64,(List.replicate 64 (0:Int)).map aJ⟩).set (nx+1) ⟨1,hc,(List.replicate 6 (-1:Int)).map aJ⟩) (nx+2)):aB Tryz.prog v7 [] H nx K:=by
 refine aSG.AF (l0:=[]) [] rfl trivial trivial (by simp) (by simp) (by simp) fun r H' n' _ ⟨hc,q0,q1,q2,q3⟩=> ?_
 have h:=h hc q0
 subst q1;subst q2;subst q3
 generalize List.replicate 64 (0:Int)=w0 at*
 generalize List.replicate 6 (-1:Int)=w1 at*
 have e1:back (tau 0 nx (nth [])) (hp [(0,⟨1,64,w0.map aJ⟩),(1,⟨1,hc,w1.map aJ⟩)]) 2 H=(H.set nx ⟨1,64,w0.map aJ⟩).set (nx+1) ⟨1,hc,w1.map aJ⟩:=by
  simp only[asR,hp,aA.set,tau,Nat.not_lt_zero,if_true,if_false,Nat.sub_zero,Nat.add_zero,Option.map_some,uB,aA.eL,Nat.zero_ne_one,Nat.one_ne_zero]
 rw[←e1] at h
 exact h
theorem aRV:aB Tryz.prog c7 [] (hp []) 0
 fun r H' n'=>∃hc,6≤hc∧n'=4∧H'=hp [(0,⟨1,64,st0.words.map aJ⟩),(1,⟨1,hc,st0.holds.map aJ⟩),(2,⟨1,3,st0.asked.map aJ⟩),(3,⟨5,0,st0.told.map aS⟩)]∧r=dA (oSt 0 1 2 3 64 hc 3 0 st0):=by
 refine aQJ rfl fun Q hQ=> ?_
 unfold aNX
 generalize hs0:st0=s0 at*
 have hw:st0.words=List.replicate 64 0:=rfl
 have hh:st0.holds=List.replicate 6 (-1):=rfl
 have ha:[[D1.v (Value.int IntKind.i64 0)],[D1.v (Value.int IntKind.i64 0)],[D1.v (Value.int IntKind.i64 0)]]=st0.asked.map aJ:=rfl
 have h1:st0.wait=[]:=rfl
 have h2:st0.done=[]:=rfl
 have h3:st0.told=[]:=rfl
 rw[hs0] at hw hh ha h1 h2 h3
 have hmn: ∀{H:aA} {nx:Nat} {K:D→aA→Nat→Prop},(∀hc,6≤hc→K (dA [.osl 1 nx 0 64 64,.osl 1 (nx+1) 0 6 hc]) ((H.set nx ⟨1,64,s0.words.map aJ⟩).set (nx+1) ⟨1,hc,s0.holds.map aJ⟩) (nx+2))→aB Tryz.prog v7 [] H nx K:=fun h=>by rw[hw,hh] at h;exact aR5 h
 clear hw hh
 obtain⟨w0,h0,az5,l1,l2,l3⟩:=s0
 dsimp only at*
 subst h1;subst h2;subst h3
 refine aM.seq (aM.EJ 5 ?_)
 repeat' (first| (with_reducible first| (refine hK _ _ _ ?_;clear hK K)|refine Z1 ?_)| (first| (with_reducible refine Y2 fun K hK=> ?_)| (refine hmn fun hc hhc=> ?_))<;>(simp only[go_sem,ha])| ((with_reducible refine Y8 ?_);try simp only[AQ.then,AQ.blk,reduceIte,Nat.reduceEqDiff])|fail)
 (refine hQ _ _ _ _ _ 4 (dA (oSt 0 1 2 3 64 hc 3 0 ⟨w0,h0,az5,[],[],[]⟩)) (hp [(0,⟨1,64,w0.map aJ⟩),(1,⟨1,hc,h0.map aJ⟩),(2,⟨1,3,az5.map aJ⟩),(3,⟨5,0,([]:List Job).map aS⟩)]) _ _ (.inr rfl) rfl (fU [6,7,3,0] (by omega) (by repeat' (first| ((with_reducible refine C0 ?_);first|exact CC|exact CQ (by omega) rfl rfl (by rfl) rfl|exact CF)| ((with_reducible refine D0 ?_);refine C9 ?_)|exact C3|refine C4 ?_ ?_|fail)) ⟨⟨by simp,by simp[sgL],_,rfl,bP (aG bF _) rfl rfl⟩,⟨by simp,by simp[sgL],_,rfl,bP (aG bF _) rfl rfl⟩,⟨by simp,by simp[sgL],_,rfl,bP (aG bF _) rfl rfl⟩,⟨by simp,by simp[sgL],_,rfl,bP (aG dZ _) rfl rfl⟩,trivial⟩ (by simp[sgL])) ?_)
 exact⟨hc,hhc,rfl,rfl,rfl⟩
theorem aO9 (h: ∀hc,6≤hc→K (dA (oSt nx (nx+1) (nx+2) (nx+3) 64 hc 3 0 st0)) ((((H.set nx ⟨1,64,st0.words.map aJ⟩).set (nx+1) ⟨1,hc,st0.holds.map aJ⟩).set (nx+2) ⟨1,3,st0.asked.map aJ⟩).set (nx+3) ⟨5,0,st0.told.map aS⟩) (nx+4)):aB Tryz.prog c7 [] H nx K:=by
 refine aRV.AF (l0:=[]) [] rfl trivial trivial (by simp) (by simp) (by simp) fun r H' n' _ ⟨hc,q0,q1,q2,q3⟩=> ?_
 have h:=h hc q0
 subst q1;subst q2;subst q3
 generalize st0=s0 at*
 have e1:back (tau 0 nx (nth [])) (hp [(0,⟨1,64,s0.words.map aJ⟩),(1,⟨1,hc,s0.holds.map aJ⟩),(2,⟨1,3,s0.asked.map aJ⟩),(3,⟨5,0,s0.told.map aS⟩)]) 4 H=((((H.set nx ⟨1,64,s0.words.map aJ⟩).set (nx+1) ⟨1,hc,s0.holds.map aJ⟩).set (nx+2) ⟨1,3,s0.asked.map aJ⟩).set (nx+3) ⟨5,0,s0.told.map aS⟩):=by
  simp[back,hp,aA.set,aA.nil,tau,nth,uB,aP2,aA.eL,aA.yI]
 rw[←e1] at h
 exact h
theorem aL7 (w:List Int) (hl:w.length<2^20):aB Tryz.prog aIW [dA [.isl (w.map aJ)]] .nil 0 fun rr _ nn=>nn=0∧rr.imm=true∧rr=dA [.isl (w.map aJ)]:=by
 refine aKY rfl fun Q hQ=> ?_
 unfold aJE
 repeat' (first| (with_reducible first| (refine hK _ _ _ ?_;clear hK K)|refine Z1 ?_|refine fun(cap:Nat) (hcap:_≤cap)=> ?_|refine fun(hcp:_≤cap)=> ?_)| (with_reducible refine Y2 fun K hK=> ?_)<;>(simp only[go_sem])| ((with_reducible refine Y8 ?_);try simp only[AQ.then,AQ.blk,reduceIte,Nat.reduceEqDiff])|refine⟨by omega,?_⟩|fail)
 all_goals exact V4 hQ (dA [.isl (w.map aJ)]) _ rfl (aH (bW bF rfl rfl (by omega) trivial) eP) rfl rfl
theorem aMB {w:List Int} (hl:w.length<2^20) (h:K (dA [.isl (w.map aJ)]) H nx):aB Tryz.prog aIW [dA [.isl (w.map aJ)]] H nx K:=
 (aL7 w hl).fresh rfl (fun r hr=>hr▸h)
theorem aLP (w u:List Int) (hl:w.length<2^20) (hu:u.length<2^20):aB Tryz.prog aIR [dA [.isl (w.map aJ),.isl (u.map aJ)]] .nil 0 fun rr _ nn=>nn=0∧rr.imm=true∧rr=dA [.isl (w.map aJ),.isl (u.map aJ)]:=by
 refine aKW rfl fun Q hQ=> ?_
 unfold aJH
 repeat' (first| (with_reducible first| (refine hK _ _ _ ?_;clear hK K)|refine Z1 ?_|refine fun(cap:Nat) (hcap:_≤cap)=> ?_|refine fun(hcp:_≤cap)=> ?_)| (first| (with_reducible refine Y2 fun K hK=> ?_)| (with_reducible refine aMB hl ?_))<;>(simp only[go_sem])| ((with_reducible refine Y8 ?_);try simp only[AQ.then,AQ.blk,reduceIte,Nat.reduceEqDiff])|refine⟨by omega,?_⟩|fail)
 all_goals exact V4 hQ (dA [.isl (w.map aJ),.isl (u.map aJ)]) _ rfl (aH (bB rfl) (aH (bW bF rfl rfl (by omega) trivial) eP)) rfl rfl
theorem aKA {w:List Int} {u:List Int} (hl:w.length<2^20) (hu:u.length<2^20) (h:K (dA [.isl (w.map aJ),.isl (u.map aJ)]) H nx):aB Tryz.prog aIR [dA [.isl (w.map aJ),.isl (u.map aJ)]] H nx K:=
 (aLP w u hl hu).fresh rfl (fun r hr=>hr▸h)
theorem aMZ (r:Rsp) (hl:r.data.length<2^20):aB Tryz.prog aI8 [dA (tG r)] .nil 0 fun rr _ nn=>nn=0∧rr.imm=true∧rr=dA (tG r):=by
 refine aLO rfl fun Q hQ=> ?_
 unfold aJN
 repeat' (first| (with_reducible first| (refine hK _ _ _ ?_;clear hK K)|refine Z1 ?_|refine fun(cap:Nat) (hcap:_≤cap)=> ?_|refine fun(hcp:_≤cap)=> ?_)| (with_reducible refine Y2 fun K hK=> ?_)<;>(simp only[go_sem])| ((with_reducible refine Y8 ?_);try simp only[AQ.then,AQ.blk,reduceIte,Nat.reduceEqDiff])|refine⟨by omega,?_⟩|fail)
 all_goals exact V4 hQ (dA (tG r)) _ rfl (aH (bB rfl) (aH (bB rfl) (aH (bW bF rfl rfl (by omega) trivial) eP))) rfl rfl
theorem aMW {r:Rsp} (hl:r.data.length<2^20) (h:K (dA (tG r)) H nx):aB Tryz.prog aI8 [dA (tG r)] H nx K:=
 (aMZ r hl).fresh rfl (fun r hr=>hr▸h)
theorem aL1 (l:List Job) (hl:l.length<2^20) (hd: ∀j∈l,j.rsp.data.length<2^20):aB Tryz.prog aIM [dS (l.map aS)] .nil 0 fun rr _ nn=>nn=0∧rr.imm=true∧rr=dS (l.map aS):=by
 refine aLL rfl fun Q hQ=> ?_
 unfold aJF
 repeat' (first| (with_reducible first| (refine hK _ _ _ ?_;clear hK K)|refine Z1 ?_|refine Z3 fun KB hKB=> ?_)| (with_reducible refine Y2 fun K hK=> ?_)<;>(simp only[go_sem])|fail)
 (have hKX:=hKB;clear hKB)
 refine aM.sG 1 (β:=Nat×Nat) (fun b u=>en [(4,dI u.1),(3,dO 5 b u.1 u.2),(0,dS (l.map aS))])
  (fun b u=>hp [(b,⟨5,u.2,(l.take u.1).map aS⟩)]) (fun u=>u.1≤l.length∧u.1≤u.2) (fun u=>l.length-u.1) (0,0) (by(refine cR [1] (by omega) (by repeat' (first| (with_reducible first|exact C1|refine C2 ?_ ?_)| ((with_reducible refine C0 ?_);exact CC)| ((with_reducible refine D0 ?_);first|exact CA rfl|refine CJ ?_)|fail)) ⟨⟨by simp,by simp[sgL],_,rfl,bP (aG dZ _) rfl rfl⟩,trivial⟩ (by simp[sgL]))) ⟨by omega,by omega⟩ ?_
 rintro⟨k,cap⟩ ⟨hk,hc⟩ KL hKL
 dsimp only at hk hc
 have htt:(l.take k).take k=l.take k:=List.take_of_length_le (by simp;omega)
 by_cases hlt:k<l.length
 ·have hm:=hd _ (cC hlt)
  repeat' (first| (with_reducible first| (refine hK _ _ _ ?_;clear hK K)| (refine hA ?_;clear hA hB A B)|refine Z1 ?_|refine Z2 ?_|refine Z3 fun KB hKB=> ?_|refine Z4 (by omega) ?_|refine fun(cap:Nat) (hcap:_≤cap)=> ?_|refine fun(hcp:_≤cap)=> ?_)| (first| (with_reducible first|refine Y2 fun K hK=> ?_|refine Y3 fun A B hA hB=> ?_)| (with_reducible refine aMW hm ?_))<;>(simp only[go_sem,htt,aM8];try simp (disch:=omega) only[Iw])| ((with_reducible refine Y0 ?_);simp only[AQ.then,AQ.blk])|refine⟨by omega,?_⟩| (refine⟨by(rw[List.length_take];omega),?_⟩)| (with_reducible refine hKB _ _ _ ?_)|fail)
  all_goals exact hKL _ _ _ (k+1,cap) (by omega) (by(refine cR [28] (by omega) (by repeat' (first| (with_reducible first|exact C1|refine C2 ?_ ?_)| ((with_reducible refine C0 ?_);exact CQ (by omega) rfl rfl (by rfl) rfl)| ((with_reducible refine D0 ?_);first|exact CA rfl|refine CJ ?_)|fail)) ⟨⟨by simp,by simp[sgL],_,rfl,bP (aG dZ _) (by rw[nK hlt]) rfl⟩,trivial⟩ (by simp[sgL]))) ⟨by dsimp only;omega,by dsimp only;omega⟩ (by dsimp only;omega)
 ·repeat' (first| (with_reducible first| (refine hK _ _ _ ?_;clear hK K)| (refine hB ?_;clear hA hB A B)|refine Z1 ?_|refine Z5 (by omega) ?_|refine hKX _ _ _ ?_)| (with_reducible first|refine Y2 fun K hK=> ?_|refine Y3 fun A B hA hB=> ?_)<;>(simp only[go_sem])| ((with_reducible first|refine Y8 ?_|refine Y9 ?_);try simp only[AQ.then,AQ.blk,reduceIte,Nat.reduceEqDiff])|fail)
  have hk2:k=l.length:=by omega
  subst hk2
  exact V4 hQ (dS (l.map aS)) _ rfl (DJ (rows:=l.map aS) (aG dZ _) (by simp) trivial rfl rfl (by simp[List.take_of_length_le]) (by simp;omega)) rfl rfl
theorem aI1 {l:List Job} (hl:l.length<2^20) (hd: ∀j∈l,j.rsp.data.length<2^20) (h:K (dS (l.map aS)) H nx):aB Tryz.prog aIM [dS (l.map aS)] H nx K:=
 (aL1 l hl hd).fresh rfl (fun r hr=>hr▸h)
theorem aLT (c:Cfg) (s:TSt) (hb:aQ c) (hs:BA c s) (hd: ∀j∈s.wait++s.done++s.told,j.rsp.data.length<2^20):aB Tryz.prog aI0 [dA (eSt s)] .nil 0 fun rr _ nn=>nn=0∧rr.imm=true∧rr=dA (eSt s):=by
 refine aK9 rfl fun Q hQ=> ?_
 unfold aJB
 have hl:=hs.lens hb
 have hwl:=hs.atm.wl
 have hhl:=hs.atm.hl
 have hal:=hs.JI
 repeat' (first| (with_reducible first| (refine hK _ _ _ ?_;clear hK K)|refine Z1 ?_|refine fun(cap:Nat) (hcap:_≤cap)=> ?_|refine fun(hcp:_≤cap)=> ?_)| (first| (with_reducible refine Y2 fun K hK=> ?_)| (with_reducible refine aKA (by omega) (by omega) ?_)| (with_reducible refine aI1 (l:=s.wait) (by omega) (fun j hj=>hd j (by simp[hj])) ?_)| (with_reducible refine aI1 (l:=s.done) (by omega) (fun j hj=>hd j (by simp[hj])) ?_)| (with_reducible refine aI1 (l:=s.told) (by omega) (fun j hj=>hd j (by simp[hj])) ?_))<;>(simp only[go_sem])| ((with_reducible refine Y8 ?_);try simp only[AQ.then,AQ.blk,reduceIte,Nat.reduceEqDiff])|refine⟨by omega,?_⟩|fail)
 all_goals exact V4 hQ (dA (eSt s)) _ rfl (aH (bB rfl) (aH (bB rfl) (aH (bW bF rfl rfl (by omega) trivial) (aH (bB rfl) (aH (bB rfl) (aH (bB rfl) eP)))))) rfl rfl
theorem aLV {c:Cfg} {s:TSt} (hb:aQ c) (hs:BA c s) (hd: ∀j∈s.wait++s.done++s.told,j.rsp.data.length<2^20) (h:K (dA (eSt s)) H nx):aB Tryz.prog aI0 [dA (eSt s)] H nx K:=
 (aLT c s hb hs hd).fresh rfl (fun r hr=>hr▸h)
end
end Go.Proofs.YtegiblhkjfiooaaGreat
end
section
namespace Go.Proofs.YtegiblhkjfiooaaGreat
open Go Go.AM
set_option maxRecDepth 100000
end Go.Proofs.YtegiblhkjfiooaaGreat
end
section
namespace Go.Proofs.YtegiblhkjfiooaaGreat
open Go Go.AM
set_option maxRecDepth 100000
end Go.Proofs.YtegiblhkjfiooaaGreat
end
section
namespace Go.Proofs.YtegiblhkjfiooaaGreat
open Go Go.AM
set_option maxRecDepth 100000
set_option maxHeartbeats 8000000
section
variable {H : aA} {nx : Nat} {K : D → aA → Nat → Prop}
end
end Go.Proofs.YtegiblhkjfiooaaGreat
end
section
namespace Go.Proofs.YtegiblhkjfiooaaGreat
open Go Go.AM
set_option maxRecDepth 100000
set_option maxHeartbeats 8000000
section
variable {H : aA} {nx : Nat} {K : D → aA → Nat → Prop}
end
end Go.Proofs.YtegiblhkjfiooaaGreat
end
section
namespace Go.AM
theorem abY.frame {H H':aA} {nm:Nat→Nat} {s:CSt} {cells:List D1} (h:abY H nm s cells) (hf: ∀k,k<19→H' (nm k)=H (nm k)):abY H' nm s cells:=by
 obtain⟨⟨wc,hc,pc,vc,tc,q1,q2,q3,q4,q5⟩,⟨m,rows,j1,j2,j3⟩,⟨m',rows',j4,j5,j6⟩⟩:=h
 refine⟨⟨wc,hc,pc,vc,tc,q1,q2.frame (hf _ (by omega)),q3.frame (hf _ (by omega)),q4.frame (hf _ (by omega)),q5⟩,⟨m,rows,by rw[hf 2 (by omega)];exact j1,j2,fun k hk=> ?_⟩,⟨m',rows',by rw[hf 3 (by omega)];exact j4,j5,fun k hk=> ?_⟩⟩
 ·obtain⟨r,k1,k2⟩:=j3 k hk
  exact⟨r,k1,k2.frame (hf _ (by omega)) (hf _ (by omega))⟩
 ·obtain⟨r,k1,k2⟩:=j6 k hk
  exact⟨r,k1,k2.frame (hf _ (by omega)) (hf _ (by omega))⟩
end Go.AM
namespace Go.Proofs.YtegiblhkjfiooaaGreat
open Go Go.AM
set_option maxRecDepth 100000
set_option maxHeartbeats 8000000
section
variable {H : aA} {nx : Nat} {K : D → aA → Nat → Prop}
end
end Go.Proofs.YtegiblhkjfiooaaGreat
end
section
namespace Go.AM
theorem aB.ao4 {P:Program} {f:FuncId} {args args':List D} {H:aA} {nx:Nat} {K:D→aA→Nat→Prop} (H':aA) (F:Nat→Prop) (hl:args.length=args'.length) (hA: ∀(i:Nat) (d0 d:D),args'[i]?=some d0→args[i]?=some d→CvD H F id nx d0 d) (hH:CvX F nx H H') (h:aB P f args' H' nx K):aB P f args H nx K:=by
 refine⟨h.1,fun c vs hs hN hlen hrel=> ?_⟩
 obtain⟨k1,k2⟩:=YO hs (Step.refl c H) hN hH
 refine(h.2 (c.conv nx nx id (c.frI H F)) vs k1 (fun i hi=> ?_) (by omega) fun i d v h1 h2=> ?_).mono ?_
 ·rcases hi with⟨_,hi⟩|⟨h1,h2,h3⟩
  ·exact hN i hi
  ·omega
 ·have hi:i<args.length:=by have:=(List.getElem?_eq_some_iff.1 h1).1;omega
  exact zD hs (fun b h=>.inl h) (fun id o h1 h2 h3=>.inr ⟨id,o,h1,h2,h3,rfl⟩) (fun _ _=>rfl) (hA i d _ h1 (List.getElem?_eq_getElem hi)) (hrel i _ v (List.getElem?_eq_getElem hi) h2)
 ·rintro x w' ⟨v,c2,r,H2,n2,rfl,rfl,p1,p2,p3,p4,p5,p6⟩
  refine⟨v,c2,r,H2,n2,rfl,rfl,p1,k2.trans p2,fun i hi=> ?_,p4,p5,p6⟩
  rcases p3 i hi with h|h
  ·rcases h with⟨_,hi⟩|⟨h1,h2,h3⟩
   ·exact .inl hi
   ·omega
  ·exact .inr h
open Classical in
noncomputable def without (F:Nat→Prop) (H:aA):aA:=fun j=>if F j then none else H j
theorem iI {F:Nat→Prop} {H:aA} {j:Nat} (h: ¬F j):without F H j=H j:=by unfold without;rw[if_neg h]
theorem kS {F:Nat→Prop} {H:aA} {nx:Nat}:CvX F nx H (without F H):=fun j x hj=>by
 by_cases h:F j
 ·unfold without at hj;rw[if_pos h] at hj;cases hj
 ·rw[iI h] at hj;exact⟨h,x,hj,.inl rfl⟩
end Go.AM
namespace Go.Proofs.YtegiblhkjfiooaaGreat
open Go Go.AM
set_option maxRecDepth 100000
set_option maxHeartbeats 8000000
section
variable {H : aA} {nx : Nat} {K : D → aA → Nat → Prop}
end
end Go.Proofs.YtegiblhkjfiooaaGreat
end
section
namespace Go.AM
theorem aM.aTJ {P:Program} {T:Nat} {e:Env} {H:aA} {nx:Nat} {Q:AQ} {zs:List AC} (h: ∀G,G=H→aM P T zs e G nx Q):aM P T zs e H nx Q:=h H rfl
def Own {α:Type} (enc:α→List D1) (n:Nat) (H:aA) (b cap:Nat) (l:List α):Prop:=∃m,H b=some ⟨n,m,l.map enc⟩∧l.length≤cap∧cap≤m
theorem Own.of {α:Type} {enc:α→List D1} {n b cap:Nat} {l:List α} {H H':aA} (h:Own enc n H b cap l) (he:H' b=H b):Own enc n H' b cap l:=by
 obtain⟨m,h1,h2⟩:=h
 exact⟨m,he.trans h1,h2⟩
theorem Own.frz {α:Type} {enc:α→List D1} {n b cap nh:Nat} {l:List α} {H:aA} {F:Nat→Prop} {σ:Nat→Nat} (h:Own enc n H b cap l) (he: ∀x,(enc x).length=n∧(enc x).all D1.dQ=true) (hF:F b):Cv1 H F σ nh (.isl (l.map enc)) (.osl n b 0 l.length cap):=by
 obtain⟨m,h1,h2,h3⟩:=h
 exact bW he h1 rfl h2 hF
theorem um1 {b k i:Nat} {A B:aA} (h:i≠b+k):dT b [k] A B i=B i:=by unfold dT;rw[if_neg (by simp;omega)]
theorem aH6 {b k:Nat} {A B:aA}:dT b [k] A B (b+k)=A (b+k):=by unfold dT;rw[if_pos (by simp)]
theorem mk1 {b k i:Nat} {A:aA} (h:i≠b+k):msk b [k] A i=A i:=by unfold msk;rw[if_neg (by simp;omega)]
theorem aTY {H:aA} {F:Nat→Prop} {σ:Nat→Nat} {nh:Nat} {rows:List (List D1)} {n id off len cap:Nat} {o:bA} (hi:alR n rows) (hl:len=rows.length) (hF:F id) (ho:H id=some o) (hn:o.n=n) (hlen:off+rows.length≤o.rows.length) (hr:(o.rows.drop off).take rows.length=rows) (hc:rows.length≤cap):Cv1 H F σ nh (.isl rows) (.osl n id off len cap):=by
 subst hl
 have hg: ∀i:Nat,∀r',rows[i]?=some r'→o.rows[off+i]?=some r':=by
  intro i r' h
  rw[←hr,List.getElem?_take] at h
  split at h
  ·rw[List.getElem?_drop] at h;exact h
  ·cases h
 refine .frz (.frz rows n id off cap o (fun i j=>((rows[i]?.getD [])[j]?).getD .dead) hF ho hn hlen hc (fun i r' h=>(hi r' (List.mem_of_getElem? h)).1) (fun i j r' d' h1 h2=>⟨r',hg i r' h1,by rw[h1];simp[h2]⟩) fun i j r' d' h1 h2=> ?_)
 rw[h1]
 simp only[Option.getD_some,h2]
 exact .same d' ((hi r' (List.mem_of_getElem? h1)).2 d' (List.mem_of_getElem? h2))
end Go.AM
namespace Go.Proofs.YtegiblhkjfiooaaGreat
open Go Go.AM
set_option maxRecDepth 100000
set_option maxHeartbeats 8000000
section
variable {H : aA} {nx : Nat} {K : D → aA → Nat → Prop}
theorem aQ5:cJ Tryz.prog aIM Tryz.f172 aJF aJZ:=cJ.mk Tryz.func172 (by kernel_rfl) aLH
theorem aNQ {l:List Job} (hl:l.length<2^20) (hd: ∀j∈l,j.rsp.data.length<2^20)
 (h: ∀H' nx' b cap,nx≤b→b<nx'→Own aS 5 H' b cap l→(∀id,id<nx→H' id=H id)→K (.one (.c (.osl 5 b 0 l.length cap))) H' nx'):aB Tryz.prog aIM [dS (l.map aS)] H nx K:=by
 refine aQ5 rfl fun Q hQ=> ?_
 unfold aJF
 repeat' (first| (with_reducible first| (refine hK _ _ _ ?_;clear hK K)|refine Z1 ?_|refine Z3 fun KB hKB=> ?_)| (with_reducible refine Y2 fun K hK=> ?_)<;>(simp only[go_sem,Nat.add_assoc,Nat.left_eq_add,Nat.add_eq_left])|fail)
 (have hKX:=hKB;clear hKB)
 refine aM.gP (β:=Nat×Nat×Nat) (fun u=>en [(4,dI u.1),(3,.one (.c (.osl 5 u.2.1 0 u.1 u.2.2))),(0,dS (l.map aS))])
  (fun u H1 nx1=>u.1≤l.length∧(∃m,H1 u.2.1=some ⟨5,m,(l.take u.1).map aS⟩∧u.1≤u.2.2∧u.2.2≤m)∧(nx≤u.2.1∧u.2.1<nx1)∧ ∀id,id<nx→H1 id=H id)
  (fun u=>l.length-u.1) (0,nx+1,0) ⟨noF,_,by repeat' (first| (with_reducible first|exact C1|refine C2 ?_ ?_)| ((with_reducible refine C0 ?_);exact CC)| ((with_reducible refine D0 ?_);first|exact CA rfl|refine CJ ?_)|fail),aK,by dsimp only;omega,⟨0,by simp only[aA.set,if_true];rfl,by dsimp only;omega,by dsimp only;omega⟩,by dsimp only;omega,fun id hid=>by simp only[aA.set,show ¬id=nx+1 by omega,if_false]⟩ ?_
 rintro⟨k,b,cap⟩ H1 nx1 hnx ⟨hk,⟨m,g1,g2,g3⟩,⟨hb1,hb2⟩,hfr⟩ KL hKL
 dsimp only at hk g1 g2 g3 hb1 hb2
 have htt:(l.take k).take k=l.take k:=List.take_of_length_le (by simp;omega)
 have hA:bQ nx1 [b]:=AM.apart (by simp) (by simp;omega)
 simp only[bQ,eZ] at hA
 by_cases hlt:k<l.length
 ·have hm:=hd _ (cC hlt)
  have hb3:b<nx1+(4+2):=by omega
  repeat' (first| (with_reducible first| (refine hK _ _ _ ?_;clear hK K)| (refine hA ?_;clear hA hB A B)|refine Z1 ?_|refine Z2 ?_|refine Z3 fun KB hKB=> ?_|refine Z4 (by omega) ?_|refine fun(cap:Nat) (hcap:_≤cap)=> ?_|refine fun(hcp:_≤cap)=> ?_)| (first| (with_reducible first|refine Y2 fun K hK=> ?_|refine Y3 fun A B hA hB=> ?_)| (with_reducible refine aMW hm ?_))<;>(simp only[go_sem,htt,aM8,g1,hA,Nat.add_assoc,Nat.left_eq_add,Nat.add_eq_left];try simp (disch:=omega) only[Iw])| ((with_reducible refine Y0 ?_);simp only[AQ.then,AQ.blk])|refine⟨by omega,?_⟩| (refine⟨by(rw[List.length_take];omega),?_⟩)| (with_reducible refine hKB _ _ _ ?_)|fail)
  refine hKL _ _ _ (k+1,nx1+23,cap) noF _ (by omega) (by dsimp only;omega) (by dsimp only;repeat' (first| (with_reducible first|exact C1|refine C2 ?_ ?_)| ((with_reducible refine C0 ?_);exact CQ (by omega) rfl rfl (by rfl) rfl)| ((with_reducible refine D0 ?_);first|exact CA rfl|refine CJ ?_)|fail)) aK ⟨by dsimp only;omega,⟨cap,by rw[nK hlt];exact aA.bH,by dsimp only;omega,Nat.le_refl _⟩,by dsimp only;omega,fun id hid=> ?_⟩
  rw[aA.aC (by omega),aA.aC (by omega),aA.jG (by omega)]
  exact hfr id hid
 ·repeat' (first| (with_reducible first| (refine hK _ _ _ ?_;clear hK K)| (refine hB ?_;clear hA hB A B)|refine Z1 ?_|refine Z5 (by omega) ?_|refine hKX _ _ _ ?_)| (with_reducible first|refine Y2 fun K hK=> ?_|refine Y3 fun A B hA hB=> ?_)<;>(simp only[go_sem])| ((with_reducible first|refine Y8 ?_|refine Y9 ?_);try simp only[AQ.then,AQ.blk,reduceIte,Nat.reduceEqDiff])|fail)
  have hk2:k=l.length:=by omega
  subst hk2
  refine hQ _ _ _ _ _ (.inr rfl) rfl (h _ _ b cap hb1 (by omega) ⟨m,?_,g2,g3⟩ hfr)
  rw[g1,List.take_length]
theorem aQ3:cJ Tryz.prog aIW Tryz.f226 aJE aJ3:=cJ.mk Tryz.func226 (by kernel_rfl) aK8
theorem aRC {w:List Int} (hl:w.length<2^20) (h: ∀H' nx' b cap,nx≤b→b<nx'→Own aJ 1 H' b cap w→(∀id,id<nx→H' id=H id)→K (dA [.osl 1 b 0 w.length cap]) H' nx'):aB Tryz.prog aIW [dA [.isl (w.map aJ)]] H nx K:=by
 refine aQ3 rfl fun Q hQ=> ?_
 unfold aJE
 repeat' (first| (with_reducible first| (refine hK _ _ _ ?_;clear hK K)|refine Z1 ?_|refine fun(cap:Nat) (hcap:_≤cap)=> ?_|refine fun(hcp:_≤cap)=> ?_)| (with_reducible refine Y2 fun K hK=> ?_)<;>(simp only[go_sem,Nat.add_assoc,Nat.left_eq_add,Nat.add_eq_left])| ((with_reducible refine Y8 ?_);try simp only[AQ.then,AQ.blk,reduceIte,Nat.reduceEqDiff])|refine⟨by omega,?_⟩|fail)
 refine hQ _ _ _ _ _ (.inr rfl) (fZ (m:=1) rfl (by simp only[aA.set,Nat.add_left_cancel_iff,Nat.reduceEqDiff,if_false,if_true]) rfl) (h _ _ (nx+2+3) cap (by omega) (by omega) ⟨cap,by simp only[aA.set,Nat.add_assoc,Nat.add_left_cancel_iff,Nat.reduceEqDiff,Nat.reduceAdd,if_false,if_true],by assumption,Nat.le_refl _⟩ fun id hid=> ?_)
 rw[aA.aC (by omega),aA.aC (by omega),aA.aC (by omega),aA.jG (by omega)]
theorem aQS:cJ Tryz.prog aIR Tryz.f171 aJH aJ4:=cJ.mk Tryz.func171 (by kernel_rfl) aLG
theorem aQE {w u:List Int} (hl:w.length<2^20) (hu:u.length<2^20) (h: ∀H' nx' b0 b1 c0 c1,nx≤b1→b1<b0→b0<nx'→Own aJ 1 H' b0 c0 w→Own aJ 1 H' b1 c1 u→(∀id,id<nx→H' id=H id)→K (dA [.osl 1 b0 0 w.length c0,.osl 1 b1 0 u.length c1]) H' nx'):aB Tryz.prog aIR [dA [.isl (w.map aJ),.isl (u.map aJ)]] H nx K:=by
 refine aQS rfl fun Q hQ=> ?_
 unfold aJH
 repeat' (first| (with_reducible first| (refine hK _ _ _ ?_;clear hK K)|refine Z1 ?_)| (first| (with_reducible refine Y2 fun K hK=> ?_)| (refine aRC hl (fun H1 nx1 b0 c0 hb1 hb2 ho hfr=> ?_)))<;>(simp only[go_sem,Nat.add_assoc,Nat.left_eq_add,Nat.add_eq_left])|fail)
 obtain⟨G,hG⟩: ∃G,G=dT (nx+2) [3] (((H.set nx ⟨2,1,[[.isl (w.map aJ),.isl (u.map aJ)]]⟩).set (nx+1) ⟨2,1,[[.osl 0 0 0 0 0,.osl 0 0 0 0 0]]⟩).set (nx+5) ⟨1,0,[]⟩) H1:=⟨_,rfl⟩
 rw[←hG]
 have g0:G nx=some ⟨2,1,[[.isl (w.map aJ),.isl (u.map aJ)]]⟩:=by rw[hG,um1 (by omega),hfr _ (by omega),aA.aC (by omega)];exact aA.bH
 have g1:G (nx+1)=some ⟨2,1,[[.osl 0 0 0 0 0,.osl 0 0 0 0 0]]⟩:=by rw[hG,um1 (by omega),hfr _ (by omega)];exact aA.bH
 have g5:G (nx+5)=some ⟨1,0,[]⟩:=by rw[hG,aH6];exact aA.bH
 have gb:Own aJ 1 G b0 c0 w:=ho.of (by rw[hG,um1 (by omega)])
 have gf: ∀id,id<nx→G id=H id:=fun id hid=>by rw[hG,um1 (by omega),hfr _ (by omega),aA.aC (by omega),aA.aC (by omega),mk1 (by omega)]
 clear hG
 have m0: ∀G:aA,msk (nx+2) [3] G nx=G nx:=fun G=>mk1 (by omega)
 refine⟨fun _=>by rw[m0,g0];rfl,?_⟩
 simp only[go_sem,g0,g1,g5,m0,Nat.add_assoc,Nat.left_eq_add,Nat.add_eq_left]
 repeat' (first| (with_reducible first| (refine hK _ _ _ ?_;clear hK K)|refine fun(cap:Nat) (hcap:_≤cap)=> ?_|refine fun(hcp:_≤cap)=> ?_)| ((with_reducible refine Y8 ?_);try simp only[AQ.then,AQ.blk,reduceIte,Nat.reduceEqDiff])|refine⟨by omega,?_⟩|fail)
 exact hQ _ _ _ _ _ (.inr rfl) (fZ (m:=1) rfl aA.bH rfl) (h _ _ b0 (nx+8) c0 cap (by omega) (by omega) (by omega) (gb.of (by rw[aA.aC (by omega),aA.aC (by omega),aA.jG (by omega)])) ⟨cap,by rw[aA.aC (by omega)];exact aA.bH,by assumption,Nat.le_refl _⟩ fun id hid=>by rw[aA.aC (by omega),aA.aC (by omega),aA.jG (by omega)];exact gf id hid)
theorem aRU:cJ Tryz.prog aI0 Tryz.f100 aJB aJW:=cJ.mk Tryz.func100 (by kernel_rfl) aLD
theorem aQR {s:TSt} (hf:aTQ s) (h: ∀H' nx' b0 b1 b2 b3 b4 b5 c0 c1 c2 c3 c4 c5,nx≤b2→b2<b1→b1<b0→b0<b3→b3<b4→b4<b5→b5<nx'→Own aJ 1 H' b0 c0 s.words→Own aJ 1 H' b1 c1 s.holds→Own aJ 1 H' b2 c2 s.asked→Own aS 5 H' b3 c3 s.wait→Own aS 5 H' b4 c4 s.done→Own aS 5 H' b5 c5 s.told→(∀id,id<nx→H' id=H id)→
 K (dA [.osl 1 b0 0 s.words.length c0,.osl 1 b1 0 s.holds.length c1,.osl 1 b2 0 s.asked.length c2,.osl 5 b3 0 s.wait.length c3,.osl 5 b4 0 s.done.length c4,.osl 5 b5 0 s.told.length c5]) H' nx'):aB Tryz.prog aI0 [dA (eSt s)] H nx K:=by
 have hd3: ∀j∈s.wait,j.rsp.data.length<2^20:=fun j hj=>hf.data j (by simp[hj])
 have hd4: ∀j∈s.done,j.rsp.data.length<2^20:=fun j hj=>hf.data j (by simp[hj])
 have hd5: ∀j∈s.told,j.rsp.data.length<2^20:=fun j hj=>hf.data j (by simp[hj])
 have haf:=hf.asked
 refine aRU rfl fun Q hQ=> ?_
 unfold aJB
 repeat' (first| (with_reducible first| (refine hK _ _ _ ?_;clear hK K)|refine Z1 ?_)| (first| (with_reducible refine Y2 fun K hK=> ?_)| (refine aQE hf.words hf.holds (fun H1 nx1 b0 b1 c0 c1 hb1 hb2 hb3 ho0 ho1 hfr=> ?_)))<;>(simp only[go_sem,Nat.add_assoc,Nat.left_eq_add,Nat.add_eq_left])|fail)
 obtain⟨G,hG⟩: ∃G,G=dT (nx+2) [3] (((H.set nx ⟨6,1,[eSt s]⟩).set (nx+1) ⟨6,1,[[.osl 0 0 0 0 0,.osl 0 0 0 0 0,.osl 0 0 0 0 0,.osl 0 0 0 0 0,.osl 0 0 0 0 0,.osl 0 0 0 0 0]]⟩).set (nx+5) ⟨1,0,[]⟩) H1:=⟨_,rfl⟩
 rw[←hG]
 have g0:G nx=some ⟨6,1,[eSt s]⟩:=by rw[hG,um1 (by omega),hfr _ (by omega),aA.aC (by omega)];exact aA.bH
 have g1:G (nx+1)=some ⟨6,1,[[.osl 0 0 0 0 0,.osl 0 0 0 0 0,.osl 0 0 0 0 0,.osl 0 0 0 0 0,.osl 0 0 0 0 0,.osl 0 0 0 0 0]]⟩:=by rw[hG,um1 (by omega),hfr _ (by omega)];exact aA.bH
 have g5:G (nx+5)=some ⟨1,0,[]⟩:=by rw[hG,aH6];exact aA.bH
 have go0:Own aJ 1 G b0 c0 s.words:=ho0.of (by rw[hG,um1 (by omega)])
 have go1:Own aJ 1 G b1 c1 s.holds:=ho1.of (by rw[hG,um1 (by omega)])
 have gf: ∀id,id<nx→G id=H id:=fun id hid=>by rw[hG,um1 (by omega),hfr _ (by omega),aA.aC (by omega),aA.aC (by omega),mk1 (by omega)]
 clear hG ho0 ho1 hfr
 have m0: ∀G:aA,msk (nx+2) [3] G nx=G nx:=fun G=>mk1 (by omega)
 simp only[m0,g0]
 refine⟨⟨fun _=>rfl,fun _=>rfl,fun _=>rfl,fun _=>rfl⟩,?_⟩
 simp only[go_sem,g0,g1,g5,Nat.add_assoc,Nat.left_eq_add,Nat.add_eq_left]
 refine⟨by omega,fun c2 hc2 _=> ?_⟩
 refine aNQ hf.wait hd3 fun H2 nx2 b3 c3 p1 p2 o3 fr3=> ?_
 have k0:H2 nx=some ⟨6,1,[eSt s]⟩:=by rw[fr3 _ (by omega),aA.aC (by omega),aA.jG (by omega)];exact g0
 have k1:H2 (nx+1)=some ⟨6,1,[[.osl 0 0 0 0 0,.osl 0 0 0 0 0,.osl 0 0 0 0 0,.osl 0 0 0 0 0,.osl 0 0 0 0 0,.osl 0 0 0 0 0]]⟩:=by rw[fr3 _ (by omega),aA.aC (by omega),aA.jG (by omega)];exact g1
 have ko0:Own aJ 1 H2 b0 c0 s.words:=go0.of (by rw[fr3 _ (by omega),aA.aC (by omega),aA.jG (by omega)])
 have ko1:Own aJ 1 H2 b1 c1 s.holds:=go1.of (by rw[fr3 _ (by omega),aA.aC (by omega),aA.jG (by omega)])
 have ko2:Own aJ 1 H2 (nx+8) c2 s.asked:=⟨c2,by rw[fr3 _ (by omega)];exact aA.bH,hc2,Nat.le_refl _⟩
 have kf: ∀id,id<nx→H2 id=H id:=fun id hid=>by rw[fr3 _ (by omega),aA.aC (by omega),aA.jG (by omega)];exact gf id hid
 clear g0 g1 g5 go0 go1 gf fr3
 simp only[go_sem,k0]
 refine aNQ hf.done hd4 fun H3 nx3 b4 c4 p3 p4 o4 fr4=> ?_
 have l0:H3 nx=some ⟨6,1,[eSt s]⟩:=by rw[fr4 _ (by omega)];exact k0
 simp only[go_sem,l0]
 refine aNQ hf.told hd5 fun H4 nx4 b5 c5 p5 p6 o5 fr5=> ?_
 have n0:H4 nx=some ⟨6,1,[eSt s]⟩:=by rw[fr5 _ (by omega)];exact l0
 have n1:H4 (nx+1)=some ⟨6,1,[[.osl 0 0 0 0 0,.osl 0 0 0 0 0,.osl 0 0 0 0 0,.osl 0 0 0 0 0,.osl 0 0 0 0 0,.osl 0 0 0 0 0]]⟩:=by rw[fr5 _ (by omega),fr4 _ (by omega)];exact k1
 have fr: ∀id,id<nx2→H4 id=H2 id:=fun id hid=>by rw[fr5 _ (by omega),fr4 _ (by omega)]
 simp only[go_sem,n0,n1]
 repeat' (first| (with_reducible (refine hK _ _ _ ?_;clear hK K))| ((with_reducible refine Y8 ?_);try simp only[AQ.then,AQ.blk,reduceIte,Nat.reduceEqDiff])|fail)
 exact hQ _ _ _ _ _ (.inr rfl) (fZ (m:=1) rfl aA.bH rfl) (h _ _ b0 b1 (nx+8) b3 b4 b5 c0 c1 c2 c3 c4 c5 (by omega) (by omega) (by omega) (by omega) (by omega) (by omega) (by omega)
  (ko0.of (by rw[aA.aC (by omega),fr _ (by omega)])) (ko1.of (by rw[aA.aC (by omega),fr _ (by omega)])) (ko2.of (by rw[aA.aC (by omega),fr _ (by omega)])) (o3.of (by rw[aA.aC (by omega),fr _ (by omega)])) (o4.of (by rw[aA.aC (by omega),fr5 _ (by omega)])) (o5.of (by rw[aA.aC (by omega)])) fun id hid=>by rw[aA.aC (by omega),fr _ (by omega)];exact kf id hid)
end
end Go.Proofs.YtegiblhkjfiooaaGreat
end
section
namespace Go.Proofs.YtegiblhkjfiooaaGreat
open Go Go.AM
set_option maxRecDepth 100000
set_option maxHeartbeats 4000000
section
variable {H : aA} {nx : Nat} {K : D → aA → Nat → Prop}
theorem K1 (l:List Int) (p:Nat) (n:Int) (hl:kZ l) (hp50:p<2^50) (hn: -2^31<n∧n<2^31):aB Tryz.prog aD [dP 2 0,dI n] (hp [(0,rdO l p)]) 1
 fun r H' n'=>n'=1∧ ∃o',H'=hp [(0,o')]∧C7 o'∧o'=rdO l (p+1)∧ ∃x:Int,r=dI x∧0≤x∧(x<n∨x=0):=by
 have hl2:=hl.len
 refine JN rfl fun Q hQ=> ?_
 unfold pG
 simp only[rdO]
 repeat' (first| (with_reducible first| (refine hK _ _ _ ?_;clear hK K)| (refine hA ?_;clear hA hB A B)| (refine hB ?_;clear hA hB A B)|refine Z1 ?_|refine Z2 ?_|refine Z6 (fun h=> ?_) fun h=> ?_)| (with_reducible first|refine Y2 fun K hK=> ?_|refine Y3 fun A B hA hB=> ?_|refine Y6 (fun h=> ?_) fun h=> ?_)<;>(simp only[go_sem];try simp (disch:=omega) only[Iw])| ((with_reducible refine Y8 ?_);try simp only[AQ.then,AQ.blk,reduceIte,Nat.reduceEqDiff])|refine⟨by omega,?_⟩|fail)
 ·exact lA hQ (dI 0) _ _ rfl (aE rfl) rfl (aV l (p+1)) ⟨rfl,0,rfl,by omega,by omega⟩
 ·exact lA hQ (dI 0) _ _ rfl (aE rfl) rfl (aV l (p+1)) ⟨rfl,0,rfl,by omega,by omega⟩
 ·have b1:=hl.at (p+1-1:Int).toNat
  rw[IntWalk.i64_in (l.getD _ _) (by omega)]
  exact lA hQ (dI _) _ _ rfl (aE rfl) rfl (aV l (p+1)) ⟨rfl,_,rfl,Int.tmod_nonneg _ (by omega),.inl (Int.tmod_lt_of_pos _ (by omega))⟩
 ·have e1:(p:Int)+1-1=p:=by omega
  rw[e1] at*
  have hl3:(0:Int)<l.length:=by omega
  have t1:=Int.tmod_nonneg (l.length:Int) (show (0:Int)≤p by omega)
  have t2:=Int.tmod_lt_of_pos (p:Int) hl3
  have t3:=Int.tmod_nonneg (l.length:Int) (show (0:Int)≤p*7+3 by omega)
  have t4:=Int.tmod_lt_of_pos ((p:Int)*7+3) hl3
  refine⟨⟨t1,t2⟩,by omega,⟨t3,t4⟩,by omega,hK _ _ _ ?_⟩
  clear hK K
  have b1:=hl.at ((p:Int).tmod l.length).toNat
  have b2:=hl.at ((p*7+3:Int).tmod l.length).toNat
  generalize l.getD ((p:Int).tmod l.length).toNat default=x1 at*
  generalize l.getD ((p*7+3:Int).tmod l.length).toNat default=x2 at*
  have d1:0≤(p:Int).tdiv l.length:=Int.tdiv_nonneg (by omega) (by omega)
  have d2:(p:Int).tdiv l.length≤p:=Int.tdiv_le_self _ (by omega)
  generalize (p:Int).tdiv l.length=q at*
  simp (disch:=omega) only[IntWalk.i64_in]
  have hx:0≤(x1:Int)*131+x2*1117+p*29+q*53∧(x1:Int)*131+x2*1117+p*29+q*53<2^60:=by omega
  generalize (x1:Int)*131+x2*1117+p*29+q*53=X at*
  have d3:0≤X.tdiv 64:=Int.tdiv_nonneg (by omega) (by omega)
  have d4:X.tdiv 64≤X:=Int.tdiv_le_self _ (by omega)
  have hy:=aq7 (a:=X) (b:=X.tdiv 64) (by omega) (by omega)
  repeat' (first| (with_reducible first| (refine hK _ _ _ ?_;clear hK K)|refine Z1 ?_)| (with_reducible refine Y2 fun K hK=> ?_)<;>(simp only[go_sem];try simp (disch:=omega) only[Iw])| ((with_reducible refine Y8 ?_);try simp only[AQ.then,AQ.blk,reduceIte,Nat.reduceEqDiff])|refine⟨by omega,?_⟩|fail)
  exact lA hQ (dI _) _ _ rfl (aE rfl) rfl (aV l (p+1)) ⟨rfl,_,rfl,Int.tmod_nonneg _ hy,.inl (Int.tmod_lt_of_pos _ (by omega))⟩
theorem aX {l:List Int} {p i:Nat} {n:Int} (hl:kZ l) (hp50:p<2^50) (hn: -2^31<n∧n<2^31) (hi:i<nx) (ho:H i=some (rdO l p)) (h: ∀x:Int,0≤x→(x<n∨x=0)→K (dI x) (H.set i (rdO l (p+1))) nx):
 aB Tryz.prog aD [dP 2 i,dI n] H nx K:=
 (K1 l p n hl hp50 hn).OU i rfl (gW ⟨DG (by omega) rfl,aE rfl,trivial⟩) hi ho (aV l p) fun r o' ⟨h1,x,h2,h3,h4⟩=>by
  subst h1;subst h2;exact h x h3 h4
theorem FJ (l:List Int) (p:Nat):aB Tryz.prog kE [dP 2 0,dI 99999] (hp [(0,rdO l p)]) 1
 fun r H' n'=>n'=1∧ ∃o',H'=hp [(0,o')]∧C7 o'∧o'=rdO l p∧r=dB false:=by
 refine LF rfl fun Q hQ=> ?_
 unfold rH
 repeat' (first| (with_reducible first| (refine hK _ _ _ ?_;clear hK K)|refine Z1 ?_)| (with_reducible refine Y2 fun K hK=> ?_)<;>(simp only[go_sem])| ((with_reducible refine Y8 ?_);try simp only[AQ.then,AQ.blk,reduceIte,Nat.reduceEqDiff])|fail)
 exact lA hQ (dB false) _ _ rfl (aE rfl) rfl (aV l p) ⟨rfl,rfl⟩
theorem uA {l:List Int} {p i:Nat} (hi:i<nx) (ho:H i=some (rdO l p)) (h:K (dB false) (H.set i (rdO l p)) nx):aB Tryz.prog kE [dP 2 i,dI 99999] H nx K:=
 (FJ l p).OU i rfl (gW ⟨DG (by omega) rfl,aE rfl,trivial⟩) hi ho (aV l p) fun r o' ⟨h1,h2⟩=>by
  subst h1;subst h2;exact h
end
end Go.Proofs.YtegiblhkjfiooaaGreat
end
