/- Texts laid together by a program: rules, contracts and the walk that leads to the law. -/
import Derived.Test.YtegiblhkjfiooaaGreatPr18
import Derived.Test.YtegiblhkjfiooaaGreatPr3
import Derived.Test.YtegiblhkjfiooaaGreatPr17
import Derived.Test.YtegiblhkjfiooaaGreatPr7
import Derived.Test.YtegiblhkjfiooaaGreatPr8
import Derived.Test.YtegiblhkjfiooaaGreatPr14
set_option linter.unusedVariables false
set_option linter.unusedSimpArgs false
set_option linter.unusedSectionVars false
section
namespace Go.Proofs.YtegiblhkjfiooaaGreat
open Go Go.AM
set_option maxRecDepth 100000
set_option maxHeartbeats 8000000
section
variable {H : aA} {nx : Nat} {K : D → aA → Nat → Prop}
theorem aDU (h: ∀H' nx' r s t,nx≤nx'→(nx≤r∧r<nx'∧nx≤s∧s<nx'∧nx≤t∧t<nx'∧r≠s∧r≠t∧s≠t)→H' r=some ⟨1,3,[true,true,true].map eH⟩→H' s=some ⟨1,4,[false,false,false,false].map eH⟩→H' t=some ⟨1,3,[true,true,true].map eH⟩→(∀id,id<nx→H' id=H id)→K (dA [.osl 1 r 0 3 3,.osl 1 s 0 4 4,.osl 1 t 0 3 3]) H' nx'):aB Tryz.prog DB [] H nx K:=by
 refine TZ rfl fun Q hQ=> ?_
 unfold AV
 repeat' (first| (with_reducible first| (refine hK _ _ _ ?_;clear hK K)|refine Z1 ?_)| (first| (with_reducible refine Y2 fun K hK=> ?_)| (refine xD (by omega) (by simp only[aA.set,aA.del,msk,dT];simp;try rfl) ?_))<;>(simp only[go_sem,Nat.add_assoc,Nat.left_eq_add,Nat.add_eq_left])| ((with_reducible refine Y8 ?_);try simp only[AQ.then,AQ.blk,reduceIte,Nat.reduceEqDiff])|fail)
 refine(fun(h: ∀G,G=_→Q _ _ G _)=>h _ rfl) fun G hG=> ?_
 have f0:G nx=some ⟨3,1,[[.osl 1 (nx+8) 0 3 3,.osl 1 (nx+3) 0 4 4,.osl 1 (nx+9) 0 3 3]]⟩:=by rw[hG];simp[aA.set]
 have f8:G (nx+8)=some ⟨1,3,[true,true,true].map eH⟩:=by rw[hG];simp[aA.set]
 have f9:G (nx+9)=some ⟨1,3,[true,true,true].map eH⟩:=by rw[hG];simp[aA.set]
 have f3:G (nx+3)=some ⟨1,4,[false,false,false,false].map eH⟩:=by rw[hG];simp[aA.set,aA.del,msk,dT];rfl
 have ff: ∀id,id<nx→G id=H id:=fun id hid=>by
  rw[hG]
  simp[aA.set,aA.del,msk,dT,show ¬id=nx by omega,show ¬id=nx+1 by omega,show ¬id=nx+3 by omega,show ¬id=nx+4 by omega,show ¬id=nx+8 by omega,show ¬id=nx+9 by omega]
 clear hG
 exact hQ _ _ _ _ _ (.inr rfl) (fZ (m:=1) rfl f0 rfl) (h _ _ (nx+8) (nx+3) (nx+9) (by omega) (by omega) f8 f3 f9 ff)
end
end Go.Proofs.YtegiblhkjfiooaaGreat
end
section
namespace Go.Proofs.YtegiblhkjfiooaaGreat
open Go Go.AM
set_option maxRecDepth 100000
def yM:AC:=
 (.seq (.region [rq 0 4 (.move (.kv (.slice none 0 0)))] 1 [0,1])
 (.seq (.region [rq 0 5 (.move (.kv (.slice none 0 0)))] 1 [0,1,5])
 (.seq (.seq (.region [RM 0 8 0,
 rq 1 9 (.len false (.tm 8)),
 rq 2 10 (.move (ki 0))] 3 [1,5,8,9,10])
 (.block 0
 (.loop
 (.seq (.region [rq 0 11 (.bin .lss (.tm 10) (.tm 9))] 1 [1,5,8,9,10,11])
 (.seq (.cond (.tm 11)
 .skip
 (.exit 0))
 (.seq (.block 1
 (.seq (.region [rq 0 12 (.idx 5 (.tm 8) (.tm 10)),
 rq 1 13 (.load 5 true (.tm 12)),
 rq 2 7 (.alloc [VZ,VZ,VZ,VZ,OZ]),
 rn 3 (.store 5 true (.tm 7) (.tm 13))] 4 [1,5,7,8,9,10])
 (.seq (.region [RF 0 14 0 7,
 RL 1 15 14,
 RM 2 16 1,
 rq 3 17 (.bin .eql (.tm 15) (.tm 16))] 4 [1,5,7,8,9,10,17])
 (.cond (.tm 17)
 (.region [RM 0 18 5,
 rq 1 19 (.load 5 true (.tm 7)),
 rq 2 20 (.bC 5 1 [VZ,VZ,VZ,VZ,OZ] [(0,5,(.tm 19))]),
 rq 3 21 (.append 5 (.tm 18) (.tm 20)),
 RM 4 5 21] 5 [1,5,8,9,10])
 .skip))))
 (.region [rq 0 22 (.bin .add (.tm 10) (ki 1)),
 RM 1 10 22] 2 [1,5,8,9,10])))))))
 (.seq (.region [RM 0 23 5,
 rq 1 24 (.call eO [(.tm 23)]),
 RM 2 4 24] 3 [4])
 .ret))))
def QB:List Cert:=[⟨[],[0,1]⟩,⟨[],[0,1,5]⟩,⟨[],[1,5,8,9,10]⟩,⟨[],[1,5,8,9,10,11]⟩,⟨[],[1,5,7,8,9,10]⟩,⟨[],[1,5,7,8,9,10,17]⟩,⟨[],[1,5,8,9,10]⟩,⟨[],[1,5,8,9,10]⟩,⟨[],[4]⟩]
def E8:List aW:=[.tm 4]
theorem RO:aO Tryz.prog Tryz.f31 QB=some (yM,E8):=by kernel_rfl
theorem RG:aN Tryz.prog zR Tryz.f31 yM E8:=
 aN.mk Tryz.func31 (by kernel_rfl) RO
end Go.Proofs.YtegiblhkjfiooaaGreat
end
section
namespace Go.Proofs.YtegiblhkjfiooaaGreat
open Go Go.AM
set_option maxRecDepth 100000
set_option maxHeartbeats 8000000
section
variable {H : aA} {nx : Nat} {K : D → aA → Nat → Prop}
theorem VD (l:List Job) (who:Int) (hl:l.length<2^20) (hd: ∀j∈l,j.rsp.data.length<2^20):aB Tryz.prog zR [dS (l.map aS),dI who] .nil 0 fun r _ n=>n=0∧r.imm=true∧r=dS ((fS l who).map aS):=by
 refine RG rfl fun Q hQ=> ?_
 unfold yM
 have hmd:=fun j (hj:j∈fS l who)=>hd j (WN j hj)
 have hmL:=WJ (l:=l) (who:=who)
 repeat' (first| (with_reducible first| (refine hK _ _ _ ?_;clear hK K)|refine Z1 ?_|refine Z3 fun KB hKB=> ?_)| (with_reducible refine Y2 fun K hK=> ?_)<;>(simp only[go_sem])|fail)
 (have hQX:=hKB;clear hKB)
 refine aM.sG 1 (β:=Nat×Nat) (fun b u=>en [(10,dI u.1),(9,dI l.length),(8,dS (l.map aS)),(5,aaT 5 b (fS (l.take u.1) who).length u.2),(1,dI who)])
  (fun b u=>hpN b (fS (l.take u.1) who).length ⟨5,u.2,(fS (l.take u.1) who).map aS⟩) (fun u=>u.1≤l.length∧(fS (l.take u.1) who).length≤u.2) (fun u=>l.length-u.1) (0,0) (bU (by omega) (by simp only[fS,List.take_zero,List.filter_nil,List.length_nil,aaT,if_true];unfold D1.nil;repeat' (first| (with_reducible first|exact C1|refine C2 ?_ ?_)| ((with_reducible refine C0 ?_);exact CC)| ((with_reducible refine D0 ?_);first|exact CA rfl|refine CJ ?_)|fail))) ⟨by omega,by simp[fS]⟩ ?_
 rintro⟨k,cap⟩ ⟨hk,hc⟩ KL hKL
 dsimp only at hk hc
 have hml:=WJ (l:=l.take k) (who:=who)
 have htl:(l.take k).length=k:=by simp;omega
 rcases Nat.eq_zero_or_pos (fS (l.take k) who).length with h0|h0
 ·simp only[aaT,hpN,h0,if_true]
  unfold D1.nil
  by_cases hlt:k<l.length
  ·by_cases hw:(l.getD k default).who=who
   ·have hy:=WA hlt hw
    have hz:=List.length_eq_zero_iff.1 h0
    rw[hz,List.nil_append] at hy
    have hyl:=congrArg List.length hy
    rw[List.length_singleton] at hyl
    repeat' (first| (with_reducible first| (refine hK _ _ _ ?_;clear hK K)| (refine hA ?_;clear hA hB A B)|refine Z1 ?_|refine Z2 ?_|refine Z3 fun KB hKB=> ?_|refine Z4 (by omega) ?_|refine fun(cap:Nat) (hcap:_≤cap)=> ?_|refine fun(hcp:_≤cap)=> ?_)| (with_reducible first|refine Y2 fun K hK=> ?_|refine Y3 fun A B hA hB=> ?_)<;>(simp only[go_sem];try simp (disch:=omega) only[Iw])| ((with_reducible refine Y0 ?_);simp only[AQ.then,AQ.blk])|refine⟨by omega,?_⟩| (with_reducible refine hKB _ _ _ ?_)|fail)
    exact hKL _ _ _ (k+1,cap) (by omega) (by dsimp only;simp only[aaT,hpN,hyl,hy,Nat.one_ne_zero,if_false];(refine cR [18] (by omega) (by repeat' (first| (with_reducible first|exact C1|refine C2 ?_ ?_)| ((with_reducible refine C0 ?_);exact CQ (by omega) rfl rfl (by rfl) rfl)| ((with_reducible refine D0 ?_);first|exact CA rfl|refine CJ ?_)|fail)) ⟨⟨by simp,by simp[sgL],_,rfl,bP (aG dZ _) rfl rfl⟩,trivial⟩ (by simp[sgL]))) ⟨by dsimp only;omega,by dsimp only;omega⟩ (by dsimp only;omega)
   ·have hn:=abI hlt hw
    repeat' (first| (with_reducible first| (refine hK _ _ _ ?_;clear hK K)| (refine hA ?_;clear hA hB A B)| (refine hB ?_;clear hA hB A B)|refine Z1 ?_|refine Z2 ?_|refine Z3 fun KB hKB=> ?_|refine Z4 (by omega) ?_|refine Z5 (by omega) ?_)| (with_reducible first|refine Y2 fun K hK=> ?_|refine Y3 fun A B hA hB=> ?_)<;>(simp only[go_sem];try simp (disch:=omega) only[Iw])| ((with_reducible refine Y0 ?_);simp only[AQ.then,AQ.blk])|refine⟨by omega,?_⟩| (with_reducible refine hKB _ _ _ ?_)|fail)
    exact hKL _ _ _ (k+1,cap) (by omega) (by simp only[aaT,hpN,hn,h0,if_true];unfold D1.nil;exact bU (by omega) (by repeat' (first| (with_reducible first|exact C1|refine C2 ?_ ?_)| ((with_reducible refine C0 ?_);exact CC)| ((with_reducible refine D0 ?_);first|exact CA rfl|refine CJ ?_)|fail))) ⟨by dsimp only;omega,by dsimp only;rw[hn];omega⟩ (by dsimp only;omega)
  ·have hk2:k=l.length:=by omega
   subst hk2
   rw[List.take_length] at h0
   have hz:=List.length_eq_zero_iff.1 h0
   rw[hz] at hQ
   repeat' (first| (with_reducible first| (refine hK _ _ _ ?_;clear hK K)| (refine hB ?_;clear hA hB A B)|refine Z1 ?_|refine Z5 (by omega) ?_)| (with_reducible first|refine Y2 fun K hK=> ?_|refine Y3 fun A B hA hB=> ?_)<;>(simp only[go_sem])| ((with_reducible refine Y9 ?_);try simp only[AQ.then,AQ.blk,reduceIte,Nat.reduceEqDiff])|fail)
   refine hQX _ _ _ ?_
   refine aM.aqB 0 (en [(5,dS (([]:List Job).map aS))]) .nil (bU (by omega) (oF K6 xG)) ?_
   repeat' (first| (with_reducible first| (refine hK _ _ _ ?_;clear hK K)|refine Z1 ?_)| (first| (with_reducible refine Y2 fun K hK=> ?_)| (refine gY (l:=[]) (by simp) (by simp) (fun m hm=> ?_)))<;>(simp only[go_sem])| ((with_reducible refine Y8 ?_);try simp only[AQ.then,AQ.blk,reduceIte,Nat.reduceEqDiff])|fail)
   exact V4 hQ (dS _) _ rfl (yP (l:=[]) dZ rfl rfl (Nat.le_refl _) trivial) rfl rfl
 ·simp only[aaT,hpN,show ¬(fS (l.take k) who).length=0 by omega,if_false]
  by_cases hlt:k<l.length
  ·by_cases hw:(l.getD k default).who=who
   ·have hy:=WA hlt hw
    have hyl:=congrArg List.length hy
    simp only[List.length_append,List.length_cons,List.length_nil] at hyl
    have hy2:=congrArg (List.map aS) hy
    repeat' (first| (with_reducible first| (refine hK _ _ _ ?_;clear hK K)| (refine hA ?_;clear hA hB A B)|refine Z1 ?_|refine Z2 ?_|refine Z3 fun KB hKB=> ?_|refine Z4 (by omega) ?_|refine fun(cap:Nat) (hcap:_≤cap)=> ?_|refine fun(hcp:_≤cap)=> ?_)| (with_reducible first|refine Y2 fun K hK=> ?_|refine Y3 fun A B hA hB=> ?_)<;>(simp only[go_sem];try simp (disch:=omega) only[Iw])| ((with_reducible refine Y0 ?_);simp only[AQ.then,AQ.blk])|refine⟨by omega,?_⟩| (with_reducible refine hKB _ _ _ ?_)|fail)
    exact hKL _ _ _ (k+1,cap) (by omega) (by simp only[aaT,hpN,show ¬(fS (l.take (k+1)) who).length=0 by omega,if_false];(refine cR [18] (by omega) (by repeat' (first| (with_reducible first|exact C1|refine C2 ?_ ?_)| ((with_reducible refine C0 ?_);exact CQ (by omega) rfl rfl (by omega) rfl)| ((with_reducible refine D0 ?_);first|exact CA rfl|refine CJ ?_)|fail)) ⟨⟨by simp,by simp[sgL],_,rfl,bP (aG dZ _) hy2 rfl⟩,trivial⟩ (by simp[sgL]))) ⟨by dsimp only;omega,by dsimp only;omega⟩ (by dsimp only;omega)
   ·have hn:=abI hlt hw
    repeat' (first| (with_reducible first| (refine hK _ _ _ ?_;clear hK K)| (refine hA ?_;clear hA hB A B)| (refine hB ?_;clear hA hB A B)|refine Z1 ?_|refine Z2 ?_|refine Z3 fun KB hKB=> ?_|refine Z4 (by omega) ?_|refine Z5 (by omega) ?_)| (with_reducible first|refine Y2 fun K hK=> ?_|refine Y3 fun A B hA hB=> ?_)<;>(simp only[go_sem];try simp (disch:=omega) only[Iw])| ((with_reducible refine Y0 ?_);simp only[AQ.then,AQ.blk])|refine⟨by omega,?_⟩| (with_reducible refine hKB _ _ _ ?_)|fail)
    exact hKL _ _ _ (k+1,cap) (by omega) (by simp only[aaT,hpN,hn,show ¬(fS (l.take k) who).length=0 by omega,if_false];(refine cR [5] (by omega) (by repeat' (first| (with_reducible first|exact C1|refine C2 ?_ ?_)| ((with_reducible refine C0 ?_);exact CQ (by omega) rfl rfl (by rfl) rfl)| ((with_reducible refine D0 ?_);first|exact CA rfl|refine CJ ?_)|fail)) ⟨⟨by simp,by simp[sgL],_,rfl,bP (aG dZ _) rfl rfl⟩,trivial⟩ (by simp[sgL]))) ⟨by dsimp only;omega,by dsimp only;rw[hn];omega⟩ (by dsimp only;omega)
  ·have hk2:k=l.length:=by omega
   subst hk2
   rw[List.take_length] at*
   repeat' (first| (with_reducible first| (refine hK _ _ _ ?_;clear hK K)| (refine hB ?_;clear hA hB A B)|refine Z1 ?_|refine Z5 (by omega) ?_)| (with_reducible first|refine Y2 fun K hK=> ?_|refine Y3 fun A B hA hB=> ?_)<;>(simp only[go_sem])| ((with_reducible refine Y9 ?_);try simp only[AQ.then,AQ.blk,reduceIte,Nat.reduceEqDiff])|fail)
   refine hQX _ _ _ ?_
   refine aM.aqB 0 (en [(5,dS ((fS l who).map aS))]) .nil (bU (by omega) (oF K6 (yP dZ rfl rfl (by omega) trivial))) ?_
   repeat' (first| (with_reducible first| (refine hK _ _ _ ?_;clear hK K)|refine Z1 ?_)| (first| (with_reducible refine Y2 fun K hK=> ?_)| (refine gY (l:=fS l who) (by omega) hmd (fun m hm=> ?_)))<;>(simp only[go_sem])| ((with_reducible refine Y8 ?_);try simp only[AQ.then,AQ.blk,reduceIte,Nat.reduceEqDiff])|fail)
   exact V4 hQ (dS _) _ rfl (yP dZ rfl rfl (Nat.le_refl _) trivial) rfl rfl
theorem anE {l:List Job} {who:Int} (hl:l.length<2^20) (hd: ∀j∈l,j.rsp.data.length<2^20) (h:K (dS ((fS l who).map aS)) H nx):aB Tryz.prog zR [dS (l.map aS),dI who] H nx K:=
 (VD l who hl hd).fresh rfl fun r hr=>hr▸h
end
end Go.Proofs.YtegiblhkjfiooaaGreat
end
section
namespace Go.AM
def abD (m:List Rng) (O:Nat→Bool) (a:Int):Prop:=0≤bK (inR · a) m∧O (m.getD (bK (inR · a) m).toNat default).K5.toNat=true
theorem ZR {m:List Rng} {q:Req} (h:0≤bV m (kP q)): ∀a∈kP q,bK (inR · a) m=bV m (kP q):=by
 intro a ha
 unfold bV at h ⊢
 split at h
 ·omega
 ·rename_i h0
  rw[if_neg h0]
  split at h
  ·rename_i h1
   rw[if_pos h1]
   rw[List.all_eq_true] at h1
   exact of_decide_eq_true (h1 a ha)
  ·omega
theorem arL {m:List Rng} {O:Nat→Bool} {q:Req} (h:0≤bV m (kP q)) (ho:O (gZ m q).toNat=true): ∀a∈kP q,abD m O a:=by
 intro a ha
 have e:=ZR h a ha
 unfold gZ at ho
 rw[if_neg (show ¬bV m (bE q.addr q.many q.wrap)<0 by have h':=h;unfold kP at h';omega)] at ho
 refine⟨by rw[e];exact h,?_⟩
 rw[e]
 exact ho
theorem ao8 {m:List Rng} {O:Nat→Bool} {q:Req} (h:0≤bV m (kP q)) (ho:O (gZ m q).toNat=false): ∀a∈kP q,¬abD m O a:=by
 intro a ha hc
 have e:=ZR h a ha
 unfold gZ at ho
 rw[if_neg (show ¬bV m (bE q.addr q.many q.wrap)<0 by have h':=h;unfold kP at h';omega)] at ho
 have:=hc.2
 rw[e] at this
 rw[show bV m (bE q.addr q.many q.wrap)=bV m (kP q) from rfl] at ho
 rw[ho] at this
 cases this
structure GB (c c':Cfg) (A O:Nat→Bool):Prop where
 map:c'.map=c.map
 lat:c'.lat=c.lat
 yes: ∀k,k<3→A k=true→c'.cP.getD k default=c.cP.getD k default
 no: ∀k,k<3→A k=false→c'.cP.getD k default=[]
 own: ∀(k:Nat) (n:Int),k<3→oA c k n→O (gZ c.map (bT c k n)).toNat=A k
structure Sim (c c':Cfg) (A O:Nat→Bool) (s t:CSt):Prop where
 port: ∀k,k<3→A k=true→aF s k=aF t k
 idle: ∀k,k<3→A k=false→(aF t k).next=0∧(aF t k).queue=[]∧(aF t k).out=[]
 ED: ∀st,st<4→O st=true→aL s st=aL t st
 void: ∀st,st<4→O st=false→(aL t st).pipe=[]∧(aL t st).done=[]
 who: ∀st,st<4→∀x∈cS (aL s st),A x.1.toNat=O st
 words: ∀a:Int,0≤a→abD c.map O a→s.words.getD a.toNat default=t.words.getD a.toNat default
 holds: ∀k i:Nat,k<3→i<2→A k=true→s.holds.getD (k*2+i) default=t.holds.getD (k*2+i) default∧(s.holds.getD (k*2+i) default= -1∨abD c.map O (s.holds.getD (k*2+i) default))
 told:s.told.filter (fun j=>A j.who.toNat)=t.told
theorem GB.at {c c':Cfg} {A O:Nat→Bool} (h:GB c c' A O) {k:Nat} {n:Int} (hk:k<3) (ha:A k=true):bT c' k n=bT c k n:=by
 unfold bT
 rw[show (k:Int).toNat=k by omega,h.yes k hk ha]
theorem COk.atK {c:Cfg} {s:CSt} (h:COk c s) {k:Nat} (hk:k<3) (hq:0<(aF s k).queue.length):oA c k ((aF s k).queue.getD 0 default):=by
 have hp:=h.port k hk
 have:=hp.qIn (cC hq)
 have:=hp.ql
 exact hp.asks hk (by omega) (by omega)
theorem COk.asK {c:Cfg} {s:CSt} (h:COk c s) {st:Nat} (hs:st<4) {x:Int×Int} (hx:x∈cS (aL s st)):x.1=(x.1.toNat:Int)∧x.1.toNat<3∧oA c x.1 x.2:=by
 obtain⟨h1,h2,h3⟩:=h.vIn hs hx
 have hk:x.1.toNat<3:=by omega
 have e:x.1=(x.1.toNat:Int):=by omega
 refine⟨e,hk,?_⟩
 rw[e]
 exact(h.port _ hk).asks hk h2 (by omega)
theorem Sim.init {c c':Cfg} {A O:Nat→Bool}:Sim c c' A O HY HY:=by
 refine⟨fun _ _ _=>rfl,fun k hk _=> ?_,fun _ _ _=>rfl,fun st hs _=> ?_,fun st hs x hx=> ?_,fun _ _ _=>rfl,fun k i hk hi _=>⟨rfl,.inl ?_⟩,rfl⟩
 ·rw[MX hk];exact⟨rfl,rfl,rfl⟩
 ·rw[K4 hs];exact⟨rfl,rfl⟩
 ·rw[K4 hs] at hx;simp[cS] at hx
 ·show (List.replicate 6 (-1:Int)).getD (k*2+i) default= -1
  simp only[List.getD,List.getElem?_replicate]
  rw[if_pos (by omega)]
  rfl
def ag5 (A O:Nat→Bool):Mic→Bool
 | .tell who _=>A who
 | .tick st=>O st
 | .work st=>O st
 | .adm who _=>A who
 | .ask who=>A who
def ZN (O:Nat→Bool) (b:Bool):Mic→Prop
 | .tell _ st=>O st=b
 | .adm _ st=>O st=b
 |_=>True
theorem TC {v:nY} {x:fC}:cS {v with pipe:=v.pipe.set 0 {v.pipe.getD 0 default with left:=x.left}}=cS v:=by
 unfold cS
 dsimp only
 congr 1
 cases v.pipe with
 |nil=>rfl
 |cons y l=>rfl
theorem P3 {v:nY}: ∀x∈cS {v with done:=v.done.drop 1},x∈cS v:=by
 intro x hx
 unfold cS at hx ⊢
 dsimp only at hx
 rcases List.mem_append.1 hx with hx|hx
 ·obtain⟨j,hj,rfl⟩:=List.mem_map.1 hx
  exact List.mem_append_left _ (List.mem_map_of_mem (List.mem_of_mem_drop hj))
 ·exact List.mem_append_right _ hx
theorem QO {v:nY} (h:0<v.pipe.length) {r:Rsp}: ∀x∈cS {v with pipe:=v.pipe.drop 1,done:=v.done++[⟨(v.pipe.getD 0 default).who,(v.pipe.getD 0 default).n,r⟩]},x∈cS v:=by
 intro x hx
 unfold cS at hx ⊢
 dsimp only at hx
 rw[List.map_append] at hx
 rcases List.mem_append.1 hx with hx|hx
 ·rcases List.mem_append.1 hx with hx|hx
  ·exact List.mem_append_left _ hx
  ·simp only[List.map_cons,List.map_nil,List.mem_singleton] at hx
   subst hx
   exact List.mem_append_right _ (List.mem_map.2 ⟨_,cC h,rfl⟩)
 ·obtain⟨j,hj,rfl⟩:=List.mem_map.1 hx
  exact List.mem_append_right _ (List.mem_map.2 ⟨j,List.mem_of_mem_drop hj,rfl⟩)
theorem WL {v:nY} {j:fC} {l:Int}: ∀x∈cS {v with pipe:=v.pipe++[j],last:=l},x∈cS v∨x=(j.who,j.n):=by
 intro x hx
 unfold cS at hx ⊢
 dsimp only at hx
 rw[List.map_append,←List.append_assoc] at hx
 rcases List.mem_append.1 hx with hx|hx
 ·exact .inl hx
 ·simp only[List.map_cons,List.map_nil,List.mem_singleton] at hx
  exact .inr hx
theorem Sim.both {c c':Cfg} {A O:Nat→Bool} {s t:CSt} (hb:aQ c) (hp:GB c c' A O) (hs:COk c s) (ht:COk c' t) (h:Sim c c' A O s t) {m:Mic} (hg:EH c s m) (ha:ag5 A O m=true) (hi:ZN O true m):EH c' t m∧Sim c c' A O (aR c s m) (aR c' t m):=by
 have spl:=hs.pl
 have ssl:=hs.sl
 have tpl:=ht.pl
 have tsl:=ht.sl
 cases m with
 |tell who st=>
  obtain⟨h0,h1,h2,h3⟩:=hg
  have ha:A who=true:=ha
  have hi:O st=true:=hi
  have ev:=h.ED st h1 hi
  have ep:=h.port who h0 ha
  have ed:iF s st=iF t st:=by unfold iF;rw[ev]
  refine⟨⟨h0,h1,by rw[←ev];exact h2,by rw[←ev];exact h3⟩,?_⟩
  have hP: ∀k,aF (aR c s (.tell who st)) k=if k=who then {aF s who with out:=PE (aF s who).out (iF s st).n,last:=st} else aF s k:=bL (s:=s) rfl (by omega)
  have hP': ∀k,aF (aR c' t (.tell who st)) k=if k=who then {aF t who with out:=PE (aF t who).out (iF t st).n,last:=st} else aF t k:=bL (s:=t) rfl (by omega)
  have hV: ∀k,aL (aR c s (.tell who st)) k=if k=st then {aL s st with done:=(aL s st).done.drop 1} else aL s k:=bO (s:=s) rfl (by omega)
  have hV': ∀k,aL (aR c' t (.tell who st)) k=if k=st then {aL t st with done:=(aL t st).done.drop 1} else aL t k:=bO (s:=t) rfl (by omega)
  refine⟨fun k hk hak=> ?_,fun k hk hak=> ?_,fun st' hs' ho=> ?_,fun st' hs' ho=> ?_,fun st' hs' x hx=> ?_,h.words,h.holds,?_⟩
  ·rw[hP,hP'];split
   ·rw[ep,ed]
   ·exact h.port k hk hak
  ·rw[hP'];split
   ·rename_i e;subst e;rw[ha] at hak;cases hak
   ·exact h.idle k hk hak
  ·rw[hV,hV'];split
   ·rw[ev]
   ·exact h.ED st' hs' ho
  ·rw[hV'];split
   ·rename_i e;subst e;rw[hi] at ho;cases ho
   ·exact h.void st' hs' ho
  ·rw[hV] at hx
   split at hx
   ·rename_i e;subst e;exact h.who _ hs' x (P3 x hx)
   ·exact h.who st' hs' x hx
  ·show (s.told++[iF s st]).filter _=t.told++[iF t st]
   rw[List.filter_append,h.told,ed]
   have:A (iF t st).who.toNat=true:=by rw[←ed];show A ((aL s st).done.getD 0 default).who.toNat=true;rw[h3];simpa using ha
   simp[this]
 |tick st=>
  obtain⟨h1,h2,h3⟩:=hg
  have hi:O st=true:=ha
  have ev:=h.ED st h1 hi
  have ej:bI s st=bI t st:=by unfold bI;rw[ev]
  refine⟨⟨h1,by rw[←ev];exact h2,by rw[←ev];exact h3⟩,?_⟩
  have hV: ∀k,aL (aR c s (.tick st)) k=if k=st then {aL s st with pipe:=(aL s st).pipe.set 0 {bI s st with left:=(bI s st).left-1}} else aL s k:=bO (s:=s) rfl (by omega)
  have hV': ∀k,aL (aR c' t (.tick st)) k=if k=st then {aL t st with pipe:=(aL t st).pipe.set 0 {bI t st with left:=(bI t st).left-1}} else aL t k:=bO (s:=t) rfl (by omega)
  refine⟨h.port,h.idle,fun st' hs' ho=> ?_,fun st' hs' ho=> ?_,fun st' hs' x hx=> ?_,h.words,h.holds,h.told⟩
  ·rw[hV,hV'];split
   ·rw[ev,ej]
   ·exact h.ED st' hs' ho
  ·rw[hV'];split
   ·rename_i e;subst e;rw[hi] at ho;cases ho
   ·exact h.void st' hs' ho
  ·rw[hV] at hx
   split at hx
   ·rename_i e;subst e
    exact h.who _ hs' x (by rw[←TC (x:={bI s st' with left:=(bI s st').left-1})];exact hx)
   ·exact h.who st' hs' x hx
 |work st=>
  obtain⟨h1,h2,h3,h4⟩:=hg
  have hi:O st=true:=ha
  have ev:=h.ED st h1 hi
  have ej:bI s st=bI t st:=by unfold bI;rw[ev]
  have hmem:((bI s st).who,(bI s st).n)∈cS (aL s st):=JB (cC h2)
  obtain⟨k1,k2,k3⟩:=hs.asK h1 hmem
  dsimp only at k1 k2 k3
  have hwa:A (bI s st).who.toNat=true:=(h.who st h1 _ hmem).trans hi
  have er:bT c' (bI s st).who (bI s st).n=bT c (bI s st).who (bI s st).n:=by rw[k1];exact hp.at k2 hwa
  obtain⟨who,hwho⟩: ∃who,who=(bI s st).who.toNat:=⟨_,rfl⟩
  obtain⟨q,hq⟩: ∃q,q=bT c (bI s st).who (bI s st).n:=⟨_,rfl⟩
  have hqo:dH q:=hq▸GK hb k3
  have hO:O (gZ c.map q).toNat=true:=by rw[hq,k1,hp.own _ _ k2 (k1▸k3)];exact hwa
  have hid:q.id.toNat<2∧0≤q.id:=by have:=hqo.1;omega
  have hix:((bI s st).who*2+q.id).toNat=who*2+q.id.toNat:=by omega
  have hhold:=h.holds who q.id.toNat (by omega) hid.1 (by rw[hwho];exact hwa)
  have hbr:brM c.map s.holds (bI s st).who q=brM c.map t.holds (bI s st).who q:=by
   unfold brM
   rw[hix,hhold.1]
  obtain⟨br,hbrd⟩: ∃br,br=brM c.map s.holds (bI s st).who q:=⟨_,rfl⟩
  have hin:br=0∨ ∀a∈kP q,abD c.map O a:=by
   by_cases hw:bV c.map (kP q)<0
   ·exact .inl (by rw[hbrd];unfold brM;rw[if_pos hw])
   ·exact .inr (arL (by omega) hO)
  have aAR:jD c s st=((aAK br q s.words,hB br (bI s st).who q s.holds),aAL br q s.words):=by
   unfold jD;rw[←hq,X1,←hbrd]
  have eR':jD c' t st=((aAK br q t.words,hB br (bI s st).who q t.holds),aAL br q t.words):=by
   unfold jD;rw[←ej,er,←hq,hp.map,X1,←hbr,←hbrd]
  have hrd:(kP q).map (fun a=>s.words.getD a.toNat default)=(kP q).map (fun a=>t.words.getD a.toNat default)∨br=0:=by
   rcases hin with h0|hin
   ·exact .inr h0
   ·exact .inl (List.map_congr_left fun a ha=>h.words a (CO a ha).1 (hin a ha))
  have eRB:aAL br q s.words=aAL br q t.words:=by
   rcases hrd with h0|h0
   ·unfold aAL;rw[h0]
   ·rw[h0];rfl
  refine⟨⟨h1,by rw[←ev];exact h2,by rw[←ev];exact h3,by rw[←ev];exact h4⟩,?_⟩
  have hV: ∀k,aL (aR c s (.work st)) k=if k=st then {aL s st with pipe:=(aL s st).pipe.drop 1,done:=(aL s st).done++[⟨(bI s st).who,(bI s st).n,(jD c s st).2⟩]} else aL s k:=bO (s:=s) rfl (by omega)
  have hV': ∀k,aL (aR c' t (.work st)) k=if k=st then {aL t st with pipe:=(aL t st).pipe.drop 1,done:=(aL t st).done++[⟨(bI t st).who,(bI t st).n,(jD c' t st).2⟩]} else aL t k:=bO (s:=t) rfl (by omega)
  have hsl:s.words.length=t.words.length:=by rw[hs.atm.wl,ht.atm.wl]
  refine⟨h.port,h.idle,fun st' hs' ho=> ?_,fun st' hs' ho=> ?_,fun st' hs' x hx=> ?_,fun a h0 hoa=> ?_,fun k i hk hi2 hak=> ?_,h.told⟩
  ·rw[hV,hV'];split
   ·rw[ev,ej,aAR,eR',eRB]
   ·exact h.ED st' hs' ho
  ·rw[hV'];split
   ·rename_i e;subst e;rw[hi] at ho;cases ho
   ·exact h.void st' hs' ho
  ·rw[hV] at hx
   split at hx
   ·rename_i e;subst e;exact h.who _ hs' x (QO h2 x hx)
   ·exact h.who st' hs' x hx
  ·show (jD c s st).1.1.getD a.toNat default=(jD c' t st).1.1.getD a.toNat default
   rw[aAR,eR']
   dsimp only
   unfold aAK
   split
   ·rename_i h5
    exact G7 hsl (h.words a h0 hoa) (fun b hb2=>h.words b (CO b hb2).1 ((hin.resolve_left (by omega)) b hb2)) _ (Nat.le_refl _)
   ·exact h.words a h0 hoa
  ·show (jD c s st).1.2.getD (k*2+i) default=(jD c' t st).1.2.getD (k*2+i) default∧((jD c s st).1.2.getD (k*2+i) default= -1∨abD c.map O ((jD c s st).1.2.getD (k*2+i) default))
   rw[aAR,eR']
   dsimp only
   have hki:=h.holds k i hk hi2 hak
   have hl1:=hs.atm.hl
   have hl2:=ht.atm.hl
   unfold hB
   split
   ·rw[B0 (by omega),B0 (by omega),hki.1]
    refine⟨rfl,?_⟩
    split
    ·exact .inl rfl
    ·rw[←hki.1];exact hki.2
   ·split
    ·rename_i h5
     rw[hix,wV (by omega),wV (by omega)]
     split
     ·have h3':=PX (hbrd▸h5)
      exact⟨rfl,.inr ((hin.resolve_left (by omega)) _ (EU hqo (.inl h3')))⟩
     ·exact hki
    ·exact hki
 |adm who st=>
  obtain⟨h0,h1,h2,h3,h4,h5,h6⟩:=hg
  have ha:A who=true:=ha
  have hi:O st=true:=hi
  have ev:=h.ED st h1 hi
  have ep:=h.port who h0 ha
  have er: ∀n,bT c' who n=bT c who n:=fun n=>hp.at h0 ha
  refine⟨⟨h0,h1,by rw[←ev];exact h2,by rw[←ep];exact h3,by rw[←ep];exact h4,by rw[←ep,er,hp.map];exact h5,fun j hj hj2=> ?_⟩,?_⟩
  ·rw[←ep] at hj hj2
   rw[er,er] at hj2
   exact h6 j hj hj2
  have hP: ∀k,aF (aR c s (.adm who st)) k=if k=who then {aF s who with queue:=(aF s who).queue.drop 1,out:=(aF s who).out++[⟨who,(aF s who).queue.getD 0 default,st⟩]} else aF s k:=bL (s:=s) rfl (by omega)
  have hP': ∀k,aF (aR c' t (.adm who st)) k=if k=who then {aF t who with queue:=(aF t who).queue.drop 1,out:=(aF t who).out++[⟨who,(aF t who).queue.getD 0 default,st⟩]} else aF t k:=bL (s:=t) rfl (by omega)
  have hV: ∀k,aL (aR c s (.adm who st)) k=if k=st then {aL s st with pipe:=(aL s st).pipe++[⟨who,(aF s who).queue.getD 0 default,c.lat.getD st default⟩],last:=who} else aL s k:=bO (s:=s) rfl (by omega)
  have hV': ∀k,aL (aR c' t (.adm who st)) k=if k=st then {aL t st with pipe:=(aL t st).pipe++[⟨who,(aF t who).queue.getD 0 default,c'.lat.getD st default⟩],last:=who} else aL t k:=bO (s:=t) rfl (by omega)
  refine⟨fun k hk hak=> ?_,fun k hk hak=> ?_,fun st' hs' ho=> ?_,fun st' hs' ho=> ?_,fun st' hs' x hx=> ?_,h.words,h.holds,h.told⟩
  ·rw[hP,hP'];split
   ·rw[ep]
   ·exact h.port k hk hak
  ·rw[hP'];split
   ·rename_i e;subst e;rw[ha] at hak;cases hak
   ·exact h.idle k hk hak
  ·rw[hV,hV'];split
   ·rw[ev,ep,hp.lat]
   ·exact h.ED st' hs' ho
  ·rw[hV'];split
   ·rename_i e;subst e;rw[hi] at ho;cases ho
   ·exact h.void st' hs' ho
  ·rw[hV] at hx
   split at hx
   ·rename_i e;subst e
    rcases WL x hx with hx|hx
    ·exact h.who _ hs' x hx
    ·rw[hx,hi];show A (who:Int).toNat=true;rw[Int.toNat_natCast];exact ha
   ·exact h.who st' hs' x hx
 |ask who=>
  obtain⟨h0,h1,h2⟩:=hg
  have ha:A who=true:=ha
  have ep:=h.port who h0 ha
  refine⟨⟨h0,by rw[←ep];exact h1,by rw[←ep,hp.yes who h0 ha];exact h2⟩,?_⟩
  have hP: ∀k,aF (aR c s (.ask who)) k=if k=who then {aF s who with queue:=(aF s who).queue++[(aF s who).next],next:=(aF s who).next+1} else aF s k:=bL (s:=s) rfl (by omega)
  have hP': ∀k,aF (aR c' t (.ask who)) k=if k=who then {aF t who with queue:=(aF t who).queue++[(aF t who).next],next:=(aF t who).next+1} else aF t k:=bL (s:=t) rfl (by omega)
  refine⟨fun k hk hak=> ?_,fun k hk hak=> ?_,h.ED,h.void,h.who,h.words,h.holds,h.told⟩
  ·rw[hP,hP'];split
   ·rw[ep]
   ·exact h.port k hk hak
  ·rw[hP'];split
   ·rename_i e;subst e;rw[ha] at hak;cases hak
   ·exact h.idle k hk hak
end Go.AM
end
section
namespace Go.AM
theorem Sim.other {c c':Cfg} {A O:Nat→Bool} {s t:CSt} (hb:aQ c) (hp:GB c c' A O) (hs:COk c s) (h:Sim c c' A O s t) {m:Mic} (hg:EH c s m) (ha:ag5 A O m=false) (hi:ZN O false m):Sim c c' A O (aR c s m) t:=by
 have spl:=hs.pl
 have ssl:=hs.sl
 cases m with
 |tell who st=>
  obtain⟨h0,h1,h2,h3⟩:=hg
  have ha:A who=false:=ha
  have hi:O st=false:=hi
  have hP: ∀k,aF (aR c s (.tell who st)) k=if k=who then {aF s who with out:=PE (aF s who).out (iF s st).n,last:=st} else aF s k:=bL (s:=s) rfl (by omega)
  have hV: ∀k,aL (aR c s (.tell who st)) k=if k=st then {aL s st with done:=(aL s st).done.drop 1} else aL s k:=bO (s:=s) rfl (by omega)
  refine⟨fun k hk hak=> ?_,h.idle,fun st' hs' ho=> ?_,h.void,fun st' hs' x hx=> ?_,h.words,h.holds,?_⟩
  ·rw[hP,if_neg (fun e=>by subst e;rw[ha] at hak;cases hak)];exact h.port k hk hak
  ·rw[hV,if_neg (fun e=>by subst e;rw[hi] at ho;cases ho)];exact h.ED st' hs' ho
  ·rw[hV] at hx
   split at hx
   ·rename_i e;subst e;exact h.who _ hs' x (P3 x hx)
   ·exact h.who st' hs' x hx
  ·show (s.told++[iF s st]).filter _=t.told
   rw[List.filter_append,h.told]
   have:A (iF s st).who.toNat=false:=by show A ((aL s st).done.getD 0 default).who.toNat=false;rw[h3,Int.toNat_natCast];exact ha
   simp[this]
 |tick st=>
  obtain⟨h1,h2,h3⟩:=hg
  have hi:O st=false:=ha
  have hV: ∀k,aL (aR c s (.tick st)) k=if k=st then {aL s st with pipe:=(aL s st).pipe.set 0 {bI s st with left:=(bI s st).left-1}} else aL s k:=bO (s:=s) rfl (by omega)
  refine⟨h.port,h.idle,fun st' hs' ho=> ?_,h.void,fun st' hs' x hx=> ?_,h.words,h.holds,h.told⟩
  ·rw[hV,if_neg (fun e=>by subst e;rw[hi] at ho;cases ho)];exact h.ED st' hs' ho
  ·rw[hV] at hx
   split at hx
   ·rename_i e;subst e
    exact h.who _ hs' x (by rw[←TC (x:={bI s st' with left:=(bI s st').left-1})];exact hx)
   ·exact h.who st' hs' x hx
 |work st=>
  obtain⟨h1,h2,h3,h4⟩:=hg
  have hi:O st=false:=ha
  have hmem:((bI s st).who,(bI s st).n)∈cS (aL s st):=JB (cC h2)
  obtain⟨k1,k2,k3⟩:=hs.asK h1 hmem
  dsimp only at k1 k2 k3
  have hwa:A (bI s st).who.toNat=false:=(h.who st h1 _ hmem).trans hi
  obtain⟨who,hwho⟩: ∃who,who=(bI s st).who.toNat:=⟨_,rfl⟩
  obtain⟨q,hq⟩: ∃q,q=bT c (bI s st).who (bI s st).n:=⟨_,rfl⟩
  have hqo:dH q:=hq▸GK hb k3
  have hO:O (gZ c.map q).toNat=false:=by rw[hq,k1,hp.own _ _ k2 (k1▸k3)];exact hwa
  have hid:q.id.toNat<2∧0≤q.id:=by have:=hqo.1;omega
  have hix:((bI s st).who*2+q.id).toNat=who*2+q.id.toNat:=by omega
  obtain⟨br,hbrd⟩: ∃br,br=brM c.map s.holds (bI s st).who q:=⟨_,rfl⟩
  have hin:br=0∨ ∀a∈kP q,¬abD c.map O a:=by
   by_cases hw:bV c.map (kP q)<0
   ·exact .inl (by rw[hbrd];unfold brM;rw[if_pos hw])
   ·exact .inr (ao8 (by omega) hO)
  have aAR:jD c s st=((aAK br q s.words,hB br (bI s st).who q s.holds),aAL br q s.words):=by
   unfold jD;rw[←hq,X1,←hbrd]
  have hV: ∀k,aL (aR c s (.work st)) k=if k=st then {aL s st with pipe:=(aL s st).pipe.drop 1,done:=(aL s st).done++[⟨(bI s st).who,(bI s st).n,(jD c s st).2⟩]} else aL s k:=bO (s:=s) rfl (by omega)
  refine⟨h.port,h.idle,fun st' hs' ho=> ?_,h.void,fun st' hs' x hx=> ?_,fun a h0 hoa=> ?_,fun k i hk hi2 hak=> ?_,h.told⟩
  ·rw[hV,if_neg (fun e=>by subst e;rw[hi] at ho;cases ho)];exact h.ED st' hs' ho
  ·rw[hV] at hx
   split at hx
   ·rename_i e;subst e;exact h.who _ hs' x (QO h2 x hx)
   ·exact h.who st' hs' x hx
  ·show (jD c s st).1.1.getD a.toNat default=_
   rw[aAR]
   dsimp only
   rcases hin with h5|h5
   ·unfold aAK;rw[if_neg (by omega)];exact h.words a h0 hoa
   ·rw[NJ h0 (fun hm=>h5 a hm hoa)];exact h.words a h0 hoa
  ·show (jD c s st).1.2.getD (k*2+i) default=_∧((jD c s st).1.2.getD (k*2+i) default= -1∨abD c.map O ((jD c s st).1.2.getD (k*2+i) default))
   rw[aAR]
   dsimp only
   have hki:=h.holds k i hk hi2 hak
   have hl1:=hs.atm.hl
   unfold hB
   split
   ·rename_i h5
    rw[B0 (by omega),if_neg]
    ·exact hki
    ·intro hm
     rcases hki.2 with h6|h6
     ·have:=(CO _ hm).1;omega
     ·exact(hin.resolve_left (by omega)) _ hm h6
   ·split
    ·rw[hix,wV (by omega),if_neg]
     ·exact hki
     ·intro he
      have:k=who:=by omega
      subst this;subst hwho;rw[hwa] at hak;cases hak
    ·exact hki
 |adm who st=>
  obtain⟨h0,h1,h2,h3,h4,h5,h6⟩:=hg
  have ha:A who=false:=ha
  have hi:O st=false:=hi
  have hP: ∀k,aF (aR c s (.adm who st)) k=if k=who then {aF s who with queue:=(aF s who).queue.drop 1,out:=(aF s who).out++[⟨who,(aF s who).queue.getD 0 default,st⟩]} else aF s k:=bL (s:=s) rfl (by omega)
  have hV: ∀k,aL (aR c s (.adm who st)) k=if k=st then {aL s st with pipe:=(aL s st).pipe++[⟨who,(aF s who).queue.getD 0 default,c.lat.getD st default⟩],last:=who} else aL s k:=bO (s:=s) rfl (by omega)
  refine⟨fun k hk hak=> ?_,h.idle,fun st' hs' ho=> ?_,h.void,fun st' hs' x hx=> ?_,h.words,h.holds,h.told⟩
  ·rw[hP,if_neg (fun e=>by subst e;rw[ha] at hak;cases hak)];exact h.port k hk hak
  ·rw[hV,if_neg (fun e=>by subst e;rw[hi] at ho;cases ho)];exact h.ED st' hs' ho
  ·rw[hV] at hx
   split at hx
   ·rename_i e;subst e
    rcases WL x hx with hx|hx
    ·exact h.who _ hs' x hx
    ·rw[hx,hi];show A (who:Int).toNat=false;rw[Int.toNat_natCast];exact ha
   ·exact h.who st' hs' x hx
 |ask who=>
  obtain⟨h0,h1,h2⟩:=hg
  have ha:A who=false:=ha
  have hP: ∀k,aF (aR c s (.ask who)) k=if k=who then {aF s who with queue:=(aF s who).queue++[(aF s who).next],next:=(aF s who).next+1} else aF s k:=bL (s:=s) rfl (by omega)
  refine⟨fun k hk hak=> ?_,h.idle,h.ED,h.void,h.who,h.words,h.holds,h.told⟩
  rw[hP,if_neg (fun e=>by subst e;rw[ha] at hak;cases hak)];exact h.port k hk hak
theorem Sim.steps {c c':Cfg} {A O:Nat→Bool} (hb:aQ c) (hb':aQ c') (hp:GB c c' A O) {f g:CSt→Nat→Option Mic}: ∀{l:List Nat} {s t:CSt},COk c s→COk c' t→Sim c c' A O s t→
 (∀s t k,k∈l→COk c s→COk c' t→Sim c c' A O s t→∀m,f s k=some m→EH c s m∧(ag5 A O m=true→ZN O true m∧g t k=some m)∧(ag5 A O m=false→ZN O false m∧g t k=none))→
 (∀s t k,k∈l→COk c s→COk c' t→Sim c c' A O s t→f s k=none→g t k=none)→
 COk c (dR c s (vE c f s l))∧COk c' (dR c' t (vE c' g t l))∧Sim c c' A O (dR c s (vE c f s l)) (dR c' t (vE c' g t l))
 | [],s,t,hs,ht,h,_,_=>⟨hs,ht,h⟩
 |k::l,s,t,hs,ht,h,h1,h2=>by
  have r1:=fun s t k (hk:k∈l)=>h1 s t k (List.mem_cons_of_mem _ hk)
  have r2:=fun s t k (hk:k∈l)=>h2 s t k (List.mem_cons_of_mem _ hk)
  cases hf:f s k with
  |none=>
   rw[GZ hf,GZ (h2 s t k List.mem_cons_self hs ht h hf)]
   exact Sim.steps hb hb' hp hs ht h r1 r2
  |some m=>
   obtain⟨q1,q2,q3⟩:=h1 s t k List.mem_cons_self hs ht h m hf
   rw[NH hf]
   cases hm:ag5 A O m with
   |true=>
    obtain⟨q4,q5⟩:=q2 hm
    obtain⟨q6,q7⟩:=h.both hb hp hs ht q1 hm q4
    rw[NH q5]
    exact Sim.steps hb hb' hp (o9 hb hs q1) (o9 hb' ht q6) q7 r1 r2
   |false=>
    obtain⟨q4,q5⟩:=q3 hm
    rw[GZ q5]
    exact Sim.steps hb hb' hp (o9 hb hs q1) ht (h.other hb hp hs q1 hm q4) r1 r2
theorem find_congr {α:Type} {p q:α→Bool}: ∀{l:List α},(∀x∈l,p x=q x)→l.find? p=l.find? q
 | [],_=>rfl
 |x::l,h=>by
  rw[List.find?_cons,List.find?_cons,h x List.mem_cons_self,find_congr fun y hy=>h y (List.mem_cons_of_mem _ hy)]
theorem V0 {s:CSt} {who k:Nat}:pQ s who k<4:=by unfold pQ;omega
theorem abK {s:CSt} {st k:Nat}:sM s st k<3:=by unfold sM;omega
theorem SL {s:CSt} {st:Nat} (h:0<(aL s st).done.length):key ((aL s st).done.getD 0 default)∈cS (aL s st):=M9 (cC h)
structure YX (A:Nat→Bool) (i i':CIn):Prop where
 ready: ∀k,k<3→A k=true→i.ready.getD k default=i'.ready.getD k default
 n9: ∀k,k<4→i.n9.getD k default=i'.n9.getD k default
 send: ∀k,k<3→A k=true→i.send.getD k default=i'.send.getD k default
theorem Sim.asB {c c':Cfg} {A O:Nat→Bool} (hb:aQ c) (hb':aQ c') (hp:GB c c' A O) {i i':CIn} (hi:YX A i i') {s t:CSt} (hs:COk c s) (ht:COk c' t) (h:Sim c c' A O s t):
 COk c (CW c i s)∧COk c' (CW c' i' t)∧Sim c c' A O (CW c i s) (CW c' i' t):=by
 have key: ∀s t k,k<3→COk c s→COk c' t→Sim c c' A O s t→vT i' t k=if A k then vT i s k else none:=by
  intro s t k hk hs ht h
  have hc: ∀st,st<4→NN t k st=if A k then NN s k st else false:=by
   intro st hst
   unfold NN
   cases ho:O st with
   |true=>
    rw[←h.ED st hst ho]
    by_cases hd:0<(aL s st).done.length
    ·cases hak:A k with
     |true=>rw[if_pos rfl]
     |false=>
      rw[if_neg (by simp)]
      refine decide_eq_false fun hc=> ?_
      have:=h.who st hst _ (SL hd)
      rw[ho] at this
      unfold AM.key at this
      dsimp only at this
      rw[hc.2,Int.toNat_natCast,hak] at this
      cases this
    ·cases A k<;>simp[hd]
   |false=>
    have hv:=(h.void st hst ho).2
    rw[hv]
    cases hak:A k with
    |false=>simp
    |true=>
     rw[if_pos rfl]
     refine(decide_eq_false (by simp)).trans (decide_eq_false fun hc=> ?_).symm
     have:=h.who st hst _ (SL hc.1)
     rw[ho] at this
     unfold AM.key at this
     dsimp only at this
     rw[hc.2,Int.toNat_natCast,hak] at this
     cases this
  unfold vT
  cases hak:A k with
  |true=>
   rw[hi.ready k hk hak,if_pos rfl]
   have e1:pQ t k=pQ s k:=by funext j;unfold pQ;rw[h.port k hk hak]
   rw[e1]
   split
   ·congr 1
    refine find_congr fun x hx=> ?_
    obtain⟨j,_,rfl⟩:=List.mem_map.1 hx
    rw[hc _ V0,hak,if_pos rfl]
   ·rfl
  |false=>
   rw[if_neg (by simp: ¬(false=true))]
   split
   ·rw[Option.map_eq_none_iff,List.find?_eq_none]
    intro x hx
    obtain⟨j,_,rfl⟩:=List.mem_map.1 hx
    rw[hc _ V0,hak]
    simp
   ·rfl
 refine Sim.steps hb hb' hp hs ht h (fun s t k hk hs ht h m hm=> ?_) fun s t k hk hs ht h hm=> ?_
 ·have hk:=tC hk
  have hg:=TB (c:=c) hs hk hm
  have hkey:=key s t k hk hs ht h
  obtain⟨st,rfl⟩: ∃st,m= .tell k st:=by
   unfold vT at hm
   split at hm
   ·obtain⟨st,_,rfl⟩:=Option.map_eq_some_iff.1 hm;exact⟨st,rfl⟩
   ·cases hm
  have hO:A k=O st:=by
   obtain⟨_,h1,h2,h3⟩:=hg
   have:=h.who st h1 _ (SL h2)
   unfold AM.key at this
   dsimp only at this
   rw[h3,Int.toNat_natCast] at this
   exact this
  refine⟨hg,fun ha=> ?_,fun ha=> ?_⟩
  ·have ha:A k=true:=ha
   exact⟨hO.symm.trans ha,by rw[hkey,if_pos ha,hm]⟩
  ·have ha:A k=false:=ha
   exact⟨hO.symm.trans ha,by rw[hkey,ha];rfl⟩
 ·rw[key s t k (tC hk) hs ht h,hm]
  split<;>rfl
theorem Sim.asD {c c':Cfg} {A O:Nat→Bool} (hb:aQ c) (hb':aQ c') (hp:GB c c' A O) {i i':CIn} (hi:YX A i i') {s t:CSt} (hs:COk c s) (ht:COk c' t) (h:Sim c c' A O s t):
 COk c (dR c s (xX c i s))∧COk c' (dR c' t (xX c' i' t))∧Sim c c' A O (dR c s (xX c i s)) (dR c' t (xX c' i' t)):=by
 have key: ∀s t k,k<4→Sim c c' A O s t→qW i' t k=if O k then qW i s k else none:=by
  intro s t k hk h
  cases ho:O k with
  |true=>
   rw[if_pos rfl]
   unfold qW bI
   rw[h.ED k hk ho,hi.n9 k hk]
  |false=>
   unfold qW
   rw[(h.void k hk ho).1,if_pos (.inr rfl)]
   rfl
 refine Sim.steps hb hb' hp hs ht h (fun s t k hk hs ht h m hm=> ?_) fun s t k hk hs ht h hm=> ?_
 ·have hk:=w8 hk
  have hg:=LM (c:=c) hs hk hm
  have hkey:=key s t k hk h
  have hmm:m= .tick k∨m= .work k:=by
   unfold qW at hm
   split at hm
   ·cases hm
   ·split at hm
    ·cases hm;exact .inl rfl
    ·split at hm
     ·cases hm;exact .inr rfl
     ·cases hm
  have e:ag5 A O m=O k:=by rcases hmm with rfl|rfl<;>rfl
  have e2: ∀b,ZN O b m:=fun b=>by rcases hmm with rfl|rfl<;>exact trivial
  refine⟨hg,fun ha=>⟨e2 _,?_⟩,fun ha=>⟨e2 _,?_⟩⟩
  ·rw[hkey,if_pos (e.symm.trans ha),hm]
  ·rw[hkey,e.symm.trans ha];rfl
 ·rw[key s t k (w8 hk) h,hm]
  split<;>rfl
theorem Sim.asks {c c':Cfg} {A O:Nat→Bool} (hb:aQ c) (hb':aQ c') (hp:GB c c' A O) {i i':CIn} (hi:YX A i i') {s t:CSt} (hs:COk c s) (ht:COk c' t) (h:Sim c c' A O s t):
 COk c (dR c s (MV c i s))∧COk c' (dR c' t (MV c' i' t))∧Sim c c' A O (dR c s (MV c i s)) (dR c' t (MV c' i' t)):=by
 have key: ∀s t k,k<3→Sim c c' A O s t→PA c' i' t k=if A k then PA c i s k else none:=by
  intro s t k hk h
  cases ha:A k with
  |true=>
   rw[if_pos rfl]
   unfold PA
   rw[h.port k hk ha,hi.send k hk ha,hp.yes k hk ha]
  |false=>
   unfold PA
   rw[(h.idle k hk ha).1,hp.no k hk ha,if_neg (by simp)]
   rfl
 refine Sim.steps hb hb' hp hs ht h (fun s t k hk hs ht h m hm=> ?_) fun s t k hk hs ht h hm=> ?_
 ·have hk:=tC hk
  have hg:=YH (c:=c) hs hk hm
  have hkey:=key s t k hk h
  obtain rfl:m= .ask k:=by
   unfold PA at hm
   split at hm
   ·cases hm;rfl
   ·cases hm
  refine⟨hg,fun ha=>⟨trivial,?_⟩,fun ha=>⟨trivial,?_⟩⟩
  ·have ha:A k=true:=ha
   rw[hkey,if_pos ha,hm]
  ·have ha:A k=false:=ha
   rw[hkey,ha];rfl
 ·rw[key s t k (tC hk) h,hm]
  split<;>rfl
theorem Sim.lets {c c':Cfg} {A O:Nat→Bool} (hb:aQ c) (hb':aQ c') (hp:GB c c' A O): ∀{l:List Nat} {s t:CSt} {u u':List Bool},(∀k∈l,k<4)→u.length=3→u'.length=3→(∀k,k<3→A k=true→u.getD k default=u'.getD k default)→COk c s→COk c' t→Sim c c' A O s t→
 COk c (dR c s (oP c s u l))∧COk c' (dR c' t (oP c' t u' l))∧Sim c c' A O (dR c s (oP c s u l)) (dR c' t (oP c' t u' l))
 | [],s,t,u,u',_,_,_,_,hs,ht,h=>⟨hs,ht,h⟩
 |st::l,s,t,u,u',hl,hul,hul',hu,hs,ht,h=>by
  have hst:=hl st List.mem_cons_self
  have hl': ∀k∈l,k<4:=fun k hk=>hl k (List.mem_cons_of_mem _ hk)
  have hmay: ∀k,k<3→HV c s k st→A k=O st:=fun k hk hm=>by
   have hq:=hp.own k _ hk (hs.atK hk hm.1)
   rw[hm.2.2.1] at hq
   rw[←hq,Int.toNat_natCast]
  have hmay': ∀k,k<3→(HV c' t k st↔A k=true∧HV c s k st):=fun k hk=>by
   cases ha:A k with
   |true=>
    unfold HV
    rw[h.port k hk ha,hp.map]
    simp only[hp.at hk ha,true_and]
   |false=>
    unfold HV
    rw[(h.idle k hk ha).2.1]
    simp
  have key:AO c' t u' st=if O st then AO c s u st else none:=by
   cases ho:O st with
   |true=>
    rw[if_pos rfl]
    unfold AO
    rw[←h.ED st hst ho]
    split
    ·have e1:sM t st=sM s st:=by funext j;unfold sM;rw[←h.ED st hst ho]
     rw[e1]
     refine find_congr fun x hx=> ?_
     obtain⟨j,_,rfl⟩:=List.mem_map.1 hx
     have hx3:=abK (s:=s) (st:=st) (k:=j)
     generalize sM s st j=x at hx3 ⊢
     unfold KE
     cases ha:A x with
     |true=>
      rw[hu x hx3 ha]
      congr 1
      rw[decide_eq_decide]
      rw[hmay' x hx3]
      simp[ha]
     |false=>
      rw[decide_eq_false (fun hm=>by have:=(hmay' x hx3).1 hm;rw[ha] at this;cases this.1),decide_eq_false (fun hm=>by have:=hmay x hx3 hm;rw[ha,ho] at this;cases this)]
      simp
    ·rfl
   |false=>
    unfold AO
    rw[if_neg (by simp: ¬(false=true))]
    split
    ·rw[List.find?_eq_none]
     intro x hx
     obtain⟨j,_,rfl⟩:=List.mem_map.1 hx
     have hx3:=abK (s:=t) (st:=st) (k:=j)
     generalize sM t st j=x at hx3 ⊢
     unfold KE
     rw[decide_eq_false fun hm=> ?_]
     ·simp
     ·have h1:=(hmay' x hx3).1 hm
      have:=hmay x hx3 h1.2
      rw[h1.1,ho] at this
      cases this
    ·rfl
  cases hw:AO c s u st with
  |none=>
   have hw':AO c' t u' st=none:=by rw[key,hw];split<;>rfl
   have e1:oP c s u (st::l)=oP c s u l:=by rw[oP,hw]
   have e2:oP c' t u' (st::l)=oP c' t u' l:=by rw[oP,hw']
   rw[e1,e2]
   exact Sim.lets hb hb' hp hl' hul hul' hu hs ht h
  |some who=>
   have hg:=XH hst hw
   have hwh:who<3:=hg.1
   have hAO:=hmay who hwh hg.2.2.2
   have e1:oP c s u (st::l)= .adm who st::oP c (aR c s (.adm who st)) (u.set who true) l:=by rw[oP,hw]
   rw[e1]
   cases ho:O st with
   |true=>
    have hw':AO c' t u' st=some who:=by rw[key,hw,ho];rfl
    have e2:oP c' t u' (st::l)= .adm who st::oP c' (aR c' t (.adm who st)) (u'.set who true) l:=by rw[oP,hw']
    rw[e2]
    obtain⟨q6,q7⟩:=h.both hb hp hs ht hg (show A who=true from hAO.trans ho) ho
    refine Sim.lets hb hb' hp hl' (by simpa using hul) (by simpa using hul') (fun k hk ha=> ?_) (o9 hb hs hg) (o9 hb' ht q6) q7
    rw[pY (by omega),pY (by omega),hu k hk ha]
   |false=>
    have hw':AO c' t u' st=none:=by rw[key,hw,ho];rfl
    have e2:oP c' t u' (st::l)=oP c' t u' l:=by rw[oP,hw']
    rw[e2]
    refine Sim.lets hb hb' hp hl' (by simpa using hul) hul' (fun k hk ha=> ?_) (o9 hb hs hg) ht (h.other hb hp hs hg (show A who=false from hAO.trans ho) ho)
    rw[pY (by omega),if_neg (fun e=>by subst e;rw[hAO,ho] at ha;cases ha)]
    exact hu k hk ha
theorem Sim.cyc {c c':Cfg} {A O:Nat→Bool} (hb:aQ c) (hb':aQ c') (hp:GB c c' A O) {i i':CIn} (hi:YX A i i') {s t:CSt} (hs:COk c s) (ht:COk c' t) (h:Sim c c' A O s t):
 COk c (vF c i s)∧COk c' (vF c' i' t)∧Sim c c' A O (vF c i s) (vF c' i' t):=by
 obtain⟨az9,az2,aAD⟩:=h.asB hb hb' hp hi hs ht
 obtain⟨b1,b2,b3⟩:=aAD.asD hb hb' hp hi az9 az2
 obtain⟨c1,c2,c3⟩:=b3.lets (l:=[0,1,2,3]) (u:=[false,false,false]) (u':=[false,false,false]) hb hb' hp (fun k hk=>w8 hk) rfl rfl (fun _ _ _=>rfl) b1 b2
 exact c3.asks hb hb' hp hi c1 c2
theorem Sim.run {c c':Cfg} {A O:Nat→Bool} (hb:aQ c) (hb':aQ c') (hp:GB c c' A O): ∀{l l':List CIn} {s t:CSt},l.length=l'.length→(∀k,k<l.length→YX A (l.getD k default) (l'.getD k default))→COk c s→COk c' t→Sim c c' A O s t→COk c (sQ c s l)∧COk c' (sQ c' t l')∧Sim c c' A O (sQ c s l) (sQ c' t l')
 | [],[],s,t,_,_,hs,ht,h=>⟨hs,ht,h⟩
 | [],_::_,s,t,hl,_,_,_,_=>by cases hl
 |_::_,[],s,t,hl,_,_,_,_=>by cases hl
 |i::l,i'::l',s,t,hl,hi,hs,ht,h=>by
  obtain⟨az9,az2,aAD⟩:=h.cyc hb hb' hp (hi 0 (by simp)) hs ht
  rw[ME,ME]
  exact Sim.run hb hb' hp (by simpa using hl) (fun k hk=>hi (k+1) (by simpa using hk)) az9 az2 aAD
end Go.AM
end
section
namespace Go.AM
theorem aEB {c:Cfg} {P:CSt→Prop} {f:CSt→Nat→Option Mic}: ∀{l:List Nat} {s:CSt},(∀s k m,f s k=some m→P s→P (aR c s m))→P s→P (dR c s (vE c f s l))
 | [],_,_,h=>h
 |k::l,s,hf,h=>by
  cases hk:f s k with
  |none=>rw[GZ hk];exact aEB hf h
  |some m=>rw[NH hk];exact aEB (s:=aR c s m) hf (hf s k m hk h)
theorem aEJ {c:Cfg} {P:CSt→Prop} (hf: ∀s who st,P s→P (aR c s (.adm who st))): ∀{l:List Nat} {s:CSt} {u:List Bool},P s→P (dR c s (oP c s u l))
 | [],_,_,h=>h
 |st::l,s,u,h=>by
  cases hw:AO c s u st with
  |none=>rw[show oP c s u (st::l)=oP c s u l by rw[oP,hw]];exact aEJ hf h
  |some who=>rw[show oP c s u (st::l)= .adm who st::oP c (aR c s (.adm who st)) (u.set who true) l by rw[oP,hw]];exact aEJ hf (hf s who st h)
theorem aEI {c:Cfg} {i:CIn} {s:CSt} (hr:i.ready.getD 0 default=false) (h: ∀j∈s.told,j.who≠0): ∀j∈(vF c i s).told,j.who≠0:=by
 refine aEB (P:=fun s=>∀j∈s.told,j.who≠0) (fun s k m hm hp=> ?_) (aEJ (P:=fun s=>∀j∈s.told,j.who≠0) (fun s who st hp=>hp) (aEB (P:=fun s=>∀j∈s.told,j.who≠0) (fun s k m hm hp=> ?_) (aEB (P:=fun s=>∀j∈s.told,j.who≠0) (fun s k m hm hp=> ?_) h)))
 ·unfold PA at hm
  split at hm
  ·cases hm;exact hp
  ·cases hm
 ·unfold qW at hm
  split at hm
  ·cases hm
  ·split at hm
   ·cases hm;exact hp
   ·split at hm
    ·cases hm;exact hp
    ·cases hm
 ·unfold vT at hm
  split at hm
  ·rename_i hk
   obtain⟨st,h1,rfl⟩:=Option.map_eq_some_iff.1 hm
   have h2:=List.find?_some h1
   unfold NN at h2
   have h3:=(of_decide_eq_true h2).2
   have hk0:k≠0:=fun e=>by subst e;rw[hr] at hk;cases hk
   intro j hj
   rcases List.mem_append.1 (show j∈s.told++[iF s st] from hj) with hj|hj
   ·exact hp j hj
   ·simp only[List.mem_singleton] at hj
    subst hj
    show ((aL s st).done.getD 0 default).who≠0
    rw[h3];omega
  ·cases hm
theorem aD0 {c:Cfg} {i:CIn} (hr:i.ready.getD 0 default=false): ∀{n:Nat} {s:CSt},(∀j∈s.told,j.who≠0)→∀j∈(sQ c s (List.replicate n i)).told,j.who≠0
 |0,_,h=>h
 |n+1,s,h=>by
  rw[List.replicate_succ,ME]
  exact aD0 hr (aEI hr h)
def in0:CIn:=⟨[false,true,true],[false,false,false,false],[true,true,true]⟩
def aBK (c:Cfg):Cfg:=⟨c.map,c.lat,[[],c.cP.getD 1 default,c.cP.getD 2 default]⟩
theorem aEE {c:Cfg} (hb:aQ c):aQ (aBK c):=by
 obtain⟨h1,h2,h3,h4,h5⟩:=hb
 refine⟨h1,h2,h3,rfl,fun hc=>h5 ?_⟩
 obtain⟨x,hx,hx2⟩:=cH.1 hc
 simp only[aBK,List.mem_cons,List.not_mem_nil,or_false] at hx
 rcases hx with rfl|rfl|rfl
 ·exact absurd (of_decide_eq_true hx2) (Classical.not_not.2 ⟨by simp,fun hc=>by obtain⟨y,hy,_⟩:=cH.1 hc;cases hy⟩)
 ·exact cH.2 ⟨_,cC (by omega),hx2⟩
 ·exact cH.2 ⟨_,cC (by omega),hx2⟩
theorem aEF {N:Nat} (hN:252≤N) {c:Cfg} (hb:aQ c) (hg: ∀k n,k<3→oA c (k:Nat) n→(gZ c.map (bT c k n)=0↔k=0)):
 fS (sQ c HY (List.replicate N in0)).told 0=[]∧ ∀k:Nat,1≤k→k<3→(fS (sQ c HY (List.replicate N in0)).told k).length=(c.cP.getD k default).length:=by
 constructor
 ·have h:=aD0 (c:=c) (i:=in0) rfl (n:=N) (s:=HY) (fun j hj=>by cases hj)
  unfold fS
  rw[List.filter_eq_nil_iff]
  intro j hj
  have:=h j hj
  simpa using this
 ·have hb':=aEE hb
  have hp:GB c (aBK c) (fun k=>decide (k≠0)) (fun k=>decide (k≠0)):=by
   refine⟨rfl,rfl,fun k hk ha=> ?_,fun k hk ha=> ?_,fun k n hk hn=> ?_⟩
   ·have:k=1∨k=2:=by have:=of_decide_eq_true ha;omega
    rcases this with rfl|rfl<;>rfl
   ·have:k=0:=by simpa using ha
    subst this;rfl
   ·have hs:=(aiT hb (q:=bT c k n)).1
    rw[decide_eq_decide]
    have:=hg k n hk hn
    omega
  have hsim:=Sim.run (c:=c) (c':=aBK c) (A:=fun k=>decide (k≠0)) (O:=fun k=>decide (k≠0)) hb hb' hp (l:=List.replicate N in0) (l':=List.replicate N pU) (s:=HY) (t:=HY) (by simp) (fun k hk=>by
   simp only[List.length_replicate] at hk
   have e1:(List.replicate N in0).getD k default=in0:=by simp[List.getD,List.getElem?_replicate,hk]
   have e2:(List.replicate N pU).getD k default=pU:=by simp[List.getD,List.getElem?_replicate,hk]
   rw[e1,e2]
   refine⟨fun k hk ha=> ?_,fun k hk=>rfl,fun k hk ha=>rfl⟩
   have:k=1∨k=2:=by have:=of_decide_eq_true ha;omega
   rcases this with rfl|rfl<;>rfl) (anK c) (anK _) Sim.init
  have hfin:Fin (aBK c) (sQ (aBK c) HY (List.replicate N pU)):=aiL hb' (anK _) (by have:=(afV hb' (anK (aBK c))).2;omega)
  have htl:=asS hsim.2.1 hfin
  have hto:=hsim.2.2.told
  intro k h1 h3
  have hk:k=1∨k=2:=by omega
  have e:fS (sQ c HY (List.replicate N in0)).told k=fS (sQ (aBK c) HY (List.replicate N pU)).told k:=by
   rw[←hto]
   unfold fS
   rw[List.filter_filter]
   refine List.filter_congr fun j hj=> ?_
   by_cases hjw:j.who=(k:Int)
   ·have:j.who.toNat≠0:=by omega
    simp[hjw];omega
   ·simp[hjw]
  rw[e,htl k h3]
  rcases hk with rfl|rfl<;>rfl
end Go.AM
end
