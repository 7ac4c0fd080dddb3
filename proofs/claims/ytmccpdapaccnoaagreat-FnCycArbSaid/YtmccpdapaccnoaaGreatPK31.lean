/- Texts laid together by a program: rules, contracts and the walk that leads to the law. -/
import Derived.Test.YtmccpdapaccnoaaGreatPK6
import Derived.Test.YtmccpdapaccnoaaGreatPK30
import Derived.Test.YtmccpdapaccnoaaGreatPK25
import Derived.Test.YtmccpdapaccnoaaGreatPK29
import Derived.Test.YtmccpdapaccnoaaGreatPK8
import Derived.Test.YtmccpdapaccnoaaGreatPK21
import Derived.Test.YtmccpdapaccnoaaGreatPK22
set_option linter.unusedVariables false
set_option linter.unusedSimpArgs false
set_option linter.unusedSectionVars false
set_option maxRecDepth 100000
set_option maxHeartbeats 8000000
namespace Go.AM
def bmC:CSt:=⟨[],[],[],[],[]⟩
def inB (i:CIn):Bool:=decide (i.ready.length=3∧i.n9.length=4∧i.send.length=3)
theorem bm2 {i:CIn}:inB i=true↔vZ i:=decide_eq_true_iff
noncomputable def bmA (c:Cfg) (s:CSt) (i:CIn):CSt:=if cyB c s=true∧inB i=true then vF c i s else bmC
end Go.AM
namespace Go.Proofs.YtmccpdapaccnoaaGreat
open Go Go.AM
attribute [local irreducible] aM wv aB vd wvH
section
variable {H : aA} {nx : Nat} {K : D → aA → Nat → Prop}
theorem bl6 {i:CIn} (h1:i.ready.length<2^20) (h2:i.n9.length<2^20) (h3:i.send.length<2^20) (h:K (dB (inB i)) H nx):aB Tryz.prog uJ [boR (eIn i)] H nx K:=by
 refine aB.pure (args0:=[boR (eIn i)]) (R:=fun rr=>rr=dB (inB i)) ?_ rfl (aI ⟨aE rfl,trivial⟩) (fun r hr=>hr▸h);clear h;refine XL rfl fun Q hQ=> ?_;unfold CT;by_cases g1:i.ready.length=3
 ·by_cases g2:i.n9.length=4
  ·by_cases g3:i.send.length=3
   ·have hd:inB i=true:=decide_eq_true ⟨g1,g2,g3⟩;repeat' first| (first|apply bn1|apply bpJ (by omega))<;>(simp only[go_sem,g1,g2,g3])|fail
    all_goals exact aZ hQ _ rfl rfl (congrArg dB hd.symm)
   ·have hd:inB i=false:=decide_eq_false fun h=>g3 h.2.2;have e3:decide ((i.send.length:Int)=3)=false:=decide_eq_false (by omega);repeat' first| (first|apply bn1|apply bpJ (by omega))<;>(simp only[go_sem,g1,g2,e3])|fail
    all_goals first|exact aZ hQ _ rfl rfl (congrArg dB hd.symm)|omega
  ·have hd:inB i=false:=decide_eq_false fun h=>g2 h.2.1;repeat' first| (first|apply bn1|apply bpJ (by omega)|apply bpK (by omega))<;>(simp only[go_sem,g1])|fail
   all_goals first|exact aZ hQ _ rfl rfl (congrArg dB hd.symm)|omega
 ·have hd:inB i=false:=decide_eq_false fun h=>g1 h.1;repeat' first| (first|apply bn1|apply bpK (by omega))<;>(simp only[go_sem])|fail
  all_goals first|exact aZ hQ _ rfl rfl (congrArg dB hd.symm)|omega
theorem bmP {c:Cfg} {s:CSt} {i:CIn} (hcf:jO c) (hf:beL s) (hi:bm3 i)
 (h: ∀H' nx',nx≤nx'→(∀id,id<nx→H' id=H id)→K (boR (eI (bmA c s i))) H' nx'):aB Tryz.prog FO [boR (cU c),boR (eI s),boR (eIn i)] H nx K:=by
 obtain⟨l1,l2,l3⟩:=hi
 by_cases hg:cyB c s=true∧inB i=true
 ·obtain⟨hb,hs⟩:=bmR.1 hg.1;unfold bmA at h;rw[if_pos hg] at h;obtain⟨h1,h2⟩:=hg;apply aB.tW;refine PB rfl fun Q hQ=> ?_;unfold vJ;repeat' first| (first|apply bn1|apply bd4 hcf hf|apply bl6 (i:=i) (by omega) (by omega) (by omega)|refine fJ (hs.sz hb) (fun H' nx' nm cells hx hR boS ffr=> ?_))<;>(simp only[go_sem,h1,h2,boC])|fail
  have hcl:cells.length=5:=by obtain⟨_,_,_,_,_,rfl,_⟩:=hR.ex;rfl
  have hrow:cells++List.drop cells.length [D1.osl 0 0 0 0 0,.osl 0 0 0 0 0,.osl 0 0 0 0 0,.osl 0 0 0 0 0,.osl 0 0 0 0 0]=cells:=by rw[hcl];simp
  refine⟨hcl,by omega,?_⟩;rw[hrow];try apply bn0
  refine aM.TF fun bqO hG0=> ?_;have gfr: ∀id,id<nx+4→bqO id=H' id:=fun id hid=>by rw[hG0,aA.aC (by omega)]
  have c0:bqO nx=some ⟨3,1,[cU c]⟩:=by rw[gfr _ (by omega),ffr _ (by omega)];simp only[aA.set,bqT,Nat.reduceEqDiff,if_false,if_true,brN,reduceIte]
  have c2:bqO (nx+2)=some ⟨3,1,[eIn i]⟩:=by rw[gfr _ (by omega),ffr _ (by omega)];simp only[aA.set,bqU,Nat.reduceEqDiff,bqV,if_false,if_true,reduceIte]
  have c3:bqO (nx+3)=some ⟨5,1,[[.osl 0 0 0 0 0,.osl 0 0 0 0 0,.osl 0 0 0 0 0,.osl 0 0 0 0 0,.osl 0 0 0 0 0]]⟩:=by rw[gfr _ (by omega),ffr _ (by omega)];simp only[aA.set,bqU,Nat.reduceEqDiff,bqV,if_false,if_true,reduceIte]
  have glo: ∀id,id<nx→bqO id=H id:=fun id hid=>by rw[gfr _ (by omega),ffr _ (by omega)];simp only[aA.set,show ¬id=nx by omega,show ¬id=nx+1 by omega,show ¬id=nx+2 by omega,show ¬id=nx+3 by omega,if_false]
  have bnC:Rep (fun id=>id<nx+4) bqO nx' (nx+15) nm s:=by have hlo:=fun k hk=>boS.rng k hk;refine⟨⟨cells,by rw[hG0];exact aA.bH,hR.frame fun k hk=>by have:=hlo k hk;rw[hG0,aA.aC (by omega)]⟩,⟨boS.inj,fun k hk=>by have:=hlo k hk;omega,fun k hk hn=>by have:=hlo k hk;omega⟩,fun k hk=>by have:=hlo k hk;omega,⟨by omega,by omega⟩,fun id hid=>by omega⟩
  clear hG0 hR boS ffr gfr;have hA:bQ nx' [nx,nx+2]:=AM.apart (by simp) (by simp;omega);simp only[bQ,eZ] at hA;repeat' first|apply bn1<;>(simp only[go_sem,t1,bqT,c0,c2,hA])|fail
  refine tX (X:=fun id=>id<nx+4) hb hs (bm2.1 h2) (bnC.frame (by omega) rfl (fun _ _=>rfl) fun id hid2=>⟨by omega,by omega,fun k hk he=>bnC.names.av k hk (he▸hid2)⟩) fun H2 nx2 nm2 a b d e hx2 hR2 hX2=> ?_;have hS:COk c (vF c i s):=PN hb hs;generalize vF c i s=S at*;obtain⟨cells2,hst,hRL⟩:=hR2.st;obtain⟨wc,hc,pc,vc,tc,hce,_⟩:=hRL.ex;have hst2:=hst;rw[hce] at hst2;unfold U2 at hst2;simp only[go_sem];repeat' first|apply bn1<;>(simp only[go_sem,hst2])|fail
  have hn1:=hR2.names.lt;refine aB.ao4 (args':=[boR (eI S)]) (without (fun j=>∃k,k<19∧j=nm2 k) H2) (fun j=>∃k,k<19∧j=nm2 k) rfl (fun i d0 d h1 h2=> ?_) kS ?_
  ·match i with
   |0=>simp only[List.getElem?_cons_zero,Option.some.injEq] at h1 h2;subst h1;subst h2;have:=A8 (σ:=id) (nh:=nx2+3) (hRL.VI (F:=fun j=>∃k,k<19∧j=nm2 k) (fun k hk=>⟨k,hk,rfl⟩) hS.pl hS.sl);rw[hce] at this;exact lY this
   |i+1=>simp at h1
  refine fJ (hS.sz hb) fun H3 nx3 nm3 cells3 hx3 hR3 hP3 ffr3=> ?_;have hcl3:cells3.length=5:=by obtain⟨_,_,_,_,_,rfl,_⟩:=hR3.ex;rfl
  have hrow3:cells3++List.drop cells3.length [D1.osl 0 0 0 0 0,.osl 0 0 0 0 0,.osl 0 0 0 0 0,.osl 0 0 0 0 0,.osl 0 0 0 0 0]=cells3:=by rw[hcl3];simp
  have e3:H3 (nx+3)=some ⟨5,1,[[.osl 0 0 0 0 0,.osl 0 0 0 0 0,.osl 0 0 0 0 0,.osl 0 0 0 0 0,.osl 0 0 0 0 0]]⟩:=by rw[ffr3 _ (by omega),iI (fun⟨k,hk,he⟩=>hR2.names.av k hk (show nm2 k<nx+4 by omega)),hX2 _ (show nx+3<nx+4 by omega)];exact c3
  simp only[go_sem,e3];refine⟨hcl3,by omega,?_⟩;rw[hrow3];try apply bn0
  repeat' first|apply bn1<;>(simp only[go_sem])|fail
  refine hQ _ _ _ _ _ (.inr rfl) (fZ rfl aA.bH hcl3) ⟨boR (eI S),_,fun j=>∃k,k<19∧j=nm3 k,?_,kS,h _ _ (by omega) fun id hid=> ?_⟩;·exact lY (A8 ((hR3.frame fun k hk=>aA.aC (by have:=hP3.rng k hk;omega)).VI (fun k hk=>⟨k,hk,rfl⟩) hS.pl hS.sl))
  ·rw[iI (fun⟨k,hk,he⟩=>by have:=hP3.rng k hk;omega),aA.aC (by omega),ffr3 _ (by omega),iI (fun⟨k,hk,he⟩=>hR2.names.av k hk (show nm2 k<nx+4 by omega)),hX2 _ (show id<nx+4 by omega)];exact glo id hid
 ·unfold bmA at h;rw[if_neg hg] at h;apply aB.tW;refine PB rfl fun Q hQ=> ?_;unfold vJ;have hz:eI bmC=[.isl [],.isl [],.isl [],.isl [],.isl []]:=rfl;by_cases h1:cyB c s=true
  ·have h2:inB i=false:=by cases hh:inB i;rfl;exact absurd ⟨h1,hh⟩ hg
   repeat' first| (first|apply bn1|apply bd4 hcf hf|apply bl6 (i:=i) (by omega) (by omega) (by omega))<;>(simp only[go_sem,h1,h2,boC])|fail
   exact hQ _ _ _ _ _ (.inr rfl) (LL rfl aA.bH rfl) ⟨boR (eI bmC),_,noF,lY (aH (.frz (.nil ..)) (aH (.frz (.nil ..)) (aH (.frz (.nil ..)) (aH (.frz (.nil ..)) (aH (.frz (.nil ..)) eP))))),aK,h _ _ (by omega) fun id hid=>by simp (disch:=omega) only[aA.aC]⟩
  ·have h2:cyB c s=false:=by cases hh:cyB c s;rfl;exact absurd hh h1
   repeat' first| (first|apply bn1|apply bd4 hcf hf)<;>(simp only[go_sem,h2,boC])|fail
   exact hQ _ _ _ _ _ (.inr rfl) (LL rfl aA.bH rfl) ⟨boR (eI bmC),_,noF,lY (aH (.frz (.nil ..)) (aH (.frz (.nil ..)) (aH (.frz (.nil ..)) (aH (.frz (.nil ..)) (aH (.frz (.nil ..)) eP))))),aK,h _ _ (by omega) fun id hid=>by simp (disch:=omega) only[aA.aC]⟩
end
end Go.Proofs.YtmccpdapaccnoaaGreat
namespace Go.AM
theorem bm1 {c:Cfg} {s:CSt} {i:CIn} (h1:cyB c s=true) (h2:inB i=true):bmA c s i=vF c i s:=if_pos ⟨h1,h2⟩
theorem buO:inB buB=true:=by decide
theorem buI:bm3 buB:=⟨by decide,by decide,by decide⟩
theorem buH {H:aA} {F:Nat→Prop} {σ:Nat→Nat} {nh a b d m1 bp3 bqM:Nat} (h1:H a=some ⟨1,m1,[false,false,false].map eH⟩) (h2:H b=some ⟨1,bp3,[true,true,true,true].map eH⟩) (h3:H d=some ⟨1,bqM,[false,false,false].map eH⟩) (bpR:F a) (f2:F b) (bpS:F d):
 CvL H F σ nh (eIn buB) [.osl 1 a 0 3 3,.osl 1 b 0 4 4,.osl 1 d 0 3 3]:=
 aH (bW mK h1 rfl (by decide) bpR) (aH (bW mK h2 rfl (by decide) f2) (aH (bW mK h3 rfl (by decide) bpS) eP))
theorem bvU {c:Cfg} {s:CSt} {k:Nat} {a:List Bool} (ha:a=(List.range 3).map fun w=>decide (HV c s w k)) (hp:(aL s k).pipe.length<2):bvK (aL s k).last a=(AO c s [false,false,false] k).elim (-1) fun w=>(w:Int):=by
 unfold AO bvK;rw[if_pos hp];show ((([1,2,3]:List Nat).map (sM s k)).find? _).elim _ _=_;rw[find_congr (q:=KE c s [false,false,false] k) fun w hw=> ?_];obtain⟨j,_,rfl⟩:=CF.1 hw;have hw3:sM s k j<3:=by unfold sM;omega
 generalize sM s k j=w at*;unfold KE;rw[bvR,ha];have:w=0∨w=1∨w=2:=by omega
 rcases this with rfl|rfl|rfl<;>simp[brP]
end Go.AM
namespace Go.Proofs.YtmccpdapaccnoaaGreat
open Go Go.AM
attribute [local irreducible] aM wv aB vd wvH
theorem bvD:cJ Tryz.prog bu9 Tryz.f8 buZ bu6:=cJ.mk Tryz.func8 (by kernel_rfl) bvE
theorem bvT (l:List Int) (hby: ∀x∈l,0≤x∧x<256):aB Tryz.prog bu9 [dS (l.map eU8)] .nil 0 fun rr _ _=>rr.plain=true∧rr=dB true:=by
 refine bvD rfl fun Q hQ=> ?_;unfold buZ;by_cases hbig:l.length≤1048576
 case neg=>
  repeat' first|apply bn1<;>(simp only[go_sem])|apply bn2 (by omega)|fail
  exact hQ _ _ _ _ _ (.inr rfl) rfl ⟨rfl,rfl⟩
 have hl:kZ l:=⟨by omega,hby⟩
 repeat' first| (first|apply bn1|apply bmH hl)<;>(simp only[go_sem])|apply bn3 (by omega)|fail
 intro H1 nx1 c s i hx1 hcf hf ha hi _;have hA:bQ nx1 [10,11,12]:=AM.apart (by simp) (by simp;omega);simp only[bQ,eZ] at hA;have hcrk: ∀{H:aA} {nx:Nat} {K:D→aA→Nat→Prop},K (dB true) H nx→aB Tryz.prog E2 [] H nx K:=fun h=>apY h;have hbf:(false==false)=true:=rfl;cases h1:cyB c s
 · (try simp only[go_sem,boC,h1,hbf,hA,boC]);repeat' first| (first|apply bn1|apply bd7 hcf hf|apply bd4 hcf hf|apply hcrk)<;>(simp only[go_sem,boC,h1,hbf,hA,boC])|fail
   all_goals exact hQ _ _ _ _ _ (.inr rfl) rfl ⟨rfl,rfl⟩
 obtain⟨hb,hs⟩:=bmR.1 h1;(try simp only[go_sem,boC,h1,hA,boC]);repeat' first| (first|apply bn1|apply bd7 hcf hf)<;>(simp only[go_sem,boC,h1,hA,boC])|fail
 generalize bqK:aA.set _ (nx1+8) _=G;have g4:G (nx1+8)=some ⟨3,1,[[.osl 1 (nx1+4) 0 3 3,.osl 1 (nx1+5) 0 4 4,.osl 1 (nx1+6) 0 3 3]]⟩:=by rw[←bqK];exact aA.bH
 have ga:G (nx1+4)=some ⟨1,3,[false,false,false].map eH⟩:=by rw[←bqK];simp (disch:=omega) only[aA.aC,aA.bH];rfl
 have gb:G (nx1+5)=some ⟨1,4,[true,true,true,true].map eH⟩:=by rw[←bqK];simp (disch:=omega) only[aA.aC,aA.bH];rfl
 have gc:G (nx1+6)=some ⟨1,3,[false,false,false].map eH⟩:=by rw[←bqK];simp (disch:=omega) only[aA.aC,aA.bH];rfl
 have bqS:G 10=some ⟨3,1,[cU c]⟩:=by rw[←bqK];simp (disch:=omega) only[aA.aC,aA.bH]
 have p1:G 11=some ⟨5,1,[eI s]⟩:=by rw[←bqK];simp (disch:=omega) only[aA.aC,aA.bH]
 clear bqK hA;refine aB.ao4 (args':=[boR (cU c),boR (eI s),boR (eIn buB)]) ((without (fun j=>j=nx1+4∨j=nx1+5∨j=nx1+6) G).set (nx1+8) ⟨3,1,[eIn buB]⟩) (fun j=>j=nx1+4∨j=nx1+5∨j=nx1+6) rfl (fun j d0 d h1 h2=> ?_) (apO (t:=nx1+8) (fun j hj=>by rw[aA.aC (by omega)];exact if_pos hj) aA.bH g4 (by omega) (aP (buH ga gb gc (.inl rfl) (.inr (.inl rfl)) (.inr (.inr rfl)))) fun j h1 h2=>by rw[aA.aC h1,iI h2]) ?_
 ·match j with
  |0=>simp at h1 h2;subst h1;subst h2;exact aE rfl
  |1=>simp at h1 h2;subst h1;subst h2;exact aE rfl
  |2=>simp at h1 h2;subst h1;subst h2;exact lY (buH ga gb gc (.inl rfl) (.inr (.inl rfl)) (.inr (.inr rfl)))
  |j+3=>simp at h1
 refine bmP hcf hf buI fun H2 nx2 hx2 fr2=> ?_;have bqB:H2 10=some ⟨3,1,[cU c]⟩:=by rw[fr2 _ (by omega),aA.aC (by omega),iI (by omega)];exact bqS
 have q1:H2 11=some ⟨5,1,[eI s]⟩:=by rw[fr2 _ (by omega),aA.aC (by omega),iI (by omega)];exact p1
 clear fr2 g4 ga gb gc bqS p1;rw[bm1 h1 buO];obtain⟨x,hx⟩: ∃x,x=vF c buB s:=⟨_,rfl⟩
 have hlaw:=bvY hs;have hok:COk c x:=by rw[hx];exact PN hb hs
 rw[←hx] at hlaw ⊢;(try simp only[go_sem,boC,boC]);repeat' first|apply bn1<;>(simp only[go_sem,boC,boC])|fail
 generalize bqK:aA.set _ (nx1+14) _=G;have bqC:G 10=some ⟨3,1,[cU c]⟩:=by rw[←bqK,aA.aC (by omega)];exact bqB
 have g1:G 11=some ⟨5,1,[eI s]⟩:=by rw[←bqK,aA.aC (by omega)];exact q1
 have g2:G (nx1+14)=some ⟨5,1,[eI x]⟩:=by rw[←bqK];exact aA.bH
 clear bqK bqB q1
 refine aM.gP (β:=Nat) (fun u=>en [(8,boP u),(7,.one (.c (.ptr 5 (nx1+14) 0 0))),(4,.one (.c (.ptr 5 11 0 0))),(3,.one (.c (.ptr 3 10 0 0)))])
  (fun u H3 bqP=>u≤4∧H3 10=some ⟨3,1,[cU c]⟩∧H3 11=some ⟨5,1,[eI s]⟩∧H3 (nx1+14)=some ⟨5,1,[eI x]⟩) (fun u=>4-u) 0 ⟨noF,_,by repeat' first|exact bo2|refine xqI rfl rfl ?_|refine xqP (by omega) rfl rfl ?_|fail,aK,by omega,bqC,g1,g2⟩ ?_
 clear bqC g1 g2;rintro k H3 nx3 hnx3 ⟨hk,r0,r1,r2⟩ bpQ hKL;by_cases hlt:k<4
 case neg=>
  repeat' first| (first|apply bn1|apply hcrk)<;>(simp only[go_sem,t1])|apply bn3 (by omega)|fail
  exact hQ _ _ _ _ _ (.inr rfl) rfl ⟨rfl,rfl⟩
 obtain⟨bv0,hfA⟩: ∃bv0:Nat→Bool,bv0=fun w=>decide (HV c s w k):=⟨_,rfl⟩
 repeat' first|apply bn1<;>(simp only[go_sem,boC])|apply bn2 (by omega)|fail
 refine aM.gP (β:=Nat×Nat×Nat) (fun u=>en [(10,boP u.1),(9,.one (.c (.osl 1 u.2.1 0 u.1 u.2.2))),(8,boP k),(7,.one (.c (.ptr 5 (nx1+14) 0 0))),(4,.one (.c (.ptr 5 11 0 0))),(3,.one (.c (.ptr 3 10 0 0)))])
  (fun u bqL az7=>u.1≤3∧Own eH 1 bqL u.2.1 u.2.2 ((List.range u.1).map bv0)∧nx3≤u.2.1∧u.2.1<az7∧bqL 10=some ⟨3,1,[cU c]⟩∧bqL 11=some ⟨5,1,[eI s]⟩∧bqL (nx1+14)=some ⟨5,1,[eI x]⟩) (fun u=>3-u.1) (0,nx3+2,0)
  ⟨noF,_,by repeat' first|exact bo2|refine xqI rfl rfl ?_|refine xqP (by omega) rfl rfl ?_| (with_reducible apply bo3)| ((with_reducible apply bo0);exact bpA)| ((with_reducible apply bo1);apply bo7)|fail,aK,by dsimp only;omega,⟨0,aA.bH,m5 _,m5 _⟩,by dsimp only;omega,by dsimp only;omega,(aA.aC (by omega)).trans r0,(aA.aC (by omega)).trans r1,(aA.aC (by omega)).trans r2⟩ ?_
 clear r0 r1 r2;rintro⟨w,b,cap⟩ bqL nx4 hnx4 ⟨hw,⟨m,o1,o2,bqD⟩,hb1,hb2,s0,s1,s2⟩ bqG hKM;dsimp only at hw o1 o2 bqD hb1 hb2;have hA4:bQ nx4 [10,11,nx1+14,b]:=AM.apart (by simp;omega) (by simp;omega);simp only[bQ,eZ] at hA4;obtain⟨A,hAl⟩: ∃A,A=(List.range w).map bv0:=⟨_,rfl⟩
 have hAn:A.length=w:=by rw[hAl];simp
 rw[←hAl] at o1 o2;have hta:A.take w=A:=boL (by omega);by_cases hw3:w<3
 ·have hpl:=hs.pl;have hpo:=hs.port w hw3;obtain⟨hp3,hpr⟩:=hC hb;have hRs:((List.range (w+1)).map bv0).map eH=A.map eH++[[.v (.bool (bv0 w))]]:=by rw[brP,bqX,bqX,←hAl];rfl
  by_cases hcm:bvO c s w
  ·obtain⟨p,hpd⟩: ∃p,p=s.bM.getD w default:=⟨_,rfl⟩
   have hpd':=hpd.symm;have hq1:=hcm.1;rw[show aF s w=p from hpd.symm] at hpo hq1;obtain⟨y,hy⟩: ∃y,y=p.queue.getD 0 default:=⟨_,rfl⟩
   have hy':=hy.symm;obtain⟨hn1,hn2⟩:=hpo.next;obtain⟨hl1,hl2⟩:=hpo.ql;have hq0:=hpo.queue 0 hq1;rw[←hy] at hq0;have has:oA c w y:=hpo.asks hw3 (by omega) (by omega);obtain⟨r,hr⟩: ∃r,r=bT c w y:=⟨_,rfl⟩
   have hro:dH r:=(by rw[hr];exact GK hb has);have hr':List.getD (c.cP.getD w default) y.toNat default=r:=hr.symm;obtain⟨_,hn3,hn4⟩:=has
   have hfw:bv0 w=decide (gZ c.map r=(k:Int)):=by
    rw[hfA];refine decide_eq_decide.2 ⟨fun h=> ?_,fun h=> ?_⟩;·have:=(bvP.1 h).2;rw[show aF s w=p from hpd.symm,←hy,←hr] at this;exact this
    ·exact bvP.2 ⟨hcm,by rw[show aF s w=p from hpd.symm,←hy,←hr];exact h⟩
   repeat' first| (first|apply bn1|apply bvC hb hs hw3|apply bu3 hb.1 hro)<;>(simp only[go_sem,s0,s1,o1,hA4,hcm,hpd',hy',hr',hpl,hp3,hta,hAn,boC];try simp (disch:=omega) only[Iw])|apply bn2 (by omega)| (with_reducible first|refine fun(cap:Nat) (hcap:_≤cap)=> ?_|refine fun(hcp:_≤cap)=> ?_)|refine⟨by omega,?_⟩|fail
   exact hKM _ _ _ (w+1,nx4+30,cap) noF _ (by omega) (by dsimp only;omega) (by dsimp only;repeat' first|exact bo2|refine xqI rfl rfl ?_|refine xqP (by omega) rfl rfl ?_|refine xqO (by omega) rfl rfl (by rfl) ?_|fail) aK ⟨by dsimp only;omega,⟨cap,by dsimp only;rw[aA.bH,hRs,hfw],by simp;omega,m5 _⟩,by dsimp only;omega,by dsimp only;omega,by rw[aA.aC (by omega),aA.aC (by omega),aA.jG (by omega)];exact s0,by rw[aA.aC (by omega),aA.aC (by omega),aA.jG (by omega)];exact s1,by rw[aA.aC (by omega),aA.aC (by omega),aA.jG (by omega)];exact s2⟩
  ·have hfw:bv0 w=false:=(by rw[hfA];exact decide_eq_false fun h=>hcm (bvP.1 h).1);repeat' first| (first|apply bn1|apply bvC hb hs hw3)<;>(simp only[go_sem,s0,s1,o1,hA4,hcm,hta,hAn,boC];try simp (disch:=omega) only[Iw])|apply bn2 (by omega)| (with_reducible first|refine fun(cap:Nat) (hcap:_≤cap)=> ?_|refine fun(hcp:_≤cap)=> ?_)|refine⟨by omega,?_⟩|fail
   exact hKM _ _ _ (w+1,nx4+30,cap) noF _ (by omega) (by dsimp only;omega) (by dsimp only;repeat' first|exact bo2|refine xqI rfl rfl ?_|refine xqP (by omega) rfl rfl ?_|refine xqO (by omega) rfl rfl (by rfl) ?_|fail) aK ⟨by dsimp only;omega,⟨cap,by dsimp only;rw[aA.bH,hRs,hfw],by simp;omega,m5 _⟩,by dsimp only;omega,by dsimp only;omega,by rw[aA.aC (by omega),aA.aC (by omega),aA.jG (by omega)];exact s0,by rw[aA.aC (by omega),aA.aC (by omega),aA.jG (by omega)];exact s1,by rw[aA.aC (by omega),aA.aC (by omega),aA.jG (by omega)];exact s2⟩
 ·have hw3':w=3:=by omega
  subst hw3';rw[hfA] at hAl;have hpl:=hs.pl;have hsl:=hs.sl;have hxl:=hok.sl;obtain⟨hvp,_,hvl,_⟩:=hs.slv k hlt;obtain⟨v,hv⟩: ∃v,v=aL s k:=⟨_,rfl⟩
  obtain⟨z,hz⟩: ∃z,z=aL x k:=⟨_,rfl⟩
  have hvd:s.dD.getD k default=v:=hv.symm;have hzd:x.dD.getD k default=z:=hz.symm;have hlk:=hz.trans (hlaw k hlt);unfold bvW at hlk;have hwl:=fun h=>bvU (c:=c) (s:=s) (k:=k) hAl h;rw[←hv] at hlk hvp hvl hwl;have hdd:decide (v.pipe=v.pipe)=true:=decide_eq_true rfl
  cases hl2:AO c s [false,false,false] k with
  |none=>
   rw[hl2] at hlk hwl;have hlk:z=v:=hlk;subst hlk;by_cases hp2:z.pipe.length<2
   ·have hwa:bvK z.last A= -1:=hwl hp2;repeat' first| (first|apply bn1|apply bvA (last:=z.last) (a:=A) hvl.1 hvl.2 hAn (yP mK o1 hAn.symm o2 trivial)|apply IH (by omega) (by omega))<;>(simp only[go_sem,s0,s1,s2,hA4,hvd,hzd,hsl,hxl,hdd,hwa,boC];try simp (disch:=omega) only[Iw])|apply bn2 (by omega)|apply bn3 (by omega)|refine⟨by omega,?_⟩|fail
    exact hKL _ _ _ (k+1) noF _ (by omega) (by omega) (by repeat' first|exact bo2|refine xqI rfl rfl ?_|refine xqP (by omega) rfl rfl ?_|fail) aK ⟨by omega,s0,s1,s2⟩
   ·repeat' first| (first|apply bn1|apply IH (by omega) (by omega))<;>(simp only[go_sem,s0,s1,s2,hA4,hvd,hzd,hsl,hxl,hdd,boC];try simp (disch:=omega) only[Iw])|apply bn3 (by omega)|refine⟨by omega,?_⟩|fail
    exact hKL _ _ _ (k+1) noF _ (by omega) (by omega) (by repeat' first|exact bo2|refine xqI rfl rfl ?_|refine xqP (by omega) rfl rfl ?_|fail) aK ⟨by omega,s0,s1,s2⟩
  |some u=>
   rw[hl2] at hlk hwl;obtain⟨hu3,_,_,hmay⟩:=XH hlt hl2;have hp2:v.pipe.length<2:=Classical.byContradiction fun hn=>by unfold AO at hl2;rw[←hv,if_neg hn] at hl2;cases hl2
   have hwa:bvK v.last A=(u:Int):=hwl hp2;obtain⟨p,hpd⟩: ∃p,p=aF s u:=⟨_,rfl⟩
   have hpd':s.bM.getD u default=p:=hpd.symm;dsimp only at hlk;rw[←hpd] at hlk;have hq1:0<p.queue.length:=(by rw[hpd];exact hmay.1);obtain⟨y,hy⟩: ∃y,y=p.queue.getD 0 default:=⟨_,rfl⟩
   have hy':=hy.symm;rw[←hy] at hlk;obtain⟨j,hj⟩: ∃j:fC,j=⟨u,y,c.lat.getD k default⟩:=⟨_,rfl⟩
   have hj1:j.who=(u:Int):=(by rw[hj]);have hj2:j.n=y:=(by rw[hj]);have blH:z.pipe.length=v.pipe.length+1:=(by rw[hlk];simp);have blI:z.pipe.getD v.pipe.length default=j:=(by rw[hlk,hj];simp[List.getD]);have aEP:z.last=(u:Int):=(by rw[hlk]);clear hlk;repeat' first| (first|apply bn1|apply bpK (by omega)|apply bvA (last:=v.last) (a:=A) hvl.1 hvl.2 hAn (yP mK o1 hAn.symm o2 trivial))<;>(simp only[go_sem,s0,s1,s2,hA4,hvd,hzd,hsl,hxl,hpl,hwa,hpd',hy',hj1,hj2,blH,blI,aEP,boC];try simp (disch:=omega) only[Iw])|apply bn2 (by omega)|apply bn3 (by omega)|refine⟨by omega,?_⟩|fail
   exact hKL _ _ _ (k+1) noF _ (by omega) (by omega) (by repeat' first|exact bo2|refine xqI rfl rfl ?_|refine xqP (by omega) rfl rfl ?_|fail) aK ⟨by omega,s0,s1,s2⟩
end Go.Proofs.YtmccpdapaccnoaaGreat
