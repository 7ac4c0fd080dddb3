/- Texts laid together by a program: rules, contracts and the walk that leads to the law. -/
import Derived.Test.YtdkfhdmagdaceaaGreatPN9
import Derived.Test.YtdkfhdmagdaceaaGreatPN31
import Derived.Test.YtdkfhdmagdaceaaGreatPN30
import Derived.Test.YtdkfhdmagdaceaaGreatPN21
set_option linter.unusedVariables false
set_option linter.unusedSimpArgs false
set_option linter.unusedSectionVars false
set_option maxRecDepth 100000
set_option maxHeartbeats 8000000
namespace Go.Proofs.YtdkfhdmagdaceaaGreat
open Go Go.AM
attribute [local irreducible] aM wv aB vd wvH
theorem bxO:cJ Tryz.prog bxI Tryz.f6 bxB bxH:=cJ.mk Tryz.func6 (by kernel_rfl) bxN
theorem bxU (l:List Int) (X: ∀x∈l,0≤x∧x<256):aB Tryz.prog bxI [dS (l.map eU8)] .nil 0 fun rr _ _=>rr.plain=true∧rr=dB true:=by
 refine bxO rfl fun Q R=> ?_;unfold bxB;by_cases aa:l.length≤1048576
 case neg=>
  repeat' first|apply bn1<;>(simp only[go_sem])|apply bn2 (by omega)|fail
  exact R _ _ _ _ _ (.inr rfl) rfl ⟨rfl,rfl⟩
 have hl:kZ l:=⟨by omega,X⟩
 repeat' first| (first|apply bn1|refine bxM hl (fun H1 a c s n al b B Y Z ab=> ?_))<;>(simp only[go_sem])|apply bn3 (by omega)|fail
 refine bxR b B Y Z fun H2 ad an w=> ?_;have S:H2 10=some ⟨3,1,[cU c]⟩:=by rw[w _ (by omega)];simp (disch:=omega) only[aA.aC,aA.bH]
 have T:H2 11=some ⟨5,1,[eI s]⟩:=by rw[w _ (by omega)];simp (disch:=omega) only[aA.aC,aA.bH]
 clear w ab;obtain⟨x,C⟩: ∃x,x=bs7 c s n:=⟨_,rfl⟩
 rw[←C];have e:bQ ad [10,11,a+4]:=AM.apart (by simp<;>omega) (by simp<;>omega);simp only[bQ,eZ] at e;(try simp only[go_sem,boC,S,T,e,boC]);repeat' first| (first|apply bn1|apply bs3 b B)<;>(simp only[go_sem,boC,S,T,e,boC])|fail
 intro U o ao p;rw[←C];have y:U 10=some ⟨3,1,[cU c]⟩:=by rw[p _ (by omega),if_neg (by omega)];exact S
 have z:U 11=some ⟨5,1,[eI s]⟩:=by rw[p _ (by omega),if_neg (by omega)];exact T
 have aET:U (a+4)=some ⟨5,1,[eI x]⟩:=by rw[p _ (by omega),if_pos rfl]
 clear p S T e;have e:bQ o [10,11,a+4]:=AM.apart (by simp<;>omega) (by simp<;>omega);simp only[bQ,eZ] at e;have t: ∀{H:aA} {nx:Nat} {K:D→aA→Nat→Prop},K (dB true) H nx→aB Tryz.prog E2 [] H nx K:=fun h=>apY h;refine⟨fun _=>by rw[aET]<;>rfl,?_⟩;by_cases hg:cyB c s=true∧n≤300
 case neg=>
  have hz:x=bmC:=C.trans (if_neg hg);subst hz;have hp:eI bmC=[.isl [],.isl [],.isl [],.isl [],.isl []]:=rfl;cases g:cyB c s
  · (try simp only[go_sem,boC,y,z,aET,g,e,hp,boC]);repeat' first| (first|apply bn1|apply bpJ (by omega)|apply bmT|apply bd7 b B|apply t)<;>(simp only[go_sem,boC,y,z,aET,g,e,hp,boC])|fail
    all_goals exact R _ _ _ _ _ (.inr rfl) rfl ⟨rfl,rfl⟩
  ·have f:(300<n)=True:=eq_true (by have: ¬n≤300:=fun h=>hg ⟨g,h⟩;omega);(try simp only[go_sem,boC,y,z,aET,g,f,e,hp,boC]);repeat' first| (first|apply bn1|apply bpJ (by omega)|apply bmT|apply bd7 b B|apply t)<;>(simp only[go_sem,boC,y,z,aET,g,f,e,hp,boC])|fail
   all_goals exact R _ _ _ _ _ (.inr rfl) rfl ⟨rfl,rfl⟩
 obtain⟨g,h2⟩:=hg;obtain⟨hb,hs⟩:=bmR.1 g;have ae:x=sQ c s (List.replicate n.toNat pU):=C.trans (if_pos ⟨g,h2⟩);have E:COk c x:=by rw[ae];exact(afM hb hs).1
 have F:=E.sz hb;have G: ∀{H:aA} {nx:Nat} {K:D→aA→Nat→Prop},K (dB true) H nx→aB Tryz.prog C6 [boR (eI x),boR (eI x)] H nx K:=fun h=>aoR F F (by rw[decide_eq_true (rfl:x=x)];exact h);have f:(300<n)=False:=eq_false (by omega);(try simp only[go_sem,boC,y,z,aET,g,f,e,boC]);repeat' first| (first|apply bn1|apply G|apply bd7 b B)<;>(simp only[go_sem,boC,y,z,aET,g,f,e,boC])|fail
 refine aM.gP (β:=Nat×Nat×Nat) (fun u=>en [(8,boP u.1),(7,.one (.c (.osl 3 u.2.1 0 u.1 u.2.2))),(6,.one (.c (.ptr 5 (a+4) 0 0))),(5,boP n),(4,.one (.c (.ptr 5 11 0 0))),(3,.one (.c (.ptr 3 10 0 0)))])
  (fun u bqL az7=>u.1≤n.toNat∧(∃m,bqL u.2.1=some ⟨3,m,(List.replicate u.1 pU).map eIn⟩∧u.1≤u.2.2∧u.2.2≤m)∧o≤u.2.1∧u.2.1<az7∧ ∀id,id<o→bqL id=U id)
  (fun u=>n.toNat-u.1) (0,o+8,0) ⟨noF,_,by repeat' first|exact bo2|refine xqI rfl rfl ?_|refine xqP (by omega) rfl rfl ?_| (with_reducible apply bo3)| ((with_reducible apply bo0);exact bpA)| ((with_reducible apply bo1);apply bo7)|fail,aK,by dsimp only;omega,⟨0,aA.bH,m5 _,m5 _⟩,by dsimp only;omega,by dsimp only;omega,fun id I=>by simp (disch:=omega) only[aA.aC]⟩ ?_
 rintro⟨k,io,cap⟩ bqL J aq ⟨hk,⟨m,V,g2,g3⟩,af,ag,q⟩ bpQ ah;dsimp only at hk V g2 g3 af ag;have bp7:=(q 10 (by omega)).trans y;have bp8:=(q 11 (by omega)).trans z;have aIE:=(q (a+4) (by omega)).trans aET;have A:bQ J [10,11,a+4,io]:=AM.apart (by simp<;>omega) (by simp<;>omega);simp only[bQ,eZ] at A;by_cases ar:(k:Int)<n
 ·repeat' first|apply bn1<;>(simp only[go_sem])|apply bn2 (by omega)|fail
  refine XE fun aZJ M ai r=> ?_;have bpR:=(r io (by omega)).trans V;have N:bQ M [10,11,a+4,io]:=AM.apart (by simp<;>omega) (by simp<;>omega);simp only[bQ,eZ] at N;simp only[go_sem,t1,bpR,A,N];refine⟨g3,by omega,fun v O au=> ?_⟩;apply bn0;repeat' first|apply bn1<;>(simp only[go_sem];try simp (disch:=omega) only[Iw])|fail
  exact ah _ _ _ (k+1,J+6,v) noF _ (by omega) (by dsimp only;omega) (by dsimp only;repeat' first|exact bo2|refine xqI rfl rfl ?_|refine xqP (by omega) rfl rfl ?_|refine xqO (by omega) rfl rfl (by rfl) ?_|fail) aK ⟨by dsimp only;omega,⟨v,by dsimp only;rw[bx2,bqX];exact aA.bH,O,m5 _⟩,by dsimp only;omega,by dsimp only;omega,fun id I=>(aA.aC (by omega)).trans ((aA.aC (by omega)).trans ((aA.jG (by omega)).trans ((r id (by omega)).trans (q id I))))⟩
 ·repeat' first|apply bn1<;>(simp only[go_sem,bp7,bp8,aIE,A,boC])|apply bn3 (by omega)|fail
  have aj:k=n.toNat:=by omega
  obtain⟨L,W⟩: ∃L,L=List.replicate k pU:=⟨_,rfl⟩
  have aw:L.length=k:=by rw[W];simp
  have ak: ∀i∈L,vZ i:=fun i hi=>by rw[W] at hi;rw[(bxZ.1 hi).2];exact bs8
  have P:bxT c s L=x:=by rw[W,aj,←bxP h2];exact C.symm
  rw[←W] at V;refine aB.ao4 (args':=[boR (cU c),boR (eI s),dS (L.map eIn)]) (without (fun j=>j=io) bqL) (fun j=>j=io) rfl (fun i d0 d az9 az2=> ?_) kS ?_
  ·match i with
   |0=>simp at az9 az2;subst az9;subst az2;exact aE rfl
   |1=>simp at az9 az2;subst az9;subst az2;exact aE rfl
   |2=>simp at az9 az2;subst az9;subst az2;exact yP QX V (by omega) (by omega) rfl
   |i+3=>simp at az9
  refine bxF b B (by omega) ak fun aZJ M ai r=> ?_;rw[P];have aU2:=(r (a+4) (by omega)).trans ((iI (by omega)).trans aIE);(try simp only[go_sem,boC,aU2,boC]);repeat' first| (first|apply bn1|apply G)<;>(simp only[go_sem,boC,aU2,boC])|fail
  exact R _ _ _ _ _ (.inr rfl) rfl ⟨rfl,rfl⟩
end Go.Proofs.YtdkfhdmagdaceaaGreat
