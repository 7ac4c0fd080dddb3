/- Texts laid together by a program: rules, contracts and the walk that leads to the law. -/
import Derived.Test.YtmccpdapaccnoaaPG14
import Derived.Test.YtmccpdapaccnoaaPG10
import Derived.Test.YtmccpdapaccnoaaPG8
import Derived.Test.YtmccpdapaccnoaaPG13
set_option linter.unusedVariables false
set_option linter.unusedSimpArgs false
set_option linter.unusedSectionVars false
section
namespace Go.Proofs.Ytmccpdapaccnoaa
open Go Go.AM
set_option maxRecDepth 100000
set_option maxHeartbeats 4000000
section
variable {H : aA} {nx : Nat} {K : D → aA → Nat → Prop}
theorem aD7 (l:List Rng) (hl:l.length<2^40):aB Try.prog aBG [dS (l.map eN)] .nil 0 fun rr _ _=>rr.plain=true∧rr=dB (decide (DH l)):=by
 refine aDM rfl fun Q hQ=> ?_
 unfold aBO
 by_cases hl4:(l.length:Int)≤4
 ·repeat' (first| (with_reducible first| (refine hK _ _ _ ?_;clear hK K)| (refine hA ?_;clear hA hB A B)| (refine hB ?_;clear hA hB A B)|refine Z1 ?_|refine Z2 ?_|refine Z3 fun KB hKB=> ?_|refine Z4 (by omega) ?_|refine Z5 (by omega) ?_|refine Z6 (fun h=> ?_) fun h=> ?_|refine Z7 (fun h=> ?_) fun h=> ?_|refine fun(cap:Nat) (hcap:_≤cap)=> ?_|refine fun(hcp:_≤cap)=> ?_|refine fun(b:Bool)=> ?_|refine hKX _ _ _ ?_|refine hKY _ _ _ ?_|refine hKZ _ _ _ ?_)| (with_reducible first|refine Y1 fun K hK=> ?_|refine Y2 fun K hK=> ?_|refine Y3 fun A B hA hB=> ?_|refine Y4 (by omega) ?_|refine Y5 (by omega) ?_|refine Y6 (fun h=> ?_) fun h=> ?_| (refine Y7 (fun h=> ?_) (fun h=> ?_)<;>try subst h))<;>(simp only[go_sem];try simp (disch:=omega) only[Iw])| ((with_reducible first|refine Y8 ?_|refine Y9 ?_);try simp only[AQ.then,AQ.blk,reduceIte,Nat.reduceEqDiff])| ((with_reducible refine Y0 ?_);simp only[AQ.then,AQ.blk])| ((with_reducible refine Z8 (fun h=> ?_) (fun h=> ?_))<;>try subst h)|refine⟨by omega,?_⟩| (refine⟨by(rw[List.length_take];omega),?_⟩)| (with_reducible first|refine hKB _ _ _ ?_| (clear hKB KB;refine hKB _ _ _ ?_)| (clear hKB KB;clear hKB KB;refine hKB _ _ _ ?_))|fail)
  (have hKX:=hKB;clear hKB)
  refine aM.gP (β:=Nat) (fun k=>en [(3,dI k),(0,dS (l.map eN))]) (fun k _ _=>k≤l.length∧ ∀i,i<k→V9 l i) (fun k=>l.length-k) 0 ⟨noF,_,by repeat' (first| (with_reducible first|exact C1|refine C2 ?_ ?_|exact C3|refine C4 ?_ ?_|refine aUP ?_ ?_|refine bfY ?_ ?_ ?_|refine aUQ ?_|refine aUR ?_)| ((with_reducible refine C0 ?_);first|exact CB rfl|exact CC| (exact CQ (by omega) rfl rfl (by first|rfl| (simp;done)|omega| (dsimp only;omega)) rfl)|exact CE (by omega) rfl|exact CR (by omega) rfl|exact CF|exact CH (by first|rfl|assumption)| (exact CG (by first|rfl| (simp;done)| (congr 2;omega)| ((try dsimp only);exact dbT (by omega))| ((try dsimp only);exact dbF (by omega))| ((try dsimp only);exact(dbT (by omega)).symm)| ((try dsimp only);exact(dbF (by omega)).symm)| ((try dsimp only);exact dbE (by omega))| ((try dsimp only);exact diE (by omega))) rfl))| ((with_reducible refine D0 ?_);first|exact CA rfl|exact CI rfl (by simp) rfl rfl rfl|refine C9 ?_|refine CJ ?_)|exact C3|refine C4 ?_ ?_|fail),aK,by omega,fun i hi=>by omega⟩ ?_
  rintro k H1 nx1 hnx1 ⟨hk,hinv⟩ KL hKL
  by_cases hlt:k<l.length
  ·obtain⟨r,hr⟩: ∃r,r=l.getD k default:=⟨_,rfl⟩
   have hr':l.getD k default=r:=hr.symm
   have hbad: ¬SF r→¬DH l:=fun h hm=>h (by rw[hr];exact(hm.2 k hlt).1)
   repeat' (first| (with_reducible first| (refine hK _ _ _ ?_;clear hK K)| (refine hA ?_;clear hA hB A B)| (refine hB ?_;clear hA hB A B)|refine Z1 ?_|refine Z2 ?_|refine Z3 fun KB hKB=> ?_|refine Z4 (by omega) ?_|refine Z5 (by omega) ?_|refine Z6 (fun h=> ?_) fun h=> ?_|refine Z7 (fun h=> ?_) fun h=> ?_|refine fun(cap:Nat) (hcap:_≤cap)=> ?_|refine fun(hcp:_≤cap)=> ?_|refine fun(b:Bool)=> ?_|refine hKX _ _ _ ?_|refine hKY _ _ _ ?_|refine hKZ _ _ _ ?_)| (first| (with_reducible first|refine Y1 fun K hK=> ?_|refine Y2 fun K hK=> ?_|refine Y3 fun A B hA hB=> ?_|refine Y4 (by omega) ?_|refine Y5 (by omega) ?_|refine Y6 (fun h=> ?_) fun h=> ?_| (refine Y7 (fun h=> ?_) (fun h=> ?_)<;>try subst h))| (with_reducible refine aBC ?_))<;>(simp only[go_sem,hr',Nat.add_assoc,Nat.left_eq_add,Nat.add_eq_left];try simp (disch:=omega) only[Iw])| ((with_reducible first|refine Y8 ?_|refine Y9 ?_);try simp only[AQ.then,AQ.blk,reduceIte,Nat.reduceEqDiff])| ((with_reducible refine Y0 ?_);simp only[AQ.then,AQ.blk])| ((with_reducible refine Z8 (fun h=> ?_) (fun h=> ?_))<;>try subst h)|refine⟨by omega,?_⟩| (refine⟨by(rw[List.length_take];omega),?_⟩)| (with_reducible first|refine hKB _ _ _ ?_| (clear hKB KB;refine hKB _ _ _ ?_)| (clear hKB KB;clear hKB KB;refine hKB _ _ _ ?_))|fail)
   ·exact aZ hQ (dB false) rfl rfl (j7 (hbad fun hm=>by unfold SF at hm;omega))
   ·exact aZ hQ (dB false) rfl rfl (j7 (hbad fun hm=>by unfold SF at hm;omega))
   ·exact aZ hQ (dB false) rfl rfl (j7 (hbad fun hm=>by unfold SF at hm;omega))
   have hro:SF r:=by unfold SF;omega
   (have hKY:=hKB;clear hKB)
   refine aM.gP (β:=Nat) (fun j=>en [(5,dI j),(4,.one (.c (.ptr 4 (nx1+8) 0 0))),(3,dI k),(0,dS (l.map eN))]) (fun j H2 _=>(j≤k∧ ∀i,i<j→aaM (l.getD i default) r=false)∧H2 (nx1+8)=some ⟨4,1,[eN r]⟩) (fun j=>k-j) 0 ⟨noF,_,by repeat' (first| (with_reducible first|exact C1|refine C2 ?_ ?_|exact C3|refine C4 ?_ ?_|refine aUP ?_ ?_|refine bfY ?_ ?_ ?_|refine aUQ ?_|refine aUR ?_)| ((with_reducible refine C0 ?_);first|exact CB rfl|exact CC| (exact CQ (by omega) rfl rfl (by first|rfl| (simp;done)|omega| (dsimp only;omega)) rfl)|exact CE (by omega) rfl|exact CR (by omega) rfl|exact CF|exact CH (by first|rfl|assumption)| (exact CG (by first|rfl| (simp;done)| (congr 2;omega)| ((try dsimp only);exact dbT (by omega))| ((try dsimp only);exact dbF (by omega))| ((try dsimp only);exact(dbT (by omega)).symm)| ((try dsimp only);exact(dbF (by omega)).symm)| ((try dsimp only);exact dbE (by omega))| ((try dsimp only);exact diE (by omega))) rfl))| ((with_reducible refine D0 ?_);first|exact CA rfl|exact CI rfl (by simp) rfl rfl rfl|refine C9 ?_|refine CJ ?_)|exact C3|refine C4 ?_ ?_|fail),aK,⟨by omega,fun i hi=>by omega⟩,by simp only[aA.set,if_true]⟩ ?_
   rintro j H2 nx2 hnx2 ⟨⟨hj,hinvj⟩,g8⟩ KM hKM
   by_cases hjl:j<k
   ·obtain⟨r2,hr2⟩: ∃r2,r2=l.getD j default:=⟨_,rfl⟩
    have hr2':l.getD j default=r2:=hr2.symm
    repeat' (first| (with_reducible first| (refine hK _ _ _ ?_;clear hK K)| (refine hA ?_;clear hA hB A B)| (refine hB ?_;clear hA hB A B)|refine Z1 ?_|refine Z2 ?_|refine Z3 fun KB hKB=> ?_|refine Z4 (by omega) ?_|refine Z5 (by omega) ?_|refine Z6 (fun h=> ?_) fun h=> ?_|refine Z7 (fun h=> ?_) fun h=> ?_|refine fun(cap:Nat) (hcap:_≤cap)=> ?_|refine fun(hcp:_≤cap)=> ?_|refine fun(b:Bool)=> ?_|refine hKX _ _ _ ?_|refine hKY _ _ _ ?_|refine hKZ _ _ _ ?_)| (with_reducible first|refine Y1 fun K hK=> ?_|refine Y2 fun K hK=> ?_|refine Y3 fun A B hA hB=> ?_|refine Y4 (by omega) ?_|refine Y5 (by omega) ?_|refine Y6 (fun h=> ?_) fun h=> ?_| (refine Y7 (fun h=> ?_) (fun h=> ?_)<;>try subst h))<;>(simp only[go_sem,hr2',g8];try simp (disch:=omega) only[Iw])| ((with_reducible first|refine Y8 ?_|refine Y9 ?_);try simp only[AQ.then,AQ.blk,reduceIte,Nat.reduceEqDiff])| ((with_reducible refine Y0 ?_);simp only[AQ.then,AQ.blk])| ((with_reducible refine Z8 (fun h=> ?_) (fun h=> ?_))<;>try subst h)|refine⟨by omega,?_⟩| (refine⟨by(rw[List.length_take];omega),?_⟩)| (with_reducible first|refine hKB _ _ _ ?_| (clear hKB KB;refine hKB _ _ _ ?_)| (clear hKB KB;clear hKB KB;refine hKB _ _ _ ?_))|fail)
    ·refine aZ hQ (dB false) rfl rfl (j7 fun hm=> ?_)
     have h2:=(hm.2 k hlt).2
     refine h2 (cH.2 ⟨l.getD j default,List.mem_iff_getElem.2 ⟨j,by simp;omega,by simp[List.getD,show j<l.length by omega]⟩,decide_eq_true ?_⟩)
     rw[hr2',hr']
     omega
    all_goals exact hKM _ _ _ (j+1) noF _ (by omega) (by omega) (by repeat' (first| (with_reducible first|exact C1|refine C2 ?_ ?_|exact C3|refine C4 ?_ ?_|refine aUP ?_ ?_|refine bfY ?_ ?_ ?_|refine aUQ ?_|refine aUR ?_)| ((with_reducible refine C0 ?_);first|exact CB rfl|exact CC| (exact CQ (by omega) rfl rfl (by first|rfl| (simp;done)|omega| (dsimp only;omega)) rfl)|exact CE (by omega) rfl|exact CR (by omega) rfl|exact CF|exact CH (by first|rfl|assumption)| (exact CG (by first|rfl| (simp;done)| (congr 2;omega)| ((try dsimp only);exact dbT (by omega))| ((try dsimp only);exact dbF (by omega))| ((try dsimp only);exact(dbT (by omega)).symm)| ((try dsimp only);exact(dbF (by omega)).symm)| ((try dsimp only);exact dbE (by omega))| ((try dsimp only);exact diE (by omega))) rfl))| ((with_reducible refine D0 ?_);first|exact CA rfl|exact CI rfl (by simp) rfl rfl rfl|refine C9 ?_|refine CJ ?_)|exact C3|refine C4 ?_ ?_|fail)) aK ⟨⟨by omega,iS hinvj (by rw[hr2'];exact decide_eq_false (by omega))⟩,g8⟩
   ·repeat' (first| (with_reducible first| (refine hK _ _ _ ?_;clear hK K)| (refine hA ?_;clear hA hB A B)| (refine hB ?_;clear hA hB A B)|refine Z1 ?_|refine Z2 ?_|refine Z3 fun KB hKB=> ?_|refine Z4 (by omega) ?_|refine Z5 (by omega) ?_|refine Z6 (fun h=> ?_) fun h=> ?_|refine Z7 (fun h=> ?_) fun h=> ?_|refine fun(cap:Nat) (hcap:_≤cap)=> ?_|refine fun(hcp:_≤cap)=> ?_|refine fun(b:Bool)=> ?_|refine hKX _ _ _ ?_|refine hKY _ _ _ ?_|refine hKZ _ _ _ ?_)| (with_reducible first|refine Y1 fun K hK=> ?_|refine Y2 fun K hK=> ?_|refine Y3 fun A B hA hB=> ?_|refine Y4 (by omega) ?_|refine Y5 (by omega) ?_|refine Y6 (fun h=> ?_) fun h=> ?_| (refine Y7 (fun h=> ?_) (fun h=> ?_)<;>try subst h))<;>(simp only[go_sem];try simp (disch:=omega) only[Iw])| ((with_reducible first|refine Y8 ?_|refine Y9 ?_);try simp only[AQ.then,AQ.blk,reduceIte,Nat.reduceEqDiff])| ((with_reducible refine Y0 ?_);simp only[AQ.then,AQ.blk])| ((with_reducible refine Z8 (fun h=> ?_) (fun h=> ?_))<;>try subst h)|refine⟨by omega,?_⟩| (refine⟨by(rw[List.length_take];omega),?_⟩)| (with_reducible first|refine hKB _ _ _ ?_| (clear hKB KB;refine hKB _ _ _ ?_)| (clear hKB KB;clear hKB KB;refine hKB _ _ _ ?_))|fail)
    refine hKL _ _ _ (k+1) noF _ (by omega) (by omega) (by repeat' (first| (with_reducible first|exact C1|refine C2 ?_ ?_|exact C3|refine C4 ?_ ?_|refine aUP ?_ ?_|refine bfY ?_ ?_ ?_|refine aUQ ?_|refine aUR ?_)| ((with_reducible refine C0 ?_);first|exact CB rfl|exact CC| (exact CQ (by omega) rfl rfl (by first|rfl| (simp;done)|omega| (dsimp only;omega)) rfl)|exact CE (by omega) rfl|exact CR (by omega) rfl|exact CF|exact CH (by first|rfl|assumption)| (exact CG (by first|rfl| (simp;done)| (congr 2;omega)| ((try dsimp only);exact dbT (by omega))| ((try dsimp only);exact dbF (by omega))| ((try dsimp only);exact(dbT (by omega)).symm)| ((try dsimp only);exact(dbF (by omega)).symm)| ((try dsimp only);exact dbE (by omega))| ((try dsimp only);exact diE (by omega))) rfl))| ((with_reducible refine D0 ?_);first|exact CA rfl|exact CI rfl (by simp) rfl rfl rfl|refine C9 ?_|refine CJ ?_)|exact C3|refine C4 ?_ ?_|fail)) aK ⟨by omega,iS hinv ⟨by rw[hr'];exact hro,fun hc=> ?_⟩⟩
    obtain⟨x,hx,hx2⟩:=cH.1 hc
    obtain⟨i,hi,rfl⟩:=List.mem_iff_getElem.1 hx
    have hi':i<k:=by simp at hi;omega
    have:=hinvj i (by omega)
    simp only[List.getD,show i<l.length by omega,List.getElem?_eq_getElem,Option.getD_some] at this
    rw[hr'] at hx2
    simp only[List.getElem_take] at hx2
    rw[this] at hx2
    cases hx2
  ·repeat' (first| (with_reducible first| (refine hK _ _ _ ?_;clear hK K)| (refine hA ?_;clear hA hB A B)| (refine hB ?_;clear hA hB A B)|refine Z1 ?_|refine Z2 ?_|refine Z3 fun KB hKB=> ?_|refine Z4 (by omega) ?_|refine Z5 (by omega) ?_|refine Z6 (fun h=> ?_) fun h=> ?_|refine Z7 (fun h=> ?_) fun h=> ?_|refine fun(cap:Nat) (hcap:_≤cap)=> ?_|refine fun(hcp:_≤cap)=> ?_|refine fun(b:Bool)=> ?_|refine hKX _ _ _ ?_|refine hKY _ _ _ ?_|refine hKZ _ _ _ ?_)| (with_reducible first|refine Y1 fun K hK=> ?_|refine Y2 fun K hK=> ?_|refine Y3 fun A B hA hB=> ?_|refine Y4 (by omega) ?_|refine Y5 (by omega) ?_|refine Y6 (fun h=> ?_) fun h=> ?_| (refine Y7 (fun h=> ?_) (fun h=> ?_)<;>try subst h))<;>(simp only[go_sem];try simp (disch:=omega) only[Iw])| ((with_reducible first|refine Y8 ?_|refine Y9 ?_);try simp only[AQ.then,AQ.blk,reduceIte,Nat.reduceEqDiff])| ((with_reducible refine Y0 ?_);simp only[AQ.then,AQ.blk])| ((with_reducible refine Z8 (fun h=> ?_) (fun h=> ?_))<;>try subst h)|refine⟨by omega,?_⟩| (refine⟨by(rw[List.length_take];omega),?_⟩)| (with_reducible first|refine hKB _ _ _ ?_| (clear hKB KB;refine hKB _ _ _ ?_)| (clear hKB KB;clear hKB KB;refine hKB _ _ _ ?_))|fail)
   have hk2:k=l.length:=by omega
   subst hk2
   exact aZ hQ (dB true) rfl rfl (q9 ⟨hl4,hinv⟩)
 ·repeat' (first| (with_reducible first| (refine hK _ _ _ ?_;clear hK K)| (refine hA ?_;clear hA hB A B)| (refine hB ?_;clear hA hB A B)|refine Z1 ?_|refine Z2 ?_|refine Z3 fun KB hKB=> ?_|refine Z4 (by omega) ?_|refine Z5 (by omega) ?_|refine Z6 (fun h=> ?_) fun h=> ?_|refine Z7 (fun h=> ?_) fun h=> ?_|refine fun(cap:Nat) (hcap:_≤cap)=> ?_|refine fun(hcp:_≤cap)=> ?_|refine fun(b:Bool)=> ?_|refine hKX _ _ _ ?_|refine hKY _ _ _ ?_|refine hKZ _ _ _ ?_)| (with_reducible first|refine Y1 fun K hK=> ?_|refine Y2 fun K hK=> ?_|refine Y3 fun A B hA hB=> ?_|refine Y4 (by omega) ?_|refine Y5 (by omega) ?_|refine Y6 (fun h=> ?_) fun h=> ?_| (refine Y7 (fun h=> ?_) (fun h=> ?_)<;>try subst h))<;>(simp only[go_sem];try simp (disch:=omega) only[Iw])| ((with_reducible first|refine Y8 ?_|refine Y9 ?_);try simp only[AQ.then,AQ.blk,reduceIte,Nat.reduceEqDiff])| ((with_reducible refine Y0 ?_);simp only[AQ.then,AQ.blk])| ((with_reducible refine Z8 (fun h=> ?_) (fun h=> ?_))<;>try subst h)|refine⟨by omega,?_⟩| (refine⟨by(rw[List.length_take];omega),?_⟩)| (with_reducible first|refine hKB _ _ _ ?_| (clear hKB KB;refine hKB _ _ _ ?_)| (clear hKB KB;clear hKB KB;refine hKB _ _ _ ?_))|fail)
  exact aZ hQ (dB false) rfl rfl (j7 fun h=>hl4 h.1)
theorem aD5 {l:List Rng} (hl:l.length<2^40) (h:K (dB (decide (DH l))) H nx):aB Try.prog aBG [dS (l.map eN)] H nx K:=
 (aD7 l hl).pure rfl (aI ⟨aE rfl,trivial⟩) (fun r hr=>hr▸h)
theorem aD9 (l:List Int) (lo up:Int) (hl:l.length<2^40):aB Try.prog aA3 [dS (l.map aJ),dI lo,dI up] .nil 0 fun rr _ _=>rr.plain=true∧rr=dB (decide (All l lo up)):=by
 refine aDN rfl fun Q hQ=> ?_
 unfold aBP
 repeat' (first| (with_reducible first| (refine hK _ _ _ ?_;clear hK K)| (refine hA ?_;clear hA hB A B)| (refine hB ?_;clear hA hB A B)|refine Z1 ?_|refine Z2 ?_|refine Z3 fun KB hKB=> ?_|refine Z4 (by omega) ?_|refine Z5 (by omega) ?_|refine Z6 (fun h=> ?_) fun h=> ?_|refine Z7 (fun h=> ?_) fun h=> ?_|refine fun(cap:Nat) (hcap:_≤cap)=> ?_|refine fun(hcp:_≤cap)=> ?_|refine fun(b:Bool)=> ?_|refine hKX _ _ _ ?_|refine hKY _ _ _ ?_|refine hKZ _ _ _ ?_)| (with_reducible first|refine Y1 fun K hK=> ?_|refine Y2 fun K hK=> ?_|refine Y3 fun A B hA hB=> ?_|refine Y4 (by omega) ?_|refine Y5 (by omega) ?_|refine Y6 (fun h=> ?_) fun h=> ?_| (refine Y7 (fun h=> ?_) (fun h=> ?_)<;>try subst h))<;>(simp only[go_sem];try simp (disch:=omega) only[Iw])| ((with_reducible first|refine Y8 ?_|refine Y9 ?_);try simp only[AQ.then,AQ.blk,reduceIte,Nat.reduceEqDiff])| ((with_reducible refine Y0 ?_);simp only[AQ.then,AQ.blk])| ((with_reducible refine Z8 (fun h=> ?_) (fun h=> ?_))<;>try subst h)|refine⟨by omega,?_⟩| (refine⟨by(rw[List.length_take];omega),?_⟩)| (with_reducible first|refine hKB _ _ _ ?_| (clear hKB KB;refine hKB _ _ _ ?_)| (clear hKB KB;clear hKB KB;refine hKB _ _ _ ?_))|fail)
 (have hKX:=hKB;clear hKB);(refine aM.loop (α:={k:Nat//k≤l.length∧(∀i,i<k→lo≤l.getD i default∧l.getD i default≤up)}) (fun u=>en [(7,dI u.1),(2,dI up),(1,dI lo),(0,dS (l.map aJ))]) (fun _=>.nil) _ (fun u=>l.length-u.1) ⟨0,by omega,(by intros;first|trivial|omega)⟩ (bU (Nat.le_refl _) (by repeat' (first| (with_reducible first|exact C1|refine C2 ?_ ?_|exact C3|refine C4 ?_ ?_|refine aUP ?_ ?_|refine bfY ?_ ?_ ?_|refine aUQ ?_|refine aUR ?_)| ((with_reducible refine C0 ?_);first|exact CB rfl|exact CC| (exact CQ (by omega) rfl rfl (by first|rfl| (simp;done)|omega| (dsimp only;omega)) rfl)|exact CE (by omega) rfl|exact CR (by omega) rfl|exact CF|exact CH (by first|rfl|assumption)| (exact CG (by first|rfl| (simp;done)| (congr 2;omega)| ((try dsimp only);exact dbT (by omega))| ((try dsimp only);exact dbF (by omega))| ((try dsimp only);exact(dbT (by omega)).symm)| ((try dsimp only);exact(dbF (by omega)).symm)| ((try dsimp only);exact dbE (by omega))| ((try dsimp only);exact diE (by omega))) rfl))| ((with_reducible refine D0 ?_);first|exact CA rfl|exact CI rfl (by simp) rfl rfl rfl|refine C9 ?_|refine CJ ?_)|exact C3|refine C4 ?_ ?_|fail))) ?_);(rintro⟨k,hk,hinv⟩ KL hKL)
 by_cases hlt:k<l.length
 ·repeat' (first| (with_reducible first| (refine hK _ _ _ ?_;clear hK K)| (refine hA ?_;clear hA hB A B)| (refine hB ?_;clear hA hB A B)|refine Z1 ?_|refine Z2 ?_|refine Z3 fun KB hKB=> ?_|refine Z4 (by omega) ?_|refine Z5 (by omega) ?_|refine Z6 (fun h=> ?_) fun h=> ?_|refine Z7 (fun h=> ?_) fun h=> ?_|refine fun(cap:Nat) (hcap:_≤cap)=> ?_|refine fun(hcp:_≤cap)=> ?_|refine fun(b:Bool)=> ?_|refine hKX _ _ _ ?_|refine hKY _ _ _ ?_|refine hKZ _ _ _ ?_)| (first| (with_reducible first|refine Y1 fun K hK=> ?_|refine Y2 fun K hK=> ?_|refine Y3 fun A B hA hB=> ?_|refine Y4 (by omega) ?_|refine Y5 (by omega) ?_|refine Y6 (fun h=> ?_) fun h=> ?_| (refine Y7 (fun h=> ?_) (fun h=> ?_)<;>try subst h))| (with_reducible refine aBC ?_))<;>(simp only[go_sem];try simp (disch:=omega) only[Iw])| ((with_reducible first|refine Y8 ?_|refine Y9 ?_);try simp only[AQ.then,AQ.blk,reduceIte,Nat.reduceEqDiff])| ((with_reducible refine Y0 ?_);simp only[AQ.then,AQ.blk])| ((with_reducible refine Z8 (fun h=> ?_) (fun h=> ?_))<;>try subst h)|refine⟨by omega,?_⟩| (refine⟨by(rw[List.length_take];omega),?_⟩)| (with_reducible first|refine hKB _ _ _ ?_| (clear hKB KB;refine hKB _ _ _ ?_)| (clear hKB KB;clear hKB KB;refine hKB _ _ _ ?_))|fail)
  ·exact aZ hQ (dB false) rfl rfl (j7 fun ha=>by have:=aj1 ha hlt;omega)
  · (refine hKL _ _ _ ⟨k+1,by omega,iS hinv (by omega)⟩ (by omega) (by(try dsimp only);omega) (bU (Nat.le_refl _) (by repeat' (first| (with_reducible first|exact C1|refine C2 ?_ ?_|exact C3|refine C4 ?_ ?_|refine aUP ?_ ?_|refine bfY ?_ ?_ ?_|refine aUQ ?_|refine aUR ?_)| ((with_reducible refine C0 ?_);first|exact CB rfl|exact CC| (exact CQ (by omega) rfl rfl (by first|rfl| (simp;done)|omega| (dsimp only;omega)) rfl)|exact CE (by omega) rfl|exact CR (by omega) rfl|exact CF|exact CH (by first|rfl|assumption)| (exact CG (by first|rfl| (simp;done)| (congr 2;omega)| ((try dsimp only);exact dbT (by omega))| ((try dsimp only);exact dbF (by omega))| ((try dsimp only);exact(dbT (by omega)).symm)| ((try dsimp only);exact(dbF (by omega)).symm)| ((try dsimp only);exact dbE (by omega))| ((try dsimp only);exact diE (by omega))) rfl))| ((with_reducible refine D0 ?_);first|exact CA rfl|exact CI rfl (by simp) rfl rfl rfl|refine C9 ?_|refine CJ ?_)|exact C3|refine C4 ?_ ?_|fail))))
 ·repeat' (first| (with_reducible first| (refine hK _ _ _ ?_;clear hK K)| (refine hA ?_;clear hA hB A B)| (refine hB ?_;clear hA hB A B)|refine Z1 ?_|refine Z2 ?_|refine Z3 fun KB hKB=> ?_|refine Z4 (by omega) ?_|refine Z5 (by omega) ?_|refine Z6 (fun h=> ?_) fun h=> ?_|refine Z7 (fun h=> ?_) fun h=> ?_|refine fun(cap:Nat) (hcap:_≤cap)=> ?_|refine fun(hcp:_≤cap)=> ?_|refine fun(b:Bool)=> ?_|refine hKX _ _ _ ?_|refine hKY _ _ _ ?_|refine hKZ _ _ _ ?_)| (with_reducible first|refine Y1 fun K hK=> ?_|refine Y2 fun K hK=> ?_|refine Y3 fun A B hA hB=> ?_|refine Y4 (by omega) ?_|refine Y5 (by omega) ?_|refine Y6 (fun h=> ?_) fun h=> ?_| (refine Y7 (fun h=> ?_) (fun h=> ?_)<;>try subst h))<;>(simp only[go_sem];try simp (disch:=omega) only[Iw])| ((with_reducible first|refine Y8 ?_|refine Y9 ?_);try simp only[AQ.then,AQ.blk,reduceIte,Nat.reduceEqDiff])| ((with_reducible refine Y0 ?_);simp only[AQ.then,AQ.blk])| ((with_reducible refine Z8 (fun h=> ?_) (fun h=> ?_))<;>try subst h)|refine⟨by omega,?_⟩| (refine⟨by(rw[List.length_take];omega),?_⟩)| (with_reducible first|refine hKB _ _ _ ?_| (clear hKB KB;refine hKB _ _ _ ?_)| (clear hKB KB;clear hKB KB;refine hKB _ _ _ ?_))|fail)
  exact aZ hQ (dB true) rfl rfl (q9 (aEA fun i hi=>hinv i (by omega)))
theorem aCC {l:List Int} {lo:Int} {up:Int} (hl:l.length<2^40) (h:K (dB (decide (All l lo up))) H nx):aB Try.prog aA3 [dS (l.map aJ),dI lo,dI up] H nx K:=
 (aD9 l lo up hl).pure rfl (aI ⟨aE rfl,aE rfl,aE rfl,trivial⟩) (fun r hr=>hr▸h)
theorem aD1 (q:Req) (hd:q.data.length<2^40) (hl:q.g6.length<2^40):aB Try.prog aBF [dA (eB q)] .nil 0 fun rr _ _=>rr.plain=true∧rr=dB (decide (dH q)):=by
 refine aDW rfl fun Q hQ=> ?_
 unfold aBM
 repeat' (first| (with_reducible first| (refine hK _ _ _ ?_;clear hK K)| (refine hA ?_;clear hA hB A B)| (refine hB ?_;clear hA hB A B)|refine Z1 ?_|refine Z2 ?_|refine Z3 fun KB hKB=> ?_|refine Z4 (by omega) ?_|refine Z5 (by omega) ?_|refine Z6 (fun h=> ?_) fun h=> ?_|refine Z7 (fun h=> ?_) fun h=> ?_|refine fun(cap:Nat) (hcap:_≤cap)=> ?_|refine fun(hcp:_≤cap)=> ?_|refine fun(b:Bool)=> ?_|refine hKX _ _ _ ?_|refine hKY _ _ _ ?_|refine hKZ _ _ _ ?_)| (first| (with_reducible first|refine Y1 fun K hK=> ?_|refine Y2 fun K hK=> ?_|refine Y3 fun A B hA hB=> ?_|refine Y4 (by omega) ?_|refine Y5 (by omega) ?_|refine Y6 (fun h=> ?_) fun h=> ?_| (refine Y7 (fun h=> ?_) (fun h=> ?_)<;>try subst h))| (with_reducible refine aBC ?_)| (with_reducible refine aC2 ?_)| (with_reducible refine aCI ?_)| (with_reducible refine aCC (l:=q.data) hd ?_)| (with_reducible refine aCC (l:=q.g6) hl ?_))<;>(simp only[go_sem];try simp (disch:=omega) only[Iw])| ((with_reducible first|refine Y8 ?_|refine Y9 ?_);try simp only[AQ.then,AQ.blk,reduceIte,Nat.reduceEqDiff])| ((with_reducible refine Y0 ?_);simp only[AQ.then,AQ.blk])| ((with_reducible refine Z8 (fun h=> ?_) (fun h=> ?_))<;>try subst h)|refine⟨by omega,?_⟩| (refine⟨by(rw[List.length_take];omega),?_⟩)| (with_reducible first|refine hKB _ _ _ ?_| (clear hKB KB;refine hKB _ _ _ ?_)| (clear hKB KB;clear hKB KB;refine hKB _ _ _ ?_))|fail)
 all_goals first|with_reducible refine aZ hQ _ rfl rfl ?_|skip
 all_goals
  have e2:wrM q=true↔(q.kind=2∨q.kind=4):=by simp[wrM]
  have e3:All ([]:List Int) 0 65535:=by simp[All]
  have e4:All ([]:List Int) 0 3:=by simp[All]
  have e5:q.data.length=0→q.data=[]:=List.length_eq_zero_iff.1
  have e6:q.g6.length=0→q.g6=[]:=List.length_eq_zero_iff.1
  clear hQ
  first|exact j7 (by unfold dH n5;grind)|exact q9 (by unfold dH n5;grind)|exact pD (by unfold dH n5;grind)
theorem aD8 {q:Req} (hd:q.data.length<2^40) (hl:q.g6.length<2^40) (h:K (dB (decide (dH q))) H nx):aB Try.prog aBF [dA (eB q)] H nx K:=
 (aD1 q hd hl).pure rfl (aI ⟨aE rfl,trivial⟩) (fun r hr=>hr▸h)
end
end Go.Proofs.Ytmccpdapaccnoaa
end
section
namespace Go.Proofs.Ytmccpdapaccnoaa
open Go Go.AM
set_option maxRecDepth 100000
set_option maxHeartbeats 8000000
section
variable {H : aA} {nx : Nat} {K : D → aA → Nat → Prop}
theorem beM {q:Req} (h:dH q):q.data.length<2^40∧q.g6.length<2^40:=by
 obtain⟨_,_,h3,h4,h5,_,_,_⟩:=h
 have hb4:=MK (addr:=q.addr) (many:=q.many) (wrap:=q.wrap)
 have hbl:=DF h3
 have hm:q.many≤4:=by omega
 unfold n5 at h4 h5
 constructor
 ·split at h4<;>omega
 ·split at h5<;>omega
theorem bbR (m:List Rng) (q:Req) (hm:DH m) (hq:dH q) (hl:m.length<2^21):aB Try.prog y3 [dS (m.map eN),dA (eB q)] .nil 0 fun rr _ _=>rr.plain=true∧rr=dI (gZ m q):=by
 refine aCQ rfl fun Q hQ=> ?_
 unfold aA7
 have hwh:bV m (bE q.addr q.many q.wrap)<m.length:=by have hlt:=PQ (p:=(inR · ((bE q.addr q.many q.wrap).getD 0 default))) (l:=m);unfold bV;grind
 have hd:=beM hq
 have hb4:(bE q.addr q.many q.wrap).length<2^40:=by have:=MK (addr:=q.addr) (many:=q.many) (wrap:=q.wrap);omega
 have d1:=decide_eq_true hm
 have d2:=decide_eq_true hq
 repeat' (first| (with_reducible first| (refine hK _ _ _ ?_;clear hK K)| (refine hA ?_;clear hA hB A B)| (refine hB ?_;clear hA hB A B)|refine Z1 ?_|refine Z2 ?_|refine Z6 (fun h=> ?_) fun h=> ?_)| (first| (with_reducible first|refine Y2 fun K hK=> ?_|refine Y3 fun A B hA hB=> ?_)| (with_reducible refine aD5 (by omega) ?_)| (with_reducible refine aD8 hd.1 hd.2 ?_)| (with_reducible refine aC9 ?_)| (with_reducible refine aDG (by omega) hb4 ?_))<;>(simp only[go_sem,d1,d2,eq_true hm,eq_true hq])| ((with_reducible refine Y8 ?_);try simp only[AQ.then,AQ.blk,reduceIte,Nat.reduceEqDiff])|refine⟨by omega,?_⟩|fail)
 all_goals first|with_reducible refine aZ hQ _ rfl rfl ?_|skip
 ·unfold gZ;exact(congrArg dI (if_pos h)).symm
 ·unfold gZ;exact(congrArg dI (if_neg h)).symm
theorem a20 {m:List Rng} {q:Req} (hm:DH m) (hq:dH q) (hl:m.length<2^21) (h:K (dI (gZ m q)) H nx):aB Try.prog y3 [dS (m.map eN),dA (eB q)] H nx K:=
 (bbR m q hm hq hl).pure rfl (aI ⟨aE rfl,aE rfl,trivial⟩) (fun r hr=>hr▸h)
theorem bjI (c:Cfg) (s:CSt) (who st:Nat) (hb:aQ c) (hs:COk c s) (hw:who<3) (hst:st<4):aB Try.prog bgQ [dA (cU c),dA (eI s),dI who,dI st] .nil 0 fun rr _ _=>rr.plain=true∧rr=dB (decide (HV c s who st)):=by
 refine biY rfl fun Q hQ=> ?_
 unfold bg5
 obtain⟨hp3,hpr⟩:=hC hb
 have hprw:=hpr who
 have hmo:DH c.map:=hb.1
 have hml:=hb.1.1
 have hpl:=hs.pl
 have hpo:=hs.port who hw
 obtain⟨p,hp⟩: ∃p,s.bM.getD who default=p:=⟨_,rfl⟩
 have hp':aF s who=p:=hp
 obtain⟨n0,hn0⟩: ∃n0,p.queue.getD 0 default=n0:=⟨_,rfl⟩
 have hM:HV c s who st↔(0<p.queue.length∧p.out.length<4∧gZ c.map (bT c who n0)=st∧ ∀j∈p.out,(bT c who j.n).id=(bT c who n0).id→j.left=st):=by unfold HV;rw[hp',hn0]
 rw[hp'] at hpo
 obtain⟨hn1,hn2⟩:=hpo.next
 obtain⟨hq1,hq2⟩:=hpo.ql
 have hq0:=hpo.queue 0
 rw[hn0] at hq0
 have hol:=hpo.ol
 obtain⟨P,hP⟩: ∃P,c.cP.getD who default=P:=⟨_,rfl⟩
 rw[hP] at hprw hn2
 have hre: ∀n:Int,bT c who n=P.getD n.toNat default:=fun n=>by unfold bT;rw[Int.toNat_natCast,hP]
 by_cases h0:p.queue.length=0
 ·have t1:((p.queue.length:Int)=0)=True:=eq_true (by omega)
  repeat' (first| (with_reducible first| (refine hK _ _ _ ?_;clear hK K)| (refine hA ?_;clear hA hB A B)|refine Z1 ?_)| (with_reducible first|refine Y2 fun K hK=> ?_|refine Y3 fun A B hA hB=> ?_)<;>(simp only[go_sem,hpl,hp,t1])| ((with_reducible refine Y8 ?_);try simp only[AQ.then,AQ.blk,reduceIte,Nat.reduceEqDiff])|refine⟨by omega,?_⟩|fail)
  exact aZ hQ _ rfl rfl (j7 (by rw[hM];omega))
 have t1:((p.queue.length:Int)=0)=False:=eq_false (by omega)
 by_cases h4:p.out.length=4
 ·have t2:((p.out.length:Int)=4)=True:=eq_true (by omega)
  repeat' (first| (with_reducible first| (refine hK _ _ _ ?_;clear hK K)| (refine hA ?_;clear hA hB A B)|refine Z1 ?_)| (with_reducible first|refine Y2 fun K hK=> ?_|refine Y3 fun A B hA hB=> ?_)<;>(simp only[go_sem,hpl,hp,t1,t2])| ((with_reducible refine Y8 ?_);try simp only[AQ.then,AQ.blk,reduceIte,Nat.reduceEqDiff])|refine⟨by omega,?_⟩|fail)
  exact aZ hQ _ rfl rfl (j7 (by rw[hM];omega))
 have t2:((p.out.length:Int)=4)=False:=eq_false (by omega)
 have hq0:=hq0 (by omega)
 obtain⟨q,hq⟩: ∃q,P.getD n0.toNat default=q:=⟨_,rfl⟩
 have hq':bT c who n0=q:=by rw[hre];exact hq
 have hqo:dH q:=hq'▸GK hb (hpo.asks hw (by omega) (by omega))
 rw[hq'] at hM
 by_cases hsl:gZ c.map q=st
 ·have t3:(gZ c.map q=(st:Int))=True:=eq_true hsl
  repeat' (first| (with_reducible first| (refine hK _ _ _ ?_;clear hK K)| (refine hB ?_;clear hA hB A B)|refine Z1 ?_|refine Z2 ?_|refine Z3 fun KB hKB=> ?_)| (first| (with_reducible first|refine Y2 fun K hK=> ?_|refine Y3 fun A B hA hB=> ?_)| (with_reducible refine a20 hmo hqo (by omega) ?_))<;>(simp only[go_sem,hpl,hp3,hp,hP,hn0,hq,t1,t2,t3])|refine⟨by omega,?_⟩|fail)
  (have hKX:=hKB;clear hKB)
  refine aM.gP (β:=Nat) (fun k=>en [(11,dI k),(10,.one (.c (.ptr 7 31 0 0))),(9,.one (.c (.ptr 4 8 0 0))),(4,.one (.c (.ptr 3 0 0 0))),(3,dI st),(2,dI who)]) (fun k H1 _=>H1 0=some ⟨3,1,[cU c]⟩∧H1 8=some ⟨4,1,[cD p]⟩∧H1 31=some ⟨7,1,[eB q]⟩∧k≤p.out.length∧ ∀i,i<k→(bT c who (p.out.getD i default).n).id=q.id→(p.out.getD i default).left=st) (fun k=>p.out.length-k) 0 ⟨noF,_,by repeat' (first| (with_reducible first|exact C1|refine C2 ?_ ?_)| ((with_reducible refine C0 ?_);exact CE (by omega) rfl)| ((with_reducible refine D0 ?_);first|exact CA rfl|refine CJ ?_)|fail),aK,rfl,rfl,rfl,by omega,fun i hi=>by omega⟩ ?_
  rintro k H1 nx1 hnx1 ⟨g0,g1,g2,hk,hinv⟩ KL hKL
  by_cases hlt:k<p.out.length
  ·obtain⟨o,ho⟩: ∃o,p.out.getD k default=o:=⟨_,rfl⟩
   have hom:o∈p.out:=by rw[←ho];exact cC hlt
   obtain⟨_,ho2,_⟩:=hpo.out o hom
   obtain⟨q2,hq2⟩: ∃q2,P.getD o.n.toNat default=q2:=⟨_,rfl⟩
   have hq2':bT c who o.n=q2:=by rw[hre];exact hq2
   repeat' (first| (with_reducible first| (refine hK _ _ _ ?_;clear hK K)| (refine hA ?_;clear hA hB A B)| (refine hB ?_;clear hA hB A B)|refine Z1 ?_|refine Z2 ?_|refine Z3 fun KB hKB=> ?_|refine Z4 (by omega) ?_|refine Z6 (fun h=> ?_) fun h=> ?_)| (with_reducible first|refine Y2 fun K hK=> ?_|refine Y3 fun A B hA hB=> ?_|refine Y6 (fun h=> ?_) fun h=> ?_)<;>(simp only[go_sem,g0,g1,g2,hpl,hp3,hp,hP,hn0,ho,hq2];try simp (disch:=omega) only[Iw])| ((with_reducible refine Y8 ?_);try simp only[AQ.then,AQ.blk,reduceIte,Nat.reduceEqDiff])| ((with_reducible refine Y0 ?_);simp only[AQ.then,AQ.blk])|refine⟨by omega,?_⟩| (with_reducible refine hKB _ _ _ ?_)|fail)
   all_goals first
    | (refine aZ hQ _ rfl rfl (j7 ?_)
       rw[hM]
       rintro⟨_,_,_,hall⟩
       have:=hall o hom (by rw[hq2'];omega)
       omega)
    |exact hKL _ _ _ (k+1) noF _ (by omega) (by omega) (by repeat' (first| (with_reducible first|exact C1|refine C2 ?_ ?_)| ((with_reducible refine C0 ?_);exact CE (by omega) rfl)| ((with_reducible refine D0 ?_);first|exact CA rfl|refine CJ ?_)|fail)) aK ⟨g0,g1,g2,by omega,fun i hi hid=>by
     by_cases hik:i<k
     ·exact hinv i hik hid
     ·have:i=k:=by omega
      subst this
      rw[ho] at hid ⊢
      rw[hq2'] at hid
      omega⟩
  ·repeat' (first| (with_reducible first| (refine hK _ _ _ ?_;clear hK K)| (refine hB ?_;clear hA hB A B)|refine Z1 ?_|refine Z5 (by omega) ?_|refine hKX _ _ _ ?_)| (with_reducible first|refine Y2 fun K hK=> ?_|refine Y3 fun A B hA hB=> ?_)<;>(simp only[go_sem,g0,g1,g2])| ((with_reducible first|refine Y8 ?_|refine Y9 ?_);try simp only[AQ.then,AQ.blk,reduceIte,Nat.reduceEqDiff])|fail)
   refine aZ hQ _ rfl rfl (q9 ?_)
   rw[hM]
   refine⟨by omega,by omega,hsl,fun j hj hid=> ?_⟩
   obtain⟨i,hi,rfl⟩:=List.mem_iff_getElem.1 hj
   have:=hinv i (by omega)
   rw[List.getD_eq_getElem?_getD,List.getElem?_eq_getElem hi,Option.getD_some] at this
   exact this hid
 ·have t3:(gZ c.map q=(st:Int))=False:=eq_false hsl
  repeat' (first| (with_reducible first| (refine hK _ _ _ ?_;clear hK K)| (refine hA ?_;clear hA hB A B)| (refine hB ?_;clear hA hB A B)|refine Z1 ?_|refine Z2 ?_)| (first| (with_reducible first|refine Y2 fun K hK=> ?_|refine Y3 fun A B hA hB=> ?_)| (with_reducible refine a20 hmo hqo (by omega) ?_))<;>(simp only[go_sem,hpl,hp3,hp,hP,hn0,hq,t1,t2,t3])| ((with_reducible refine Y8 ?_);try simp only[AQ.then,AQ.blk,reduceIte,Nat.reduceEqDiff])|refine⟨by omega,?_⟩|fail)
  exact aZ hQ _ rfl rfl (j7 (by rw[hM];omega))
theorem bhY {c:Cfg} {s:CSt} {who:Nat} {st:Nat} (hb:aQ c) (hs:COk c s) (hw:who<3) (hst:st<4) {d1:D} (hd1:CvD H (fun _=>True) id 0 (dA (eI s)) d1) (h:K (dB (decide (HV c s who st))) H nx):aB Try.prog bgQ [dA (cU c),d1,dI who,dI st] H nx K:=
 (bjI c s who st hb hs hw hst).pure rfl (aI ⟨aE rfl,hd1,aE rfl,aE rfl,trivial⟩) (fun r hr=>hr▸h)
end
end Go.Proofs.Ytmccpdapaccnoaa
end
section
namespace Go.AM
structure bgJ (X:Nat→Prop) (H:aA) (nx:Nat) (nm:Nat→Nat) (s:CSt) (cells:List D1):Prop where
 rep:abY H nm s cells
 names:Names X nx nm
 x: ∀id,X id→id<nx
theorem bgJ.box {X:Nat→Prop} {H H':aA} {nx nx' i0:Nat} {nm:Nat→Nat} {s:CSt} {cells:List D1} (h:bgJ X H nx nm s cells) (hx:nx≤i0) (hi:i0<nx') (h0:H' i0=some ⟨5,1,[cells]⟩) (hf: ∀id,id<nx→H' id=H id):Rep X H' nx' i0 nm s:=
 ⟨⟨cells,h0,h.rep.frame fun k hk=>hf _ (h.names.lt k hk)⟩,h.names.mono (by omega),fun k hk he=>by have:=h.names.lt k hk;omega,⟨hi,fun hn=>by have:=h.x _ hn;omega⟩,fun id hid=>by have:=h.x id hid;omega⟩
theorem bgJ.frame {X:Nat→Prop} {H H':aA} {nx nx':Nat} {nm:Nat→Nat} {s:CSt} {cells:List D1} (h:bgJ X H nx nm s cells) (hx:nx≤nx') (hf: ∀id,id<nx→¬X id→H' id=H id):bgJ X H' nx' nm s cells:=
 ⟨h.rep.frame fun k hk=>hf _ (h.names.lt k hk) (h.names.av k hk),h.names.mono hx,fun id hid=>by have:=h.x id hid;omega⟩
theorem bgJ.ar5 {X:Nat→Prop} {H G:aA} {nx:Nat} {nm:Nat→Nat} {s:CSt} {cells:List D1} (h:bgJ X H nx nm s cells) (hp:s.bM.length=3) (hs:s.dD.length=4) (hf: ∀id,id<nx→G id=H id):CvD G (fun _=>True) id 0 (dA (eI s)) (dA cells):=
 lY (A8 ((h.rep.frame fun k hk=>hf _ (h.names.lt k hk)).VI (fun _ _=>trivial) hp hs))
theorem bgJ.len {X:Nat→Prop} {H:aA} {nx:Nat} {nm:Nat→Nat} {s:CSt} {cells:List D1} (h:bgJ X H nx nm s cells):cells.length=5:=by
 obtain⟨⟨_,_,_,_,_,rfl,_⟩,_,_⟩:=h.rep
 rfl
theorem bgJ.get {X:Nat→Prop} {H:aA} {nx:Nat} {nm:Nat→Nat} {s:CSt} {cells:List D1} (h:bgJ X H nx nm s cells):
 ∃wc hc pc vc tc mp rp mv rv,cells=[.osl 1 (nm 0) 0 s.words.length wc,.osl 1 (nm 1) 0 s.holds.length hc,.osl 4 (nm 2) 0 3 pc,.osl 3 (nm 3) 0 4 vc,.osl 5 (nm 4) 0 s.told.length tc]∧H (nm 2)=some ⟨4,mp,rp⟩∧H (nm 3)=some ⟨3,mv,rv⟩∧
  tZ H 1 (nm 0) 0 s.words.length wc (s.words.map aJ)∧tZ H 1 (nm 1) 0 s.holds.length hc (s.holds.map aJ)∧tZ H 5 (nm 4) 0 s.told.length tc (s.told.map aS)∧3≤pc∧4≤vc∧rp.length=3∧rv.length=4∧
  (∀k,k<3→∃qo qc oc,rp[k]?=some [cI (aF s k).next,.osl 1 (nm (5+k)) qo (aF s k).queue.length qc,.osl 3 (nm (8+k)) 0 (aF s k).out.length oc,cI (aF s k).last]∧tZ H 1 (nm (5+k)) qo (aF s k).queue.length qc ((aF s k).queue.map aJ)∧tZ H 3 (nm (8+k)) 0 (aF s k).out.length oc ((aF s k).out.map eCJ))∧
  ∀k,k<4→∃po pc do_ dc,rv[k]?=some [.osl 3 (nm (11+k)) po (aL s k).pipe.length pc,.osl 5 (nm (15+k)) do_ (aL s k).done.length dc,cI (aL s k).last]∧tZ H 3 (nm (11+k)) po (aL s k).pipe.length pc ((aL s k).pipe.map eCJ)∧tZ H 5 (nm (15+k)) do_ (aL s k).done.length dc ((aL s k).done.map aS):=by
 obtain⟨⟨wc,hc,pc,vc,tc,rfl,q1,q2,q3,q4,q5⟩,⟨mp,rp,j1,j2,j3⟩,⟨mv,rv,j4,j5,j6⟩⟩:=h.rep
 refine⟨wc,hc,pc,vc,tc,mp,rp,mv,rv,rfl,j1,j4,q1,q2,q3,q4,q5,j2,j5,fun k hk=> ?_,fun k hk=> ?_⟩
 ·obtain⟨r,h1,⟨qo,qc,oc,rfl,h2⟩⟩:=j3 k hk
  exact⟨qo,qc,oc,h1,h2⟩
 ·obtain⟨r,h1,⟨po,pc,do_,dc,rfl,h2⟩⟩:=j6 k hk
  exact⟨po,pc,do_,dc,h1,h2⟩
theorem Rep.bkO {X:Nat→Prop} {H H':aA} {nx nx' i0:Nat} {nm:Nat→Nat} {s:CSt} (h:Rep X H nx i0 nm s) (who st:Nat) (nm':Nat→Nat) (s':CSt) (hx:nx≤nx') (hN:Names X nx' nm')
 (hk: ∀k,k<19→nm' k=nm k∨((k=4∨k=5+who∨k=8+who∨k=11+st∨k=15+st)∧nx≤nm' k))
 (hfr: ∀id,id<nx→id≠i0→(∀k,k<5∨k=5+who∨k=8+who∨k=11+st∨k=15+st→k<19→id≠nm k)→H' id=H id)
 (e1: ∃wc hc pc vc tc,H' i0=some ⟨5,1,[U2 nm' s' wc hc pc vc tc]⟩∧tZ H' 1 (nm' 0) 0 s'.words.length wc (s'.words.map aJ)∧tZ H' 1 (nm' 1) 0 s'.holds.length hc (s'.holds.map aJ)∧tZ H' 5 (nm' 4) 0 s'.told.length tc (s'.told.map aS)∧3≤pc∧4≤vc)
 (e2: ∃m rows m0 rows0,H (nm 2)=some ⟨4,m0,rows0⟩∧H' (nm 2)=some ⟨4,m,rows⟩∧rows.length=3∧(∀k,k<3→k≠who→rows[k]?=rows0[k]?)∧(who<3→∃r,rows[who]?=some r∧CX H' (nm' (5+who)) (nm' (8+who)) (aF s' who) r))
 (e3: ∃m rows m0 rows0,H (nm 3)=some ⟨3,m0,rows0⟩∧H' (nm 3)=some ⟨3,m,rows⟩∧rows.length=4∧(∀k,k<4→k≠st→rows[k]?=rows0[k]?)∧(st<4→∃r,rows[st]?=some r∧LJ H' (nm' (11+st)) (nm' (15+st)) (aL s' st) r))
 (hw:who<3∨who=14) (hs:st<4∨st=8) (hp: ∀k,k<3→k≠who→aF s' k=aF s k) (hv: ∀k,k<4→k≠st→aL s' k=aL s k):Rep X H' nx' i0 nm' s'∧ ∀id,X id→H' id=H id:=by
 have hav:=h.names.av
 have hi0:=h.i0
 have hlt:=h.names.lt
 refine⟨h.upd (who:=who) (st:=st) hx hN (fun k hk19=> ?_) (fun k hk19 h1 h2 h3 h4 h5=> ?_) (fun k h5 hk19 h1 h2 h3 h4=> ?_) e1 e2 e3 hw hs hp hv,fun id hid=>hfr id (h.x id hid) (fun he=>hi0.2 (he▸hid)) fun k _ hk he=>hav k hk (he▸hid)⟩
 ·rcases hk k hk19 with h1|h1
  ·rw[h1];exact h.ne k hk19
  ·omega
 ·rcases hk k hk19 with h6|h6
  ·exact h6
  ·omega
 ·refine hfr _ (hlt k hk19) (h.ne k hk19) fun j hj hj19 he=> ?_
  have:=h.names.inj k j hk19 hj19 he
  omega
theorem bjZ {n:Nat} {R:List (List D1)} (h:alR n R):alR n (R.drop 1):=fun r hr=>h r (List.mem_of_mem_drop hr)
theorem bkE {H:aA} {F:Nat→Prop} {nx:Nat} {a a':D} (h:CvD H F id nx a' a): ∀(i:Nat) (d0 d:D),[a'][i]?=some d0→[a][i]?=some d→CvD H F id nx d0 d:=by
 intro i d0 d h1 h2
 match i with
 |0=>simp at h1 h2;subst h1;subst h2;exact h
 |i+1=>simp at h1
theorem bkH {H:aA} {F:Nat→Prop} {nx:Nat} {a a' b:D} (h:CvD H F id nx a' a) (hb:b.imm=true): ∀(i:Nat) (d0 d:D),[a',b][i]?=some d0→[a,b][i]?=some d→CvD H F id nx d0 d:=by
 intro i d0 d h1 h2
 match i with
 |0=>simp at h1 h2;subst h1;subst h2;exact h
 |1=>simp at h1 h2;subst h1;subst h2;exact aE hb
 |i+2=>simp at h1
theorem tZ.cvD {H:aA} {F:Nat→Prop} {nx n id0 off len cap:Nat} {R:List (List D1)} (h:tZ H n id0 off len cap R) (hi:alR n R) (hF:F id0):CvD H F id nx (dS R) (.one (.c (.osl n id0 off len cap))):=.frz (h.frz hi hF)
theorem tZ.bkI {H:aA} {n id0 off len cap:Nat} {R:List (List D1)} (h:tZ H n id0 off len cap R) (h0:0<len):tZ H n id0 (off+1) (len-1) (cap-1) (R.drop 1):=by
 obtain⟨m,rows,h1,h2,h3,h4,h5,h6⟩:=h.ex
 exact⟨m,rows,h1,by rw[←h2,List.drop_drop],by omega,by rw[List.length_drop];omega,by omega,by omega⟩
end Go.AM
namespace Go.Proofs.Ytmccpdapaccnoaa
open Go Go.AM
set_option maxRecDepth 100000
set_option maxHeartbeats 8000000
section
variable {H : aA} {nx : Nat} {K : D → aA → Nat → Prop}
def bh2 (n:Int) (l:List fC):List fC:=l.filter fun j=>decide (¬j.n=n)
theorem bj6 {n:Int} {l:List fC} {k:Nat} (hk:k<l.length):bh2 n (l.take (k+1))=if (l.getD k default).n=n then bh2 n (l.take k) else bh2 n (l.take k)++[l.getD k default]:=by
 unfold bh2
 rw[nK hk,List.filter_append]
 by_cases h:(l.getD k default).n=n
 ·rw[if_pos h,List.filter_cons,if_neg (by simpa using h)];simp
 ·rw[if_neg h,List.filter_cons,if_pos (by simpa using h)];simp
theorem bi5:cJ Try.prog bhB Try.f66 bg4 bhR:=cJ.mk Try.func66 (by kernel_rfl) biU
theorem bjO {l:List fC} {n:Int} (hl:l.length<2^21)
 (h: ∀H' nx' b cap,nx≤b→b<nx'→Own eCJ 3 H' b cap (bh2 n l)→(∀id,id<nx→H' id=H id)→K (.one (.c (.osl 3 b 0 (bh2 n l).length cap))) H' nx'):aB Try.prog bhB [dS (l.map eCJ),dI n] H nx K:=by
 refine bi5 rfl fun Q hQ=> ?_
 unfold bg4
 repeat' (first| (with_reducible first| (refine hK _ _ _ ?_;clear hK K)| (refine hA ?_;clear hA hB A B)| (refine hB ?_;clear hA hB A B)|refine Z1 ?_|refine Z2 ?_|refine Z3 fun KB hKB=> ?_|refine Z4 (by omega) ?_|refine Z5 (by omega) ?_|refine Z6 (fun h=> ?_) fun h=> ?_|refine Z7 (fun h=> ?_) fun h=> ?_|refine fun(cap:Nat) (hcap:_≤cap)=> ?_|refine fun(hcp:_≤cap)=> ?_|refine fun(b:Bool)=> ?_|refine hKX _ _ _ ?_|refine hKY _ _ _ ?_|refine hKZ _ _ _ ?_)| (with_reducible first|refine Y1 fun K hK=> ?_|refine Y2 fun K hK=> ?_|refine Y3 fun A B hA hB=> ?_|refine Y4 (by omega) ?_|refine Y5 (by omega) ?_|refine Y6 (fun h=> ?_) fun h=> ?_| (refine Y7 (fun h=> ?_) (fun h=> ?_)<;>try subst h))<;>(simp only[go_sem,Nat.add_assoc,Nat.left_eq_add,Nat.add_eq_left];try simp (disch:=omega) only[Iw])| ((with_reducible first|refine Y8 ?_|refine Y9 ?_);try simp only[AQ.then,AQ.blk,reduceIte,Nat.reduceEqDiff])| ((with_reducible refine Y0 ?_);simp only[AQ.then,AQ.blk])| ((with_reducible refine Z8 (fun h=> ?_) (fun h=> ?_))<;>try subst h)|refine⟨by omega,?_⟩| (refine⟨by(rw[List.length_take];omega),?_⟩)| (with_reducible first|refine hKB _ _ _ ?_| (clear hKB KB;refine hKB _ _ _ ?_)| (clear hKB KB;clear hKB KB;refine hKB _ _ _ ?_))|fail)
 (have hKX:=hKB;clear hKB)
 refine aM.gP (β:=Nat×Nat×Nat) (fun u=>en [(6,dI u.1),(5,.one (.c (.osl 3 u.2.1 0 (bh2 n (l.take u.1)).length u.2.2))),(1,dI n),(0,dS (l.map eCJ))])
  (fun u H1 nx1=>u.1≤l.length∧Own eCJ 3 H1 u.2.1 u.2.2 (bh2 n (l.take u.1))∧(nx≤u.2.1∧u.2.1<nx1)∧ ∀id,id<nx→H1 id=H id)
  (fun u=>l.length-u.1) (0,nx+1,0) ⟨noF,_,by repeat' (first| (with_reducible first|exact C1|refine C2 ?_ ?_|exact C3|refine C4 ?_ ?_|refine aUP ?_ ?_|refine bfY ?_ ?_ ?_|refine aUQ ?_|refine aUR ?_)| ((with_reducible refine C0 ?_);first|exact CB rfl|exact CC| (exact CQ (by omega) rfl rfl (by first|rfl| (simp;done)|omega| (dsimp only;omega)) rfl)|exact CE (by omega) rfl|exact CR (by omega) rfl|exact CF|exact CH (by first|rfl|assumption)| (exact CG (by first|rfl| (simp;done)| (congr 2;omega)| ((try dsimp only);exact dbT (by omega))| ((try dsimp only);exact dbF (by omega))| ((try dsimp only);exact(dbT (by omega)).symm)| ((try dsimp only);exact(dbF (by omega)).symm)| ((try dsimp only);exact dbE (by omega))| ((try dsimp only);exact diE (by omega))) rfl))| ((with_reducible refine D0 ?_);first|exact CA rfl|exact CI rfl (by simp) rfl rfl rfl|refine C9 ?_|refine CJ ?_)|exact C3|refine C4 ?_ ?_|fail),aK,by dsimp only;omega,⟨0,by simp only[aA.set,if_true];rfl,Nat.le_refl _,Nat.le_refl _⟩,by dsimp only;omega,fun id hid=>by simp only[aA.set,show ¬id=nx+1 by omega,if_false]⟩ ?_
 rintro⟨k,b,cp⟩ H1 nx1 hnx ⟨hk,⟨m,g1,g2,g3⟩,⟨hb1,hb2⟩,hfr⟩ KL hKL
 dsimp only at hk g1 g2 g3 hb1 hb2
 have hA:bQ nx1 [b]:=AM.apart (by simp) (by simp;omega)
 simp only[bQ,eZ] at hA
 by_cases hlt:k<l.length
 ·obtain⟨x,hx⟩: ∃x,l.getD k default=x:=⟨_,rfl⟩
  have hs:=bj6 (n:=n) hlt
  rw[hx] at hs
  have htt: ∀r:List fC,r.take r.length=r:=fun r=>List.take_length
  by_cases hn:x.n=n
  ·rw[if_pos hn] at hs
   have hnt:(x.n=n)=True:=eq_true hn
   repeat' (first| (with_reducible first| (refine hK _ _ _ ?_;clear hK K)| (refine hA ?_;clear hA hB A B)| (refine hB ?_;clear hA hB A B)|refine Z1 ?_|refine Z2 ?_|refine Z3 fun KB hKB=> ?_|refine Z4 (by omega) ?_|refine Z5 (by omega) ?_|refine Z6 (fun h=> ?_) fun h=> ?_|refine Z7 (fun h=> ?_) fun h=> ?_|refine fun(cap:Nat) (hcap:_≤cap)=> ?_|refine fun(hcp:_≤cap)=> ?_|refine fun(b:Bool)=> ?_|refine hKX _ _ _ ?_|refine hKY _ _ _ ?_|refine hKZ _ _ _ ?_)| (with_reducible first|refine Y1 fun K hK=> ?_|refine Y2 fun K hK=> ?_|refine Y3 fun A B hA hB=> ?_|refine Y4 (by omega) ?_|refine Y5 (by omega) ?_|refine Y6 (fun h=> ?_) fun h=> ?_| (refine Y7 (fun h=> ?_) (fun h=> ?_)<;>try subst h))<;>(simp only[go_sem,hx,hnt,Nat.add_assoc,Nat.left_eq_add,Nat.add_eq_left];try simp (disch:=omega) only[Iw])| ((with_reducible first|refine Y8 ?_|refine Y9 ?_);try simp only[AQ.then,AQ.blk,reduceIte,Nat.reduceEqDiff])| ((with_reducible refine Y0 ?_);simp only[AQ.then,AQ.blk])| ((with_reducible refine Z8 (fun h=> ?_) (fun h=> ?_))<;>try subst h)|refine⟨by omega,?_⟩| (refine⟨by(rw[List.length_take];omega),?_⟩)| (with_reducible first|refine hKB _ _ _ ?_| (clear hKB KB;refine hKB _ _ _ ?_)| (clear hKB KB;clear hKB KB;refine hKB _ _ _ ?_))|fail)
   exact hKL _ _ _ (k+1,b,cp) noF _ (by omega) (by dsimp only;omega) (by dsimp only;rw[hs];repeat' (first| (with_reducible first|exact C1|refine C2 ?_ ?_|exact C3|refine C4 ?_ ?_|refine aUP ?_ ?_|refine bfY ?_ ?_ ?_|refine aUQ ?_|refine aUR ?_)| ((with_reducible refine C0 ?_);first|exact CB rfl|exact CC| (exact CQ (by omega) rfl rfl (by first|rfl| (simp;done)|omega| (dsimp only;omega)) rfl)|exact CE (by omega) rfl|exact CR (by omega) rfl|exact CF|exact CH (by first|rfl|assumption)| (exact CG (by first|rfl| (simp;done)| (congr 2;omega)| ((try dsimp only);exact dbT (by omega))| ((try dsimp only);exact dbF (by omega))| ((try dsimp only);exact(dbT (by omega)).symm)| ((try dsimp only);exact(dbF (by omega)).symm)| ((try dsimp only);exact dbE (by omega))| ((try dsimp only);exact diE (by omega))) rfl))| ((with_reducible refine D0 ?_);first|exact CA rfl|exact CI rfl (by simp) rfl rfl rfl|refine C9 ?_|refine CJ ?_)|exact C3|refine C4 ?_ ?_|fail)) aK ⟨by dsimp only;omega,by dsimp only;rw[hs];exact⟨m,g1,g2,g3⟩,by dsimp only;omega,hfr⟩
  ·rw[if_neg hn] at hs
   have hnt:(x.n=n)=False:=eq_false hn
   have hle:(bh2 n (l.take k)).length≤k:=Nat.le_trans (List.length_filter_le _ _) (by rw[List.length_take];omega)
   repeat' (first| (with_reducible first| (refine hK _ _ _ ?_;clear hK K)| (refine hA ?_;clear hA hB A B)| (refine hB ?_;clear hA hB A B)|refine Z1 ?_|refine Z2 ?_|refine Z3 fun KB hKB=> ?_|refine Z4 (by omega) ?_|refine Z5 (by omega) ?_|refine Z6 (fun h=> ?_) fun h=> ?_|refine Z7 (fun h=> ?_) fun h=> ?_|refine fun(cap:Nat) (hcap:_≤cap)=> ?_|refine fun(hcp:_≤cap)=> ?_|refine fun(b:Bool)=> ?_|refine hKX _ _ _ ?_|refine hKY _ _ _ ?_|refine hKZ _ _ _ ?_)| (with_reducible first|refine Y1 fun K hK=> ?_|refine Y2 fun K hK=> ?_|refine Y3 fun A B hA hB=> ?_|refine Y4 (by omega) ?_|refine Y5 (by omega) ?_|refine Y6 (fun h=> ?_) fun h=> ?_| (refine Y7 (fun h=> ?_) (fun h=> ?_)<;>try subst h))<;>(simp only[go_sem,hx,hnt,htt,g1,hA,Nat.add_assoc,Nat.left_eq_add,Nat.add_eq_left];try simp (disch:=omega) only[Iw])| ((with_reducible first|refine Y8 ?_|refine Y9 ?_);try simp only[AQ.then,AQ.blk,reduceIte,Nat.reduceEqDiff])| ((with_reducible refine Y0 ?_);simp only[AQ.then,AQ.blk])| ((with_reducible refine Z8 (fun h=> ?_) (fun h=> ?_))<;>try subst h)|refine⟨by omega,?_⟩| (refine⟨by(rw[List.length_take];omega),?_⟩)| (with_reducible first|refine hKB _ _ _ ?_| (clear hKB KB;refine hKB _ _ _ ?_)| (clear hKB KB;clear hKB KB;refine hKB _ _ _ ?_))|fail)
   refine hKL _ _ _ (k+1,nx1+17,cap) noF _ (by omega) (by dsimp only;omega) (by dsimp only;rw[hs,List.length_append,List.length_singleton];repeat' (first| (with_reducible first|exact C1|refine C2 ?_ ?_|exact C3|refine C4 ?_ ?_|refine aUP ?_ ?_|refine bfY ?_ ?_ ?_|refine aUQ ?_|refine aUR ?_)| ((with_reducible refine C0 ?_);first|exact CB rfl|exact CC| (exact CQ (by omega) rfl rfl (by first|rfl| (simp;done)|omega| (dsimp only;omega)) rfl)|exact CE (by omega) rfl|exact CR (by omega) rfl|exact CF|exact CH (by first|rfl|assumption)| (exact CG (by first|rfl| (simp;done)| (congr 2;omega)| ((try dsimp only);exact dbT (by omega))| ((try dsimp only);exact dbF (by omega))| ((try dsimp only);exact(dbT (by omega)).symm)| ((try dsimp only);exact(dbF (by omega)).symm)| ((try dsimp only);exact dbE (by omega))| ((try dsimp only);exact diE (by omega))) rfl))| ((with_reducible refine D0 ?_);first|exact CA rfl|exact CI rfl (by simp) rfl rfl rfl|refine C9 ?_|refine CJ ?_)|exact C3|refine C4 ?_ ?_|fail)) aK ⟨by dsimp only;omega,by dsimp only;rw[hs];exact⟨cap,aA.bH,by rw[List.length_append,List.length_singleton];omega,Nat.le_refl _⟩,by dsimp only;omega,fun id hid=> ?_⟩
   rw[aA.aC (by omega),aA.aC (by omega),aA.jG (by omega)]
   exact hfr id hid
 ·repeat' (first| (with_reducible first| (refine hK _ _ _ ?_;clear hK K)| (refine hA ?_;clear hA hB A B)| (refine hB ?_;clear hA hB A B)|refine Z1 ?_|refine Z2 ?_|refine Z3 fun KB hKB=> ?_|refine Z4 (by omega) ?_|refine Z5 (by omega) ?_|refine Z6 (fun h=> ?_) fun h=> ?_|refine Z7 (fun h=> ?_) fun h=> ?_|refine fun(cap:Nat) (hcap:_≤cap)=> ?_|refine fun(hcp:_≤cap)=> ?_|refine fun(b:Bool)=> ?_|refine hKX _ _ _ ?_|refine hKY _ _ _ ?_|refine hKZ _ _ _ ?_)| (with_reducible first|refine Y1 fun K hK=> ?_|refine Y2 fun K hK=> ?_|refine Y3 fun A B hA hB=> ?_|refine Y4 (by omega) ?_|refine Y5 (by omega) ?_|refine Y6 (fun h=> ?_) fun h=> ?_| (refine Y7 (fun h=> ?_) (fun h=> ?_)<;>try subst h))<;>(simp only[go_sem];try simp (disch:=omega) only[Iw])| ((with_reducible first|refine Y8 ?_|refine Y9 ?_);try simp only[AQ.then,AQ.blk,reduceIte,Nat.reduceEqDiff])| ((with_reducible refine Y0 ?_);simp only[AQ.then,AQ.blk])| ((with_reducible refine Z8 (fun h=> ?_) (fun h=> ?_))<;>try subst h)|refine⟨by omega,?_⟩| (refine⟨by(rw[List.length_take];omega),?_⟩)| (with_reducible first|refine hKB _ _ _ ?_| (clear hKB KB;refine hKB _ _ _ ?_)| (clear hKB KB;clear hKB KB;refine hKB _ _ _ ?_))|fail)
  have hk2:k=l.length:=by omega
  subst hk2
  rw[List.take_length] at g1 g2
  rw[show (bh2 n (l.take l.length))=bh2 n l by rw[List.take_length]]
  exact hQ _ _ _ _ _ (.inr rfl) rfl (h _ _ b cp hb1 (by omega) ⟨m,g1,g2,g3⟩ hfr)
end
end Go.Proofs.Ytmccpdapaccnoaa
end
