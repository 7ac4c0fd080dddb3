/- Texts laid together by a program: rules, contracts and the walk that leads to the law. -/
import Derived.Test.YtegiblhkjfiooaaGreatPb7
import Derived.Test.YtegiblhkjfiooaaGreatPb6
import Derived.Test.YtegiblhkjfiooaaGreatPb3
import Derived.OpenShut
import Derived.Below
set_option linter.unusedVariables false
set_option linter.unusedSimpArgs false
set_option linter.unusedSectionVars false
section
namespace Go.Proofs.YtegiblhkjfiooaaGreat
open Go Go.AM
set_option maxRecDepth 100000
set_option maxHeartbeats 4000000
attribute [go_sem] List.length_set
section
variable {H : aA} {nx : Nat} {K : D → aA → Nat → Prop}
theorem OV (a:Int):aB Tryz.prog lG [dI a] .nil 0 fun rr _ _=>rr.plain=true∧rr=dB false:=by
 refine MP rfl fun Q hQ=> ?_
 unfold sW
 repeat' (first| (with_reducible first| (refine hK _ _ _ ?_;clear hK K)|refine Z1 ?_)| (with_reducible refine Y2 fun K hK=> ?_)<;>(simp only[go_sem])| ((with_reducible refine Y8 ?_);try simp only[AQ.then,AQ.blk,reduceIte,Nat.reduceEqDiff])|fail)
 all_goals first|with_reducible refine aZ hQ _ rfl rfl ?_|skip
 all_goals first|rfl|simp
theorem PG {a:Int} (h:K (dB false) H nx):aB Tryz.prog lG [dI a] H nx K:=
 (OV a).pure rfl (aI ⟨aE rfl,trivial⟩) (fun r hr=>hr▸h)
def UI (a b:Int):Int:=if a<b then-1 else if a>b then 1 else 0
theorem J0 (a b:Int):aB Tryz.prog jC [dI a,dI b] .nil 0 fun rr _ _=>rr.plain=true∧rr=dI (UI a b):=by
 refine JR rfl fun Q hQ=> ?_
 unfold pI
 repeat' (first| (with_reducible first| (refine hK _ _ _ ?_;clear hK K)| (refine hA ?_;clear hA hB A B)| (refine hB ?_;clear hA hB A B)|refine Z1 ?_|refine Z2 ?_|refine Z6 (fun h=> ?_) fun h=> ?_)| (first| (with_reducible first|refine Y2 fun K hK=> ?_|refine Y3 fun A B hA hB=> ?_)| (with_reducible refine PG ?_))<;>(simp only[go_sem])| ((with_reducible refine Y8 ?_);try simp only[AQ.then,AQ.blk,reduceIte,Nat.reduceEqDiff])|fail)
 all_goals first|with_reducible refine aZ hQ _ rfl rfl ?_|skip
 all_goals exact qA (by unfold UI;grind)
theorem KI {a:Int} {b:Int} (h:K (dI (UI a b)) H nx):aB Tryz.prog jC [dI a,dI b] H nx K:=
 (J0 a b).pure rfl (aI ⟨aE rfl,aE rfl,trivial⟩) (fun r hr=>hr▸h)
def orI (a b:Int):Int:=if a≠0 then a else b
theorem XG (a b:Int):aB Tryz.prog wC [dS [aJ a,aJ b]] .nil 0 fun rr _ _=>rr.plain=true∧rr=dI (orI a b):=by
 refine T8 rfl fun Q hQ=> ?_
 unfold z6
 obtain⟨l,hl⟩: ∃l,l=[a,b]:=⟨_,rfl⟩
 have he:[aJ a,aJ b]=l.map aJ:=by rw[hl];rfl
 have hlen:l.length=2:=by rw[hl];rfl
 rw[he]
 repeat' (first| (with_reducible first| (refine hK _ _ _ ?_;clear hK K)|refine Z1 ?_|refine Z3 fun KB hKB=> ?_)| (with_reducible refine Y2 fun K hK=> ?_)<;>(simp only[go_sem])|fail)
 (have hKX:=hKB;clear hKB);(refine aM.loop (α:={k:Nat//k≤2∧(∀i,i<k→l.getD i default=0)}) (fun u=>en [(8,dI u.1),(7,dI 2),(6,dS (l.map aJ)),(3,dI 0)]) (fun _=>.nil) _ (fun u=>2-u.1) ⟨0,by omega,(by intros;first|trivial|omega)⟩ (bU (Nat.le_refl _) (by repeat' (first| (with_reducible first|exact C1|refine C2 ?_ ?_)| ((with_reducible refine C0 ?_);(exact CG (by(congr 2;omega)) rfl))| ((with_reducible refine D0 ?_);first|exact CA rfl|refine CJ ?_)|fail))) ?_);(rintro⟨k,hk,hinv⟩ KL hKL)
 by_cases hlt:k<2
 ·repeat' (first| (with_reducible first| (refine hK _ _ _ ?_;clear hK K)| (refine hA ?_;clear hA hB A B)| (refine hB ?_;clear hA hB A B)|refine Z1 ?_|refine Z2 ?_|refine Z3 fun KB hKB=> ?_|refine Z4 (by omega) ?_|refine Z6 (fun h=> ?_) fun h=> ?_)| (with_reducible first|refine Y2 fun K hK=> ?_|refine Y3 fun A B hA hB=> ?_)<;>(simp only[go_sem];try simp (disch:=omega) only[Iw])| ((with_reducible refine Y8 ?_);try simp only[AQ.then,AQ.blk,reduceIte,Nat.reduceEqDiff])| ((with_reducible refine Y0 ?_);simp only[AQ.then,AQ.blk])|refine⟨by omega,?_⟩| (with_reducible refine hKB _ _ _ ?_)|fail)
  ·refine aZ hQ (dI _) rfl rfl (qA ?_)
   have hk:k=0∨k=1:=by omega
   have h0:=hinv 0
   rcases hk with rfl|rfl<;>simp[hl,List.getD] at* <;>simp_all [orI]
  · (refine hKL _ _ _ ⟨k+1,by omega,iS hinv (by omega)⟩ (by omega) (by(try dsimp only);omega) (bU (Nat.le_refl _) (by repeat' (first| (with_reducible first|exact C1|refine C2 ?_ ?_)| ((with_reducible refine D0 ?_);exact CA rfl)|fail))))
 ·repeat' (first| (with_reducible first| (refine hK _ _ _ ?_;clear hK K)| (refine hB ?_;clear hA hB A B)|refine Z1 ?_|refine Z5 (by omega) ?_|refine hKX _ _ _ ?_)| (with_reducible first|refine Y2 fun K hK=> ?_|refine Y3 fun A B hA hB=> ?_)<;>(simp only[go_sem])| ((with_reducible first|refine Y8 ?_|refine Y9 ?_);try simp only[AQ.then,AQ.blk,reduceIte,Nat.reduceEqDiff])|fail)
  refine aZ hQ (dI _) rfl rfl (qA ?_)
  have h0:=hinv 0 (by omega)
  have h1:=hinv 1 (by omega)
  simp[hl,List.getD] at* <;>simp_all [orI]
theorem WX {a:Int} {b:Int} {d0:D} (hd0:CvD H (fun _=>True) id 0 (dS [aJ a,aJ b]) d0) (h:K (dI (orI a b)) H nx):aB Tryz.prog wC [d0] H nx K:=
 (XG a b).pure rfl (aI ⟨hd0,trivial⟩) (fun r hr=>hr▸h)
def ad5 (a b:Job):Int:=orI (UI a.who b.who) (UI a.n b.n)
theorem E7 {a b:Job}:ad5 a b<0↔uL a b=true:=by
 rw[qL];unfold ad5 orI UI;grind
theorem JK (a b:Job):aB Tryz.prog bJ [dA (aS a),dA (aS b)] .nil 0 fun rr _ _=>rr.plain=true∧rr=dI (ad5 a b):=by
 refine HI rfl fun Q hQ=> ?_
 unfold nP
 repeat' (first| (with_reducible first| (refine hK _ _ _ ?_;clear hK K)|refine Z1 ?_)| (first| (with_reducible refine Y2 fun K hK=> ?_)| (with_reducible refine KI ?_)| (refine WX (DJ (rows:=[aJ (UI a.who b.who),aJ (UI a.n b.n)]) (aG bF [UI a.who b.who,UI a.n b.n]) rfl trivial rfl rfl rfl (Nat.le_refl 2)) ?_))<;>(simp only[go_sem])| ((with_reducible refine Y8 ?_);try simp only[AQ.then,AQ.blk,reduceIte,Nat.reduceEqDiff])|fail)
 all_goals first|with_reducible refine aZ hQ _ rfl rfl ?_|skip
 all_goals first|rfl|exact qA (by omega)
theorem xM {a:Job} {b:Job} (h:K (dI (ad5 a b)) H nx):aB Tryz.prog bJ [dA (aS a),dA (aS b)] H nx K:=
 (JK a b).pure rfl (aI ⟨aE rfl,aE rfl,trivial⟩) (fun r hr=>hr▸h)
theorem BI (l:List Int) (hl:l.length<2^20):aB Tryz.prog gO [dS (l.map aJ)] (hp []) 0
 fun r H' n'=>∃cap,l.length≤cap∧n'=1∧H'=hp [(0,⟨1,cap,l.map aJ⟩)]∧r=dO 1 0 l.length cap:=by
 refine zU rfl fun Q hQ=> ?_
 unfold jL
 refine aM.seq (aM.EJ 1 ?_)
 repeat' (first| (with_reducible first| (refine hK _ _ _ ?_;clear hK K)| (refine hA ?_;clear hA hB A B)| (refine hB ?_;clear hA hB A B)|refine Z1 ?_|refine Z2 ?_|refine Z7 (fun h=> ?_) fun h=> ?_|refine fun(cap:Nat) (hcap:_≤cap)=> ?_|refine fun(hcp:_≤cap)=> ?_|refine fun(b:Bool)=> ?_)| (with_reducible first|refine Y2 fun K hK=> ?_|refine Y3 fun A B hA hB=> ?_)<;>(simp only[go_sem])| ((with_reducible refine Y8 ?_);try simp only[AQ.then,AQ.blk,reduceIte,Nat.reduceEqDiff])| ((with_reducible refine Z8 (fun h=> ?_) (fun h=> ?_))<;>try subst h)|refine⟨by omega,?_⟩|fail)
 all_goals first
  | (have hcap':=Nat.le_refl cap
     (refine hQ _ _ _ _ _ 1 (dO 1 0 l.length cap) (hp [(0,⟨1,cap,l.map aJ⟩)]) _ _ (.inr rfl) rfl (fU [6] (by omega) (by repeat' (first| ((with_reducible refine C0 ?_);exact CQ (by omega) rfl rfl (by rfl) rfl)| ((with_reducible refine D0 ?_);refine CJ ?_)|fail)) ⟨⟨by simp,by simp[sgL],_,rfl,bP (aG bF _) rfl rfl⟩,trivial⟩ (by simp[sgL])) ?_)
     exact⟨cap,by omega,rfl,rfl,rfl⟩)
  | (have h0:l=[]:=List.eq_nil_of_length_eq_zero (by omega)
     subst h0
     (refine hQ _ _ _ _ _ 1 (dO 1 0 0 0) (hp [(0,⟨1,0,([]:List Int).map aJ⟩)]) _ _ (.inr rfl) rfl (fU [0] (by omega) (by repeat' (first| ((with_reducible refine C0 ?_);exact CC)| ((with_reducible refine D0 ?_);refine CJ ?_)|fail)) ⟨⟨by simp,by simp[sgL],_,rfl,bP (aG bF _) rfl rfl⟩,trivial⟩ (by simp[sgL])) ?_)
     exact⟨0,Nat.le_refl _,rfl,rfl,rfl⟩)
theorem A1 {l:List Int} (hl:l.length<2^20) (h: ∀cap,l.length≤cap→K (dO 1 nx l.length cap) (H.set nx ⟨1,cap,l.map aJ⟩) (nx+1)):aB Tryz.prog gO [dS (l.map aJ)] H nx K:=by
 refine(BI l hl).AF (l0:=[]) [] rfl ⟨aE rfl,trivial⟩ trivial (by simp) (by simp) (by simp) fun r H' n' _ ⟨cap,q0,q1,q2,q3⟩=> ?_
 have h:=h cap q0
 subst q1;subst q2;subst q3
 have e1:back (tau 0 nx (nth [])) (hp [(0,⟨1,cap,l.map aJ⟩)]) 1 H=H.set nx ⟨1,cap,l.map aJ⟩:=by
  simp only[back,hp,aA.set,tau,Nat.not_lt_zero,if_true,if_false,Nat.sub_zero,Nat.add_zero,Option.map_some,uB,aA.eL]
 rw[←e1] at h
 exact h
theorem B2 (l:List Int) (cap m:Nat) (hl:l.length<2^20) (hc:l.length≤cap):aB Tryz.prog iD [dO 1 0 l.length cap] (hp [(0,⟨1,m,l.map aJ⟩)]) 1
 fun r H' n'=>n'=1∧ ∃o',H'=hp [(0,o')]∧C7 o'∧o'=⟨1,m,l.map aJ⟩∧r=dO 1 0 l.length l.length:=by
 refine BK rfl fun Q hQ=> ?_
 unfold kB
 repeat' (first| (with_reducible first| (refine hK _ _ _ ?_;clear hK K)|refine Z1 ?_)| (with_reducible refine Y2 fun K hK=> ?_)<;>(simp only[go_sem])| ((with_reducible refine Y8 ?_);try simp only[AQ.then,AQ.blk,reduceIte,Nat.reduceEqDiff])|refine⟨by omega,?_⟩|fail)
 exact lA hQ (dO 1 0 l.length l.length) _ _ rfl (by repeat' (first| ((with_reducible refine C0 ?_);exact CQ (by omega) rfl rfl (by rfl) rfl)| ((with_reducible refine D0 ?_);refine CJ ?_)|fail)) rfl (oB bF _) ⟨rfl,rfl⟩
theorem BY {l:List Int} {cap m i:Nat} (hl:l.length<2^20) (hc:l.length≤cap) (hi:i<nx) (ho:H i=some ⟨1,m,l.map aJ⟩) (h:K (dO 1 i l.length l.length) (H.set i ⟨1,m,l.map aJ⟩) nx):
 aB Tryz.prog iD [dO 1 i l.length cap] H nx K:=
 (B2 l cap m hl hc).OU i rfl (gW ⟨qS (by omega) rfl rfl rfl rfl,trivial⟩) hi ho (oB bF _) fun r o' ⟨h1,h2⟩=>by
  subst h1;subst h2;exact h
theorem NI (l:List Int) (hl:l.length<2^20):aB Tryz.prog eX [dS (l.map aJ)] (hp []) 0
 fun r H' n'=>∃cap,l.length≤cap∧n'=1∧H'=hp [(0,⟨1,cap,l.map aJ⟩)]∧r=dO 1 0 l.length l.length:=by
 refine LI rfl fun Q hQ=> ?_
 unfold rI
 repeat' (first| (with_reducible first| (refine hK _ _ _ ?_;clear hK K)|refine Z1 ?_)| (first| (with_reducible refine Y2 fun K hK=> ?_)| (refine A1 hl (fun cap hcap=> ?_))| (refine BY hl hcap (by omega) rfl ?_))<;>(simp only[go_sem])| ((with_reducible refine Y8 ?_);try simp only[AQ.then,AQ.blk,reduceIte,Nat.reduceEqDiff])|fail)
 (refine hQ _ _ _ _ _ 1 (dO 1 0 l.length l.length) (hp [(0,⟨1,cap,l.map aJ⟩)]) _ _ (.inr rfl) rfl (fU [5] (by omega) (by repeat' (first| ((with_reducible refine C0 ?_);exact CQ (by omega) rfl rfl (by rfl) rfl)| ((with_reducible refine D0 ?_);refine CJ ?_)|fail)) ⟨⟨by simp,by simp[sgL],_,rfl,bP (aG bF _) rfl rfl⟩,trivial⟩ (by simp[sgL])) ?_)
 exact⟨cap,hcap,rfl,rfl,rfl⟩
theorem kH {l:List Int} (hl:l.length<2^20) (h: ∀m,l.length≤m→K (dO 1 nx l.length l.length) (H.set nx ⟨1,m,l.map aJ⟩) (nx+1)):aB Tryz.prog eX [dS (l.map aJ)] H nx K:=by
 refine(NI l hl).AF (l0:=[]) [] rfl ⟨aE rfl,trivial⟩ trivial (by simp) (by simp) (by simp) fun r H' n' _ ⟨cap,q0,q1,q2,q3⟩=> ?_
 have h:=h cap q0
 subst q1;subst q2;subst q3
 have e1:back (tau 0 nx (nth [])) (hp [(0,⟨1,cap,l.map aJ⟩)]) 1 H=H.set nx ⟨1,cap,l.map aJ⟩:=by
  simp only[back,hp,aA.set,tau,Nat.not_lt_zero,if_true,if_false,Nat.sub_zero,Nat.add_zero,Option.map_some,uB,aA.eL]
 rw[←e1] at h
 exact h
theorem BB {τ:Nat→Nat} {n m:Nat} {l:List Job}:bA.rn τ ⟨n,m,l.map aS⟩=⟨n,m,l.map aS⟩:=by
 refine rF fun r hr x hx=> ?_
 obtain⟨y,_,rfl⟩:=List.mem_map.1 hr
 exact List.all_eq_true.1 (dZ y).2 x hx
theorem uW (l:List Job) (hl:l.length<2^20):aB Tryz.prog eG [dS (l.map aS)] (hp []) 0
 fun r H' n'=>∃cap,l.length≤cap∧n'=1∧H'=hp [(0,⟨5,cap,l.map aS⟩)]∧r=dO 5 0 l.length cap:=by
 refine s9 rfl fun Q hQ=> ?_
 unfold gC
 refine aM.seq (aM.EJ 5 ?_)
 repeat' (first| (with_reducible first| (refine hK _ _ _ ?_;clear hK K)| (refine hA ?_;clear hA hB A B)| (refine hB ?_;clear hA hB A B)|refine Z1 ?_|refine Z2 ?_|refine Z7 (fun h=> ?_) fun h=> ?_|refine fun(cap:Nat) (hcap:_≤cap)=> ?_|refine fun(hcp:_≤cap)=> ?_|refine fun(b:Bool)=> ?_)| (with_reducible first|refine Y2 fun K hK=> ?_|refine Y3 fun A B hA hB=> ?_)<;>(simp only[go_sem])| ((with_reducible refine Y8 ?_);try simp only[AQ.then,AQ.blk,reduceIte,Nat.reduceEqDiff])| ((with_reducible refine Z8 (fun h=> ?_) (fun h=> ?_))<;>try subst h)|refine⟨by omega,?_⟩|fail)
 all_goals first
  | (have hcap':=Nat.le_refl cap
     (refine hQ _ _ _ _ _ 1 (dO 5 0 l.length cap) (hp [(0,⟨5,cap,l.map aS⟩)]) _ _ (.inr rfl) rfl (fU [6] (by omega) (by repeat' (first| ((with_reducible refine C0 ?_);exact CQ (by omega) rfl rfl (by rfl) rfl)| ((with_reducible refine D0 ?_);refine CJ ?_)|fail)) ⟨⟨by simp,by simp[sgL],_,rfl,bP (aG dZ _) rfl rfl⟩,trivial⟩ (by simp[sgL])) ?_)
     exact⟨cap,by omega,rfl,rfl,rfl⟩)
  | (have h0:l=[]:=List.eq_nil_of_length_eq_zero (by omega)
     subst h0
     (refine hQ _ _ _ _ _ 1 (dO 5 0 0 0) (hp [(0,⟨5,0,([]:List Job).map aS⟩)]) _ _ (.inr rfl) rfl (fU [0] (by omega) (by repeat' (first| ((with_reducible refine C0 ?_);exact CC)| ((with_reducible refine D0 ?_);refine CJ ?_)|fail)) ⟨⟨by simp,by simp[sgL],_,rfl,bP (aG dZ _) rfl rfl⟩,trivial⟩ (by simp[sgL])) ?_)
     exact⟨0,Nat.le_refl _,rfl,rfl,rfl⟩)
theorem t0 {l:List Job} (hl:l.length<2^20) (h: ∀cap,l.length≤cap→K (dO 5 nx l.length cap) (H.set nx ⟨5,cap,l.map aS⟩) (nx+1)):aB Tryz.prog eG [dS (l.map aS)] H nx K:=by
 refine(uW l hl).AF (l0:=[]) [] rfl ⟨aE rfl,trivial⟩ trivial (by simp) (by simp) (by simp) fun r H' n' _ ⟨cap,q0,q1,q2,q3⟩=> ?_
 have h:=h cap q0
 subst q1;subst q2;subst q3
 have e1:back (tau 0 nx (nth [])) (hp [(0,⟨5,cap,l.map aS⟩)]) 1 H=H.set nx ⟨5,cap,l.map aS⟩:=by
  simp only[back,hp,aA.set,tau,Nat.not_lt_zero,if_true,if_false,Nat.sub_zero,Nat.add_zero,Option.map_some,BB,aA.eL]
 rw[←e1] at h
 exact h
theorem vP (l:List Job) (cap m:Nat) (hl:l.length<2^20) (hc:l.length≤cap):aB Tryz.prog eS [dO 5 0 l.length cap] (hp [(0,⟨5,m,l.map aS⟩)]) 1
 fun r H' n'=>n'=1∧ ∃o',H'=hp [(0,o')]∧C7 o'∧o'=⟨5,m,l.map aS⟩∧r=dO 5 0 l.length l.length:=by
 refine uU rfl fun Q hQ=> ?_
 unfold gI
 repeat' (first| (with_reducible first| (refine hK _ _ _ ?_;clear hK K)|refine Z1 ?_)| (with_reducible refine Y2 fun K hK=> ?_)<;>(simp only[go_sem])| ((with_reducible refine Y8 ?_);try simp only[AQ.then,AQ.blk,reduceIte,Nat.reduceEqDiff])|refine⟨by omega,?_⟩|fail)
 exact lA hQ (dO 5 0 l.length l.length) _ _ rfl (by repeat' (first| ((with_reducible refine C0 ?_);exact CQ (by omega) rfl rfl (by rfl) rfl)| ((with_reducible refine D0 ?_);refine CJ ?_)|fail)) rfl (oB dZ _) ⟨rfl,rfl⟩
theorem vN {l:List Job} {cap m i:Nat} (hl:l.length<2^20) (hc:l.length≤cap) (hi:i<nx) (ho:H i=some ⟨5,m,l.map aS⟩) (h:K (dO 5 i l.length l.length) (H.set i ⟨5,m,l.map aS⟩) nx):
 aB Tryz.prog eS [dO 5 i l.length cap] H nx K:=
 (vP l cap m hl hc).OU i rfl (gW ⟨qS (by omega) rfl rfl rfl rfl,trivial⟩) hi ho (oB dZ _) fun r o' ⟨h1,h2⟩=>by
  subst h1;subst h2;exact h
theorem zN (l:List Job) (hl:l.length<2^20):aB Tryz.prog gG [dS (l.map aS)] (hp []) 0
 fun r H' n'=>∃cap,l.length≤cap∧n'=1∧H'=hp [(0,⟨5,cap,l.map aS⟩)]∧r=dO 5 0 l.length l.length:=by
 refine yQ rfl fun Q hQ=> ?_
 unfold i6
 repeat' (first| (with_reducible first| (refine hK _ _ _ ?_;clear hK K)|refine Z1 ?_)| (first| (with_reducible refine Y2 fun K hK=> ?_)| (refine t0 hl (fun cap hcap=> ?_))| (refine vN hl hcap (by omega) rfl ?_))<;>(simp only[go_sem])| ((with_reducible refine Y8 ?_);try simp only[AQ.then,AQ.blk,reduceIte,Nat.reduceEqDiff])|fail)
 (refine hQ _ _ _ _ _ 1 (dO 5 0 l.length l.length) (hp [(0,⟨5,cap,l.map aS⟩)]) _ _ (.inr rfl) rfl (fU [5] (by omega) (by repeat' (first| ((with_reducible refine C0 ?_);exact CQ (by omega) rfl rfl (by rfl) rfl)| ((with_reducible refine D0 ?_);refine CJ ?_)|fail)) ⟨⟨by simp,by simp[sgL],_,rfl,bP (aG dZ _) rfl rfl⟩,trivial⟩ (by simp[sgL])) ?_)
 exact⟨cap,hcap,rfl,rfl,rfl⟩
theorem z7 {l:List Job} (hl:l.length<2^20) (h: ∀m,l.length≤m→K (dO 5 nx l.length l.length) (H.set nx ⟨5,m,l.map aS⟩) (nx+1)):aB Tryz.prog gG [dS (l.map aS)] H nx K:=by
 refine(zN l hl).AF (l0:=[]) [] rfl ⟨aE rfl,trivial⟩ trivial (by simp) (by simp) (by simp) fun r H' n' _ ⟨cap,q0,q1,q2,q3⟩=> ?_
 have h:=h cap q0
 subst q1;subst q2;subst q3
 have e1:back (tau 0 nx (nth [])) (hp [(0,⟨5,cap,l.map aS⟩)]) 1 H=H.set nx ⟨5,cap,l.map aS⟩:=by
  simp only[back,hp,aA.set,tau,Nat.not_lt_zero,if_true,if_false,Nat.sub_zero,Nat.add_zero,Option.map_some,BB,aA.eL]
 rw[←e1] at h
 exact h
theorem O0 (l:List Job) (hl:l.length<2^20) (hd: ∀j∈l,j.rsp.data.length<2^20):aB Tryz.prog eO [dS (l.map aS)] (hp []) 0
 fun r H' n'=>∃cap,l.length≤cap∧n'=1∧H'=hp [(0,⟨5,cap,l.map aS⟩)]∧r=dO 5 0 l.length l.length:=by
 refine MD rfl fun Q hQ=> ?_
 unfold tD
 repeat' (first| (with_reducible first| (refine hK _ _ _ ?_;clear hK K)|refine Z1 ?_|refine Z3 fun KB hKB=> ?_)| (first| (with_reducible refine Y2 fun K hK=> ?_)| (refine z7 hl (fun m0 hm0=> ?_)))<;>(simp only[go_sem])|fail)
 (have hKX:=hKB;clear hKB)
 refine aM.sG 1 (β:=Nat) (fun b k=>en [(10,dI k),(9,dI l.length),(8,dO 5 b l.length l.length),(3,dO 5 b l.length l.length)])
  (fun b k=>hp [(b,⟨5,m0,l.map aS⟩)]) (fun k=>k≤l.length) (fun k=>l.length-k) 0 (by(refine cR [4] (by omega) (by repeat' (first| (with_reducible first|exact C1|refine C2 ?_ ?_)| ((with_reducible refine C0 ?_);exact CQ (by omega) rfl rfl (by rfl) rfl)| ((with_reducible refine D0 ?_);first|exact CA rfl|refine CJ ?_)|fail)) ⟨⟨by simp,by simp[sgL],_,rfl,bP (aG dZ _) rfl rfl⟩,trivial⟩ (by simp[sgL]))) (by omega) ?_
 rintro k hk KL hKL
 by_cases hlt:k<l.length
 ·have hmd:=hd _ (cC hlt)
  repeat' (first| (with_reducible first| (refine hK _ _ _ ?_;clear hK K)| (refine hA ?_;clear hA hB A B)|refine Z1 ?_|refine Z2 ?_|refine Z3 fun KB hKB=> ?_|refine Z4 (by omega) ?_)| (first| (with_reducible first|refine Y2 fun K hK=> ?_|refine Y3 fun A B hA hB=> ?_)| (refine kH hmd (fun m hm=> ?_)))<;>(simp only[go_sem];try simp (disch:=omega) only[Iw])| ((with_reducible refine Y0 ?_);simp only[AQ.then,AQ.blk])|refine⟨by omega,?_⟩| (with_reducible refine hKB _ _ _ ?_)|fail)
  exact hKL _ _ _ (k+1) (by omega) (by(refine cR [8] (by omega) (by repeat' (first| (with_reducible first|exact C1|refine C2 ?_ ?_)| ((with_reducible refine C0 ?_);exact CQ (by omega) rfl rfl (by rfl) rfl)| ((with_reducible refine D0 ?_);first|exact CA rfl|refine CJ ?_)|fail)) ⟨⟨by simp,by simp[sgL],_,rfl,ak7 (R:=l.map aS) (r':=aS (l.getD k default)) rfl rfl (atN hlt) (fun r hr=>(aG dZ l r hr).2) rfl (aH (bB rfl) (aH (bB rfl) (aH (bB rfl) (aH (bB rfl) (aH (bW bF rfl rfl (Nat.le_refl _) (by simp)) eP)))))⟩,trivial⟩ (by simp[sgL]))) (by omega) (by omega)
 ·repeat' (first| (with_reducible first| (refine hK _ _ _ ?_;clear hK K)| (refine hB ?_;clear hA hB A B)|refine Z1 ?_|refine Z5 (by omega) ?_|refine hKX _ _ _ ?_)| (with_reducible first|refine Y2 fun K hK=> ?_|refine Y3 fun A B hA hB=> ?_)<;>(simp only[go_sem])| ((with_reducible first|refine Y8 ?_|refine Y9 ?_);try simp only[AQ.then,AQ.blk,reduceIte,Nat.reduceEqDiff])|fail)
  (refine hQ _ _ _ _ _ 1 (dO 5 0 l.length l.length) (hp [(0,⟨5,m0,l.map aS⟩)]) _ _ (.inr rfl) rfl (fU [8] (by omega) (by repeat' (first| ((with_reducible refine C0 ?_);exact CQ (by omega) rfl rfl (by rfl) rfl)| ((with_reducible refine D0 ?_);refine CJ ?_)|fail)) ⟨⟨by simp,by simp[sgL],_,rfl,bP (aG dZ _) rfl rfl⟩,trivial⟩ (by simp[sgL])) ?_)
  exact⟨m0,hm0,rfl,rfl,rfl⟩
theorem gY {l:List Job} (hl:l.length<2^20) (hd: ∀j∈l,j.rsp.data.length<2^20) (h: ∀m,l.length≤m→K (dO 5 nx l.length l.length) (H.set nx ⟨5,m,l.map aS⟩) (nx+1)):aB Tryz.prog eO [dS (l.map aS)] H nx K:=by
 refine(O0 l hl hd).AF (l0:=[]) [] rfl ⟨aE rfl,trivial⟩ trivial (by simp) (by simp) (by simp) fun r H' n' _ ⟨cap,q0,q1,q2,q3⟩=> ?_
 have h:=h cap q0
 subst q1;subst q2;subst q3
 have e1:back (tau 0 nx (nth [])) (hp [(0,⟨5,cap,l.map aS⟩)]) 1 H=H.set nx ⟨5,cap,l.map aS⟩:=by
  simp only[back,hp,aA.set,tau,Nat.not_lt_zero,if_true,if_false,Nat.sub_zero,Nat.add_zero,Option.map_some,BB,aA.eL]
 rw[←e1] at h
 exact h
theorem B1 (w u:List Int) (hw:w.length<2^20) (hu:u.length<2^20):aB Tryz.prog fL [dA [.isl (w.map aJ),.isl (u.map aJ)]] (hp []) 0
 fun r H' n'=>∃m0 m1,w.length≤m0∧u.length≤m1∧n'=2∧H'=hp [(0,⟨1,m0,w.map aJ⟩),(1,⟨1,m1,u.map aJ⟩)]∧r=dA [.osl 1 0 0 w.length w.length,.osl 1 1 0 u.length u.length]:=by
 refine A9 rfl fun Q hQ=> ?_
 unfold kI
 repeat' (first| (with_reducible first| (refine hK _ _ _ ?_;clear hK K)|refine Z1 ?_)| (first| (with_reducible refine Y2 fun K hK=> ?_)| (refine kH hw (fun m0 hm0=> ?_))| (refine kH hu (fun m1 hm1=> ?_)))<;>(simp only[go_sem])| ((with_reducible refine Y8 ?_);try simp only[AQ.then,AQ.blk,reduceIte,Nat.reduceEqDiff])|fail)
 (refine hQ _ _ _ _ _ 2 (dA [.osl 1 0 0 w.length w.length,.osl 1 1 0 u.length u.length]) (hp [(0,⟨1,m0,w.map aJ⟩),(1,⟨1,m1,u.map aJ⟩)]) _ _ (.inr rfl) rfl (fU [12,13] (by omega) (by repeat' (first| ((with_reducible refine C0 ?_);exact CQ (by omega) rfl rfl (by rfl) rfl)| ((with_reducible refine D0 ?_);refine C9 ?_)|exact C3|refine C4 ?_ ?_|fail)) ⟨⟨by simp,by simp[sgL],_,rfl,bP (aG bF _) rfl rfl⟩,⟨by simp,by simp[sgL],_,rfl,bP (aG bF _) rfl rfl⟩,trivial⟩ (by simp[sgL])) ?_)
 exact⟨m0,m1,hm0,hm1,rfl,rfl,rfl⟩
theorem qN {w u:List Int} (hw:w.length<2^20) (hu:u.length<2^20) (h: ∀m0 m1,w.length≤m0→u.length≤m1→K (dA [.osl 1 nx 0 w.length w.length,.osl 1 (nx+1) 0 u.length u.length]) ((H.set nx ⟨1,m0,w.map aJ⟩).set (nx+1) ⟨1,m1,u.map aJ⟩) (nx+2)):aB Tryz.prog fL [dA [.isl (w.map aJ),.isl (u.map aJ)]] H nx K:=by
 refine(B1 w u hw hu).AF (l0:=[]) [] rfl ⟨aE rfl,trivial⟩ trivial (by simp) (by simp) (by simp) fun r H' n' _ ⟨m0,m1,q0,q0',q1,q2,q3⟩=> ?_
 have h:=h m0 m1 q0 q0'
 subst q1;subst q2;subst q3
 have e1:back (tau 0 nx (nth [])) (hp [(0,⟨1,m0,w.map aJ⟩),(1,⟨1,m1,u.map aJ⟩)]) 2 H=(H.set nx ⟨1,m0,w.map aJ⟩).set (nx+1) ⟨1,m1,u.map aJ⟩:=by
  simp[back,hp,aA.set,aA.nil,tau,nth,uB,BB,aA.eL,aA.yI]
 rw[←e1] at h
 exact h
def oIm (i0 i1 i2 i3 i4 i5 c0 c1 c2 c3 c4 c5:Nat) (s:TSt):List D1:=[.osl 1 i0 0 s.words.length c0,.osl 1 i1 0 s.holds.length c1,.osl 1 i2 0 s.asked.length c2,.osl 5 i3 0 s.wait.length c3,.osl 5 i4 0 s.done.length c4,.osl 5 i5 0 s.told.length c5]
theorem C8 (c:Cfg) (s:TSt) (hb:aQ c) (hs:BA c s):aB Tryz.prog iG [dA (eSt s)] (hp []) 0
 fun r H' n'=>∃m0 m1 m2 m3 m4 m5,(s.words.length≤m0∧s.holds.length≤m1∧s.asked.length≤m2∧s.wait.length≤m3∧s.done.length≤m4∧s.told.length≤m5)∧n'=6∧H'=hp [(0,⟨1,m0,s.words.map aJ⟩),(1,⟨1,m1,s.holds.map aJ⟩),(2,⟨1,m2,s.asked.map aJ⟩),(3,⟨5,m3,s.wait.map aS⟩),(4,⟨5,m4,s.done.map aS⟩),(5,⟨5,m5,s.told.map aS⟩)]∧
  r=dA (oIm 0 1 2 3 4 5 s.words.length s.holds.length s.asked.length s.wait.length s.done.length s.told.length s):=by
 have hl:=hs.lens hb
 have hwl:=hs.atm.wl
 have hhl:=hs.atm.hl
 have hal:=hs.JI
 have hd:=hs.ar7
 refine AY rfl fun Q hQ=> ?_
 unfold kD
 repeat' (first| (with_reducible first| (refine hK _ _ _ ?_;clear hK K)|refine Z1 ?_)| (first| (with_reducible refine Y2 fun K hK=> ?_)| (refine qN (w:=s.words) (u:=s.holds) (by omega) (by omega) (fun m0 m1 hm0 hm1=> ?_))| (refine kH (l:=s.asked) (by omega) (fun m2 hm2=> ?_))| (refine gY (l:=s.wait) (by omega) (fun j hj=>hd j (by simp[hj])) (fun m3 hm3=> ?_))| (refine gY (l:=s.done) (by omega) (fun j hj=>hd j (by simp[hj])) (fun m4 hm4=> ?_))| (refine gY (l:=s.told) (by omega) (fun j hj=>hd j (by simp[hj])) (fun m5 hm5=> ?_)))<;>(simp only[go_sem])| ((with_reducible refine Y8 ?_);try simp only[AQ.then,AQ.blk,reduceIte,Nat.reduceEqDiff])|fail)
 (refine hQ _ _ _ _ _ 6 (dA (oIm 0 1 2 3 4 5 s.words.length s.holds.length s.asked.length s.wait.length s.done.length s.told.length s)) (hp [(0,⟨1,m0,s.words.map aJ⟩),(1,⟨1,m1,s.holds.map aJ⟩),(2,⟨1,m2,s.asked.map aJ⟩),(3,⟨5,m3,s.wait.map aS⟩),(4,⟨5,m4,s.done.map aS⟩),(5,⟨5,m5,s.told.map aS⟩)]) _ _ (.inr rfl) rfl (fU [19,20,21,22,23,24] (by omega) (by repeat' (first| ((with_reducible refine C0 ?_);exact CQ (by omega) rfl rfl (by rfl) rfl)| ((with_reducible refine D0 ?_);refine C9 ?_)|exact C3|refine C4 ?_ ?_|fail)) ⟨⟨by simp,by simp[sgL],_,rfl,bP (aG bF _) rfl rfl⟩,⟨by simp,by simp[sgL],_,rfl,bP (aG bF _) rfl rfl⟩,⟨by simp,by simp[sgL],_,rfl,bP (aG bF _) rfl rfl⟩,⟨by simp,by simp[sgL],_,rfl,bP (aG dZ _) rfl rfl⟩,⟨by simp,by simp[sgL],_,rfl,bP (aG dZ _) rfl rfl⟩,⟨by simp,by simp[sgL],_,rfl,bP (aG dZ _) rfl rfl⟩,trivial⟩ (by simp[sgL])) ?_)
 exact⟨m0,m1,m2,m3,m4,m5,⟨hm0,hm1,hm2,hm3,hm4,hm5⟩,rfl,rfl,rfl⟩
theorem CM {c:Cfg} {s:TSt} (hb:aQ c) (hs:BA c s) (h: ∀m0 m1 m2 m3 m4 m5,(s.words.length≤m0∧s.holds.length≤m1∧s.asked.length≤m2∧s.wait.length≤m3∧s.done.length≤m4∧s.told.length≤m5)→K (dA (oIm nx (nx+1) (nx+2) (nx+3) (nx+4) (nx+5) s.words.length s.holds.length s.asked.length s.wait.length s.done.length s.told.length s)) ((((((H.set nx ⟨1,m0,s.words.map aJ⟩).set (nx+1) ⟨1,m1,s.holds.map aJ⟩).set (nx+2) ⟨1,m2,s.asked.map aJ⟩).set (nx+3) ⟨5,m3,s.wait.map aS⟩).set (nx+4) ⟨5,m4,s.done.map aS⟩).set (nx+5) ⟨5,m5,s.told.map aS⟩) (nx+6)):
 aB Tryz.prog iG [dA (eSt s)] H nx K:=by
 refine(C8 c s hb hs).AF (l0:=[]) [] rfl ⟨aE rfl,trivial⟩ trivial (by simp) (by simp) (by simp) fun r H' n' _ ⟨m0,m1,m2,m3,m4,m5,q0,q1,q2,q3⟩=> ?_
 have h:=h m0 m1 m2 m3 m4 m5 q0
 subst q1;subst q2;subst q3
 have e1:back (tau 0 nx (nth [])) (hp [(0,⟨1,m0,s.words.map aJ⟩),(1,⟨1,m1,s.holds.map aJ⟩),(2,⟨1,m2,s.asked.map aJ⟩),(3,⟨5,m3,s.wait.map aS⟩),(4,⟨5,m4,s.done.map aS⟩),(5,⟨5,m5,s.told.map aS⟩)]) 6 H=((((((H.set nx ⟨1,m0,s.words.map aJ⟩).set (nx+1) ⟨1,m1,s.holds.map aJ⟩).set (nx+2) ⟨1,m2,s.asked.map aJ⟩).set (nx+3) ⟨5,m3,s.wait.map aS⟩).set (nx+4) ⟨5,m4,s.done.map aS⟩).set (nx+5) ⟨5,m5,s.told.map aS⟩):=by
  simp[back,hp,aA.set,aA.nil,tau,nth,uB,BB,aA.eL,aA.yI]
 rw[←e1] at h
 exact h
end
end Go.Proofs.YtegiblhkjfiooaaGreat
end
section
namespace Go.Proofs.YtegiblhkjfiooaaGreat
open Go Go.AM
set_option maxRecDepth 100000
set_option maxHeartbeats 4000000
section
variable {H : aA} {nx : Nat} {K : D → aA → Nat → Prop}
end
end Go.Proofs.YtegiblhkjfiooaaGreat
end
section
namespace Go.Proofs.YtegiblhkjfiooaaGreat
open Go Go.AM
set_option maxRecDepth 100000
set_option maxHeartbeats 4000000
section
variable {H : aA} {nx : Nat} {K : D → aA → Nat → Prop}
theorem BS (l:List Int) (x:Int) (hl:l.length<2^40):aB Tryz.prog gN [dS (l.map aJ),dI x] .nil 0 fun rr _ _=>rr.plain=true∧rr=dI (bK (fun y=>decide (x=y)) l):=by
 refine AD rfl fun Q hQ=> ?_
 unfold jQ
 repeat' (first| (with_reducible first| (refine hK _ _ _ ?_;clear hK K)|refine Z1 ?_|refine Z3 fun KB hKB=> ?_)| (with_reducible refine Y2 fun K hK=> ?_)<;>(simp only[go_sem])|fail)
 (have hKX:=hKB;clear hKB);(refine aM.loop (α:={k:Nat//k≤l.length∧(∀i,i<k→(fun y=>decide (x=y)) (l.getD i default)=false)}) (fun u=>en [(8,dI u.1),(7,dI l.length),(1,dI x),(0,dS (l.map aJ))]) (fun _=>.nil) _ (fun u=>l.length-u.1) ⟨0,by omega,(by intros;first|trivial|omega)⟩ (bU (Nat.le_refl _) (by repeat' (first| (with_reducible first|exact C1|refine C2 ?_ ?_)| ((with_reducible refine D0 ?_);exact CA rfl)|fail))) ?_);(rintro⟨k,hk,hinv⟩ KL hKL)
 by_cases hlt:k<l.length
 ·repeat' (first| (with_reducible first| (refine hK _ _ _ ?_;clear hK K)| (refine hA ?_;clear hA hB A B)| (refine hB ?_;clear hA hB A B)|refine Z1 ?_|refine Z2 ?_|refine Z3 fun KB hKB=> ?_|refine Z4 (by omega) ?_|refine Z6 (fun h=> ?_) fun h=> ?_)| (with_reducible first|refine Y2 fun K hK=> ?_|refine Y3 fun A B hA hB=> ?_)<;>(simp only[go_sem];try simp (disch:=omega) only[Iw])| ((with_reducible refine Y8 ?_);try simp only[AQ.then,AQ.blk,reduceIte,Nat.reduceEqDiff])| ((with_reducible refine Y0 ?_);simp only[AQ.then,AQ.blk])|refine⟨by omega,?_⟩| (with_reducible refine hKB _ _ _ ?_)|fail)
  ·refine aZ hQ _ rfl rfl (qA (Eq.symm (CU (by omega) (decide_eq_true (by assumption)) hinv)))
  · (refine hKL _ _ _ ⟨k+1,by omega,iS hinv (decide_eq_false (by assumption))⟩ (by omega) (by(try dsimp only);omega) (bU (Nat.le_refl _) (by repeat' (first| (with_reducible first|exact C1|refine C2 ?_ ?_)| ((with_reducible refine D0 ?_);exact CA rfl)|fail))))
 ·repeat' (first| (with_reducible first| (refine hK _ _ _ ?_;clear hK K)| (refine hB ?_;clear hA hB A B)|refine Z1 ?_|refine Z5 (by omega) ?_|refine hKX _ _ _ ?_)| (with_reducible first|refine Y2 fun K hK=> ?_|refine Y3 fun A B hA hB=> ?_)<;>(simp only[go_sem])| ((with_reducible first|refine Y8 ?_|refine Y9 ?_);try simp only[AQ.then,AQ.blk,reduceIte,Nat.reduceEqDiff])|fail)
  refine aZ hQ (dI _) rfl rfl (qA (Eq.symm (tI fun i hi=>hinv i (by omega))))
theorem BG {l:List Int} {x:Int} (hl:l.length<2^40) {d0:D} (hd0:CvD H (fun _=>True) id 0 (dS (l.map aJ)) d0) (h:K (dI (bK (fun y=>decide (x=y)) l)) H nx):aB Tryz.prog gN [d0,dI x] H nx K:=
 (BS l x hl).pure rfl (aI ⟨hd0,aE rfl,trivial⟩) (fun r hr=>hr▸h)
theorem xC (l:List Int) (x:Int) (hl:l.length<2^40):aB Tryz.prog fK [dS (l.map aJ),dI x] .nil 0 fun rr _ _=>rr.plain=true∧rr=dB (decide (x∈l)):=by
 refine wG rfl fun Q hQ=> ?_
 unfold iC
 repeat' (first| (with_reducible first| (refine hK _ _ _ ?_;clear hK K)|refine Z1 ?_)| (first| (with_reducible refine Y2 fun K hK=> ?_)| (refine BG hl (aE rfl) ?_))<;>(simp only[go_sem])| ((with_reducible refine Y8 ?_);try simp only[AQ.then,AQ.blk,reduceIte,Nat.reduceEqDiff])|fail)
 all_goals first|with_reducible refine aZ hQ _ rfl rfl ?_|skip
 all_goals refine pD (cH.trans ⟨fun⟨y,hy,he⟩=> ?_,fun h=>⟨x,h,by simp⟩⟩)
 all_goals have:=of_decide_eq_true he;subst this;exact hy
theorem x8 {l:List Int} {x:Int} (hl:l.length<2^40) {d0:D} (hd0:CvD H (fun _=>True) id 0 (dS (l.map aJ)) d0) (h:K (dB (decide (x∈l))) H nx):aB Tryz.prog fK [d0,dI x] H nx K:=
 (xC l x hl).pure rfl (aI ⟨hd0,aE rfl,trivial⟩) (fun r hr=>hr▸h)
theorem XT {f:Nat→Int} {n k:Nat} {x:Int} (hk:k<n) (hx:x=f k):((List.range k).map f++List.replicate (n-k) (0:Int)).set k x=(List.range (k+1)).map f++List.replicate (n-(k+1)) 0:=by
 have e:n-k=(n-(k+1))+1:=by omega
 have h1:((List.range k).map f).length=k:=by simp
 rw[List.set_append,h1,if_neg (Nat.lt_irrefl k),Nat.sub_self,e,List.replicate_succ,List.set_cons_zero,List.range_succ,List.map_append,List.append_assoc,hx]
 rfl
theorem N0 (addr many:Int) (wrap:Bool):aB Tryz.prog oS [dI addr,dI many,dB wrap] .nil 0 fun rr _ nn=>nn=0∧rr.imm=true∧rr=dS ((bE addr many wrap).map aJ):=by
 refine M3 rfl fun Q hQ=> ?_
 unfold s6
 by_cases hok:o7 addr many wrap
 ·obtain⟨f1,f2,f3,f4,f5,f6,f7,f8⟩:=aaA hok
  repeat' (first| (with_reducible first| (refine hK _ _ _ ?_;clear hK K)| (refine hB ?_;clear hA hB A B)|refine Z1 ?_|refine Z2 ?_|refine Z3 fun KB hKB=> ?_)| (first| (with_reducible first|refine Y2 fun K hK=> ?_|refine Y3 fun A B hA hB=> ?_)| (with_reducible refine wS ?_))<;>(simp only[go_sem,f6,eq_true hok])|refine⟨by omega,?_⟩|fail)
  (have hKX:=hKB;clear hKB)
  refine aM.sG 1 (β:=Nat) (fun b k=>en [(18,dI k),(17,dI many),(7,dO 1 b many.toNat many.toNat),(2,dB wrap),(1,dI many),(0,dI addr)])
   (fun b k=>hp [(b,⟨1,many.toNat,((List.range k).map (bAt addr many wrap)++List.replicate (many.toNat-k) (0:Int)).map aJ⟩)]) (fun k=>k≤many.toNat) (fun k=>many.toNat-k) 0 ?_ (by omega) ?_
  · (refine cR [7] (by omega) (by repeat' (first| (with_reducible first|exact C1|refine C2 ?_ ?_)| ((with_reducible refine C0 ?_);first|exact CQ (by omega) rfl rfl (by rfl) rfl| (exact CG (by(congr 2;omega)) rfl))| ((with_reducible refine D0 ?_);first|exact CA rfl|refine CJ ?_)|fail)) ⟨⟨by simp,by simp[sgL],_,rfl,bP (aG bF _) (by simp[aJ]) rfl⟩,trivial⟩ (by simp[sgL]))
  intro k hk KL hKL
  have hlen:((List.range k).map (bAt addr many wrap)++List.replicate (many.toNat-k) (0:Int)).length=many.toNat:=by simp;omega
  by_cases hlt:k<many.toNat
  ·obtain⟨g1,g2,g3⟩:=agW hok k hlt
   have hmod:(addr+k).tmod many=(addr+k)%many:=Int.tmod_eq_emod_of_nonneg (by omega)
   have hm2:=Int.emod_lt_of_pos (addr+k) f2
   have hm3:=Int.emod_nonneg (addr+k) f1
   repeat' (first| (with_reducible first| (refine hK _ _ _ ?_;clear hK K)| (refine hA ?_;clear hA hB A B)| (refine hB ?_;clear hA hB A B)|refine Z1 ?_|refine Z2 ?_|refine Z3 fun KB hKB=> ?_|refine Z4 (by omega) ?_)| (with_reducible first|refine Y2 fun K hK=> ?_|refine Y3 fun A B hA hB=> ?_)<;>(simp only[go_sem,f6,hmod,List.set_set,hlen];try simp (disch:=omega) only[Iw])| ((with_reducible refine Y0 ?_);simp only[AQ.then,AQ.blk])| ((with_reducible refine Z8 (fun h=> ?_) (fun h=> ?_))<;>try subst h)|refine⟨by omega,?_⟩| (with_reducible refine hKB _ _ _ ?_)|fail)
   ·exact hKL _ _ _ (k+1) (by omega) (by(refine cR [12] (by omega) (by repeat' (first| (with_reducible first|exact C1|refine C2 ?_ ?_)| ((with_reducible refine C0 ?_);exact CQ (by omega) rfl rfl (by rfl) rfl)| ((with_reducible refine D0 ?_);first|exact CA rfl|refine CJ ?_)|fail)) ⟨⟨by simp,by simp[sgL],_,rfl,bP (aG bF _) (congrArg _ (XT hlt (by simp only[bAt,if_true])).symm) rfl⟩,trivial⟩ (by simp[sgL]))) (by omega) (by omega)
   ·exact hKL _ _ _ (k+1) (by omega) (by(refine cR [12] (by omega) (by repeat' (first| (with_reducible first|exact C1|refine C2 ?_ ?_)| ((with_reducible refine C0 ?_);exact CQ (by omega) rfl rfl (by rfl) rfl)| ((with_reducible refine D0 ?_);first|exact CA rfl|refine CJ ?_)|fail)) ⟨⟨by simp,by simp[sgL],_,rfl,bP (aG bF _) (congrArg _ (XT hlt (by simp[bAt])).symm) rfl⟩,trivial⟩ (by simp[sgL]))) (by omega) (by omega)
  ·repeat' (first| (with_reducible first| (refine hK _ _ _ ?_;clear hK K)| (refine hB ?_;clear hA hB A B)|refine Z1 ?_|refine Z5 (by omega) ?_|refine hKX _ _ _ ?_)| (with_reducible first|refine Y2 fun K hK=> ?_|refine Y3 fun A B hA hB=> ?_)<;>(simp only[go_sem])| ((with_reducible first|refine Y8 ?_|refine Y9 ?_);try simp only[AQ.then,AQ.blk,reduceIte,Nat.reduceEqDiff])|fail)
   have hk2:k=many.toNat:=by omega
   subst hk2
   exact V4 hQ (dS ((bE addr many wrap).map aJ)) _ rfl (yP (l:=bE addr many wrap) bF (by simp[bE,hok];rfl) (DF hok).symm (by rw[DF hok];omega) trivial) rfl rfl
 ·repeat' (first| (with_reducible first| (refine hK _ _ _ ?_;clear hK K)| (refine hA ?_;clear hA hB A B)|refine Z1 ?_)| (first| (with_reducible first|refine Y2 fun K hK=> ?_|refine Y3 fun A B hA hB=> ?_)| (with_reducible refine wS ?_))<;>(simp only[go_sem,eq_false hok])| ((with_reducible refine Y8 ?_);try simp only[AQ.then,AQ.blk,reduceIte,Nat.reduceEqDiff])|fail)
  exact V4 hQ (dS []) _ rfl xG rfl (by simp[bE,hok])
theorem OQ {addr:Int} {many:Int} {wrap:Bool} (h:K (dS ((bE addr many wrap).map aJ)) H nx):aB Tryz.prog oS [dI addr,dI many,dB wrap] H nx K:=
 (N0 addr many wrap).fresh rfl (fun r hr=>hr▸h)
theorem HJ (q:Req):aB Tryz.prog fP [dA (eB q)] .nil 0 fun rr _ nn=>nn=0∧rr.imm=true∧rr=dS ((bE q.addr q.many q.wrap).map aJ):=by
 refine GL rfl fun Q hQ=> ?_
 unfold mQ
 repeat' (first| (with_reducible first| (refine hK _ _ _ ?_;clear hK K)|refine Z1 ?_)| (first| (with_reducible refine Y2 fun K hK=> ?_)| (with_reducible refine OQ ?_))<;>(simp only[go_sem])| ((with_reducible refine Y8 ?_);try simp only[AQ.then,AQ.blk,reduceIte,Nat.reduceEqDiff])|fail)
 all_goals exact V4 hQ (dS _) _ rfl (aE rfl) rfl rfl
theorem vY {q:Req} (h:K (dS ((bE q.addr q.many q.wrap).map aJ)) H nx):aB Tryz.prog fP [dA (eB q)] H nx K:=
 (HJ q).fresh rfl (fun r hr=>hr▸h)
theorem XA (l:List Rng) (q:Req) (hl:l.length<2^40):aB Tryz.prog mZ [dS (l.map eN),dA (eB q)] .nil 0 fun rr _ _=>rr.plain=true∧rr=dI (bV l (bE q.addr q.many q.wrap)):=by
 refine TU rfl fun Q hQ=> ?_
 unfold zZ
 have hb4:=MK (addr:=q.addr) (many:=q.many) (wrap:=q.wrap)
 repeat' (first| (with_reducible first| (refine hK _ _ _ ?_;clear hK K)|refine Z1 ?_|refine Z3 fun KB hKB=> ?_)| (first| (with_reducible refine Y2 fun K hK=> ?_)| (with_reducible refine vY ?_))<;>(simp only[go_sem])|fail)
 generalize bE q.addr q.many q.wrap=all at*
 (have hKX:=hKB;clear hKB);(refine aM.loop (α:={k:Nat//k≤all.length∧(∀i,i<k→¬bK (inR · (all.getD i default)) l<0∧bK (inR · (all.getD i default)) l=bK (inR · (all.getD 0 default)) l)}) (fun u=>en [(12,dI u.1),(11,dI all.length),(10,dS (all.map aJ)),(5,dI (if u.1=0 then-1 else bK (inR · (all.getD 0 default)) l)),(0,dS (l.map eN))]) (fun _=>.nil) _ (fun u=>all.length-u.1) ⟨0,by omega,(by intros;first|trivial|omega)⟩ (bU (Nat.le_refl _) (by repeat' (first| (with_reducible first|exact C1|refine C2 ?_ ?_)| ((with_reducible refine D0 ?_);exact CA rfl)|fail))) ?_);(rintro⟨k,hk,hinv⟩ KL hKL)
 by_cases hlt:k<all.length
 ·repeat' (first| (with_reducible first| (refine hK _ _ _ ?_;clear hK K)| (refine hA ?_;clear hA hB A B)| (refine hB ?_;clear hA hB A B)|refine Z1 ?_|refine Z2 ?_|refine Z3 fun KB hKB=> ?_|refine Z4 (by omega) ?_|refine Z6 (fun h=> ?_) fun h=> ?_)| (first| (with_reducible first|refine Y2 fun K hK=> ?_|refine Y3 fun A B hA hB=> ?_|refine Y6 (fun h=> ?_) fun h=> ?_)| (with_reducible refine SX hl ?_))<;>(simp only[go_sem];try simp (disch:=omega) only[Iw])| ((with_reducible refine Y8 ?_);try simp only[AQ.then,AQ.blk,reduceIte,Nat.reduceEqDiff])| ((with_reducible refine Y0 ?_);simp only[AQ.then,AQ.blk])|refine⟨by omega,?_⟩| (with_reducible refine hKB _ _ _ ?_)|fail)
  ·refine aZ hQ (dI _) rfl rfl (qA ?_)
   rcases Nat.eq_zero_or_pos k with h0|h0
   ·subst h0
    have hg:=aoF (p:=(inR · (all.getD 0 default))) (l:=l)
    by_cases hy: ∀i,i<all.length→1≤i→bK (inR · (all.getD i default)) l=bK (inR · (all.getD 0 default)) l
    ·rw[RH (by omega) hy];omega
    ·have: ∃i,i<all.length∧ ¬bK (inR · (all.getD i default)) l=bK (inR · (all.getD 0 default)) l:=Classical.byContradiction fun hc=>hy fun i hi _=>Classical.byContradiction fun hn=>hc ⟨i,hi,hn⟩
     obtain⟨i,hi,hn⟩:=this
     rw[L8 hi hn]
   ·have:=(hinv 0 h0).1
    exact(L8 hlt (by omega)).symm
  ·refine aZ hQ (dI _) rfl rfl (qA (L8 hlt (fun he=> ?_)).symm)
   grind
  all_goals
   have heq:bK (inR · (all.getD k default)) l=bK (inR · (all.getD 0 default)) l:=by grind
   refine hKL _ _ _ ⟨k+1,by omega,iS hinv ⟨by omega,heq⟩⟩ (by omega) (by dsimp only;omega) (bU (Nat.le_refl _) ?_)
   dsimp only
   rw[if_neg (Nat.succ_ne_zero k),←heq]
   repeat' (first| (with_reducible first|exact C1|refine C2 ?_ ?_)| ((with_reducible refine D0 ?_);exact CA rfl)|fail)
 ·repeat' (first| (with_reducible first| (refine hK _ _ _ ?_;clear hK K)| (refine hB ?_;clear hA hB A B)|refine Z1 ?_|refine Z5 (by omega) ?_|refine hKX _ _ _ ?_)| (with_reducible first|refine Y2 fun K hK=> ?_|refine Y3 fun A B hA hB=> ?_)<;>(simp only[go_sem])| ((with_reducible first|refine Y8 ?_|refine Y9 ?_);try simp only[AQ.then,AQ.blk,reduceIte,Nat.reduceEqDiff])|fail)
  refine aZ hQ (dI _) rfl rfl (qA ?_)
  by_cases h0:k=0
  ·rw[if_pos h0,adL (by omega)]
  ·rw[if_neg h0,RH (by omega) (fun i hi _=>(hinv i (by omega)).2)]
theorem KD {l:List Rng} {q:Req} (hl:l.length<2^40) (h:K (dI (bV l (bE q.addr q.many q.wrap))) H nx):aB Tryz.prog mZ [dS (l.map eN),dA (eB q)] H nx K:=
 (XA l q hl).pure rfl (aI ⟨aE rfl,aE rfl,trivial⟩) (fun r hr=>hr▸h)
end
end Go.Proofs.YtegiblhkjfiooaaGreat
end
section
namespace Go.Proofs.YtegiblhkjfiooaaGreat
open Go Go.AM
set_option maxRecDepth 100000
set_option maxHeartbeats 4000000
section
variable {H : aA} {nx : Nat} {K : D → aA → Nat → Prop}
theorem aeU (old new lanes:Int) (h1:0≤old∧old≤65535) (h2:0≤new∧new≤65535) (h3:0≤lanes∧lanes≤3):aB Tryz.prog DA [dI old,dI new,dI lanes] .nil 0 fun rr _ _=>rr.plain=true∧rr=dI (xZ old new lanes):=by
 refine ZG rfl fun Q hQ=> ?_
 unfold GM
 have hc:lanes=0∨lanes=1∨lanes=2∨lanes=3:=by omega
 rcases hc with rfl|rfl|rfl|rfl
 all_goals repeat' (first| (with_reducible first| (refine hK _ _ _ ?_;clear hK K)|refine Z1 ?_)| (with_reducible refine Y2 fun K hK=> ?_)<;>(simp only[go_sem])| ((with_reducible refine Y8 ?_);try simp only[AQ.then,AQ.blk,reduceIte,Nat.reduceEqDiff])|fail)
 ·exact aZ hQ (dI (aeN old new (aaU 0))) rfl rfl (qA (by rw[arC];exact PW h1 h2 (by omega)))
 ·exact aZ hQ (dI (aeN old new (aaU 1))) rfl rfl (qA (by rw[aqD];exact PW h1 h2 (by omega)))
 ·exact aZ hQ (dI (aeN old new (aaU 2))) rfl rfl (qA (by rw[arO];exact PW h1 h2 (by omega)))
 ·exact aZ hQ (dI (aeN old new (aaU 3))) rfl rfl (qA (by rw[arA];exact PW h1 h2 (by omega)))
theorem ae5 {old:Int} {new:Int} {lanes:Int} (h1:0≤old∧old≤65535) (h2:0≤new∧new≤65535) (h3:0≤lanes∧lanes≤3) (h:K (dI (xZ old new lanes)) H nx):aB Tryz.prog DA [dI old,dI new,dI lanes] H nx K:=
 (aeU old new lanes h1 h2 h3).pure rfl (aI ⟨aE rfl,aE rfl,aE rfl,trivial⟩) (fun r hr=>hr▸h)
theorem aqI {w all:List Int}:(List.range all.length).map (fun k=>w.getD (all.getD k default).toNat default)=all.map fun a=>w.getD a.toNat default:=by
 apply List.ext_getElem
 ·simp
 ·intro i h1 h2
  simp only[List.length_map] at h2
  simp[List.getD,h2]
end
end Go.Proofs.YtegiblhkjfiooaaGreat
end
section
namespace Go.Proofs.YtegiblhkjfiooaaGreat
open Go Go.AM
set_option maxRecDepth 100000
set_option maxHeartbeats 8000000
section
variable {H : aA} {nx : Nat} {K : D → aA → Nat → Prop}
end
end Go.Proofs.YtegiblhkjfiooaaGreat
end
section
namespace Go.Proofs.YtegiblhkjfiooaaGreat
open Go Go.AM
set_option maxRecDepth 100000
set_option maxHeartbeats 4000000
section
variable {H : aA} {nx : Nat} {K : D → aA → Nat → Prop}
end
end Go.Proofs.YtegiblhkjfiooaaGreat
end
section
namespace Go.Proofs.YtegiblhkjfiooaaGreat
open Go Go.AM
set_option maxRecDepth 100000
set_option maxHeartbeats 8000000
section
variable {H : aA} {nx : Nat} {K : D → aA → Nat → Prop}
theorem aoK {i0 i1 i2 i3 i4 i5 c0 c1 c2 c3 c4 c5:Nat} {s:TSt}:(oIm i0 i1 i2 i3 i4 i5 c0 c1 c2 c3 c4 c5 s).length=6:=rfl
theorem aj7 {i0 i1 i2 i3 i4 i5 c0 c1 c2 c3 c4 c5:Nat} {s:TSt}:(oIm i0 i1 i2 i3 i4 i5 c0 c1 c2 c3 c4 c5 s).take 6=oIm i0 i1 i2 i3 i4 i5 c0 c1 c2 c3 c4 c5 s:=rfl
theorem akC {i0 i1 i2 i3 i4 i5 c0 c1 c2 c3 c4 c5:Nat} {s:TSt}:(oIm i0 i1 i2 i3 i4 i5 c0 c1 c2 c3 c4 c5 s).drop 6=[]:=rfl
theorem alF {i0 i1 i2 i3 i4 i5 c0 c1 c2 c3 c4 c5 k:Nat} {s:TSt} {cs:List D1}:iA cs (k+1) (oIm i0 i1 i2 i3 i4 i5 c0 c1 c2 c3 c4 c5 s)=iA cs (k+1) [.osl 1 i0 0 s.words.length c0,.osl 1 i1 0 s.holds.length c1,.osl 1 i2 0 s.asked.length c2,.osl 5 i3 0 s.wait.length c3,.osl 5 i4 0 s.done.length c4,.osl 5 i5 0 s.told.length c5]:=rfl
attribute [go_sem] aoK aj7 akC alF
end
end Go.Proofs.YtegiblhkjfiooaaGreat
end
section
namespace Go.AM
end Go.AM
end
section
namespace Go.AM
structure Sam (k:Int) (s s':TSt):Prop where
 asked:s'.asked.getD k.toNat default=s.asked.getD k.toNat default
 wait: ∀n,(k,n)∈s'.wait.map key↔(k,n)∈s.wait.map key
 done: ∀n,(k,n)∈s'.done.map key↔(k,n)∈s.done.map key
theorem Sam.refl {k:Int} {s:TSt}:Sam k s s:=⟨rfl,fun _=>.rfl,fun _=>.rfl⟩
theorem Sam.symm {k:Int} {s s':TSt} (h:Sam k s s'):Sam k s' s:=⟨h.asked.symm,fun n=>(h.wait n).symm,fun n=>(h.done n).symm⟩
theorem Sam.trans {k:Int} {s s' s2:TSt} (h:Sam k s s') (h2:Sam k s' s2):Sam k s s2:=⟨h2.asked.trans h.asked,fun n=>(h2.wait n).trans (h.wait n),fun n=>(h2.done n).trans (h.done n)⟩
end Go.AM
end
section
namespace Go.Proofs.YtegiblhkjfiooaaGreat
open Go Go.AM
set_option maxRecDepth 100000
set_option maxHeartbeats 8000000
section
variable {H : aA} {nx : Nat} {K : D → aA → Nat → Prop}
def aaT (n b len cap:Nat):D:=if len=0 then .one (.c .nil) else dO n b len cap
def hpN (b len:Nat) (o:bA):aA:=if len=0 then .nil else hp [(b,o)]
end
end Go.Proofs.YtegiblhkjfiooaaGreat
end
section
namespace Go.AM
def fS (l:List Job) (who:Int):List Job:=l.filter fun e=>decide (e.who=who)
theorem SJ {l:List Job} {k:Nat} (h:k<l.length):l.take (k+1)=l.take k++[l.getD k default]:=nK h
theorem WA {l:List Job} {who:Int} {k:Nat} (hk:k<l.length) (h:(l.getD k default).who=who):fS (l.take (k+1)) who=fS (l.take k) who++[l.getD k default]:=by
 rw[SJ hk];simp only[fS,List.filter_append,List.filter_cons,h,decide_true,if_true,List.filter_nil]
theorem abI {l:List Job} {who:Int} {k:Nat} (hk:k<l.length) (h: ¬(l.getD k default).who=who):fS (l.take (k+1)) who=fS (l.take k) who:=by
 rw[SJ hk];simp only[fS,List.filter_append,List.filter_cons,decide_eq_false h,Bool.false_eq_true,if_false,List.filter_nil,List.append_nil]
theorem WJ {l:List Job} {who:Int}:(fS l who).length≤l.length:=List.length_filter_le _ _
theorem WN {l:List Job} {who:Int}: ∀j∈fS l who,j∈l:=fun _ h=>(List.mem_filter.1 h).1
end Go.AM
end
section
namespace Go.Proofs.YtegiblhkjfiooaaGreat
open Go Go.AM
set_option maxRecDepth 100000
set_option maxHeartbeats 8000000
section
variable {H : aA} {nx : Nat} {K : D → aA → Nat → Prop}
theorem VD (l:List Job) (who:Int) (hl:l.length<2^20) (hd: ∀j∈l,j.rsp.data.length<2^20):aB Tryz.prog zR [dS (l.map aS),dI who] .nil 0 fun r _ n=>n=0∧r.imm=true∧r=dS ((fS l who).map aS):=by
 refine RG rfl fun Q hQ=> ?_
 unfold yM
 have hmd:=fun j (hj:j∈fS l who)=>hd j (WN j hj)
 have hmL:=WJ (l:=l) (who:=who)
 repeat' (first| (with_reducible first| (refine hK _ _ _ ?_;clear hK K)|refine Z1 ?_|refine Z3 fun KB hKB=> ?_)| (with_reducible refine Y2 fun K hK=> ?_)<;>(simp only[go_sem])|fail)
 (have hQX:=hKB;clear hKB)
 refine aM.sG 1 (β:=Nat×Nat) (fun b u=>en [(10,dI u.1),(9,dI l.length),(8,dS (l.map aS)),(5,aaT 5 b (fS (l.take u.1) who).length u.2),(1,dI who)])
  (fun b u=>hpN b (fS (l.take u.1) who).length ⟨5,u.2,(fS (l.take u.1) who).map aS⟩) (fun u=>u.1≤l.length∧(fS (l.take u.1) who).length≤u.2) (fun u=>l.length-u.1) (0,0) (bU (by omega) (by simp only[fS,List.take_zero,List.filter_nil,List.length_nil,aaT,if_true];unfold D1.nil;repeat' (first| (with_reducible first|exact C1|refine C2 ?_ ?_)| ((with_reducible refine C0 ?_);exact CC)| ((with_reducible refine D0 ?_);first|exact CA rfl|refine CJ ?_)|fail))) ⟨by omega,by simp[fS]⟩ ?_
 rintro⟨k,cap⟩ ⟨hk,hc⟩ KL hKL
 dsimp only at hk hc
 have hml:=WJ (l:=l.take k) (who:=who)
 have htl:(l.take k).length=k:=by simp;omega
 rcases Nat.eq_zero_or_pos (fS (l.take k) who).length with h0|h0
 ·simp only[aaT,hpN,h0,if_true]
  unfold D1.nil
  by_cases hlt:k<l.length
  ·by_cases hw:(l.getD k default).who=who
   ·have hy:=WA hlt hw
    have hz:=List.length_eq_zero_iff.1 h0
    rw[hz,List.nil_append] at hy
    have hyl:=congrArg List.length hy
    rw[List.length_singleton] at hyl
    repeat' (first| (with_reducible first| (refine hK _ _ _ ?_;clear hK K)| (refine hA ?_;clear hA hB A B)|refine Z1 ?_|refine Z2 ?_|refine Z3 fun KB hKB=> ?_|refine Z4 (by omega) ?_|refine fun(cap:Nat) (hcap:_≤cap)=> ?_|refine fun(hcp:_≤cap)=> ?_)| (with_reducible first|refine Y2 fun K hK=> ?_|refine Y3 fun A B hA hB=> ?_)<;>(simp only[go_sem];try simp (disch:=omega) only[Iw])| ((with_reducible refine Y0 ?_);simp only[AQ.then,AQ.blk])|refine⟨by omega,?_⟩| (with_reducible refine hKB _ _ _ ?_)|fail)
    exact hKL _ _ _ (k+1,cap) (by omega) (by dsimp only;simp only[aaT,hpN,hyl,hy,Nat.one_ne_zero,if_false];(refine cR [18] (by omega) (by repeat' (first| (with_reducible first|exact C1|refine C2 ?_ ?_)| ((with_reducible refine C0 ?_);exact CQ (by omega) rfl rfl (by rfl) rfl)| ((with_reducible refine D0 ?_);first|exact CA rfl|refine CJ ?_)|fail)) ⟨⟨by simp,by simp[sgL],_,rfl,bP (aG dZ _) rfl rfl⟩,trivial⟩ (by simp[sgL]))) ⟨by dsimp only;omega,by dsimp only;omega⟩ (by dsimp only;omega)
   ·have hn:=abI hlt hw
    repeat' (first| (with_reducible first| (refine hK _ _ _ ?_;clear hK K)| (refine hA ?_;clear hA hB A B)| (refine hB ?_;clear hA hB A B)|refine Z1 ?_|refine Z2 ?_|refine Z3 fun KB hKB=> ?_|refine Z4 (by omega) ?_|refine Z5 (by omega) ?_)| (with_reducible first|refine Y2 fun K hK=> ?_|refine Y3 fun A B hA hB=> ?_)<;>(simp only[go_sem];try simp (disch:=omega) only[Iw])| ((with_reducible refine Y0 ?_);simp only[AQ.then,AQ.blk])|refine⟨by omega,?_⟩| (with_reducible refine hKB _ _ _ ?_)|fail)
    exact hKL _ _ _ (k+1,cap) (by omega) (by simp only[aaT,hpN,hn,h0,if_true];unfold D1.nil;exact bU (by omega) (by repeat' (first| (with_reducible first|exact C1|refine C2 ?_ ?_)| ((with_reducible refine C0 ?_);exact CC)| ((with_reducible refine D0 ?_);first|exact CA rfl|refine CJ ?_)|fail))) ⟨by dsimp only;omega,by dsimp only;rw[hn];omega⟩ (by dsimp only;omega)
  ·have hk2:k=l.length:=by omega
   subst hk2
   rw[List.take_length] at h0
   have hz:=List.length_eq_zero_iff.1 h0
   rw[hz] at hQ
   repeat' (first| (with_reducible first| (refine hK _ _ _ ?_;clear hK K)| (refine hB ?_;clear hA hB A B)|refine Z1 ?_|refine Z5 (by omega) ?_)| (with_reducible first|refine Y2 fun K hK=> ?_|refine Y3 fun A B hA hB=> ?_)<;>(simp only[go_sem])| ((with_reducible refine Y9 ?_);try simp only[AQ.then,AQ.blk,reduceIte,Nat.reduceEqDiff])|fail)
   refine hQX _ _ _ ?_
   refine aM.aqB 0 (en [(5,dS (([]:List Job).map aS))]) .nil (bU (by omega) (oF K6 xG)) ?_
   repeat' (first| (with_reducible first| (refine hK _ _ _ ?_;clear hK K)|refine Z1 ?_)| (first| (with_reducible refine Y2 fun K hK=> ?_)| (refine gY (l:=[]) (by simp) (by simp) (fun m hm=> ?_)))<;>(simp only[go_sem])| ((with_reducible refine Y8 ?_);try simp only[AQ.then,AQ.blk,reduceIte,Nat.reduceEqDiff])|fail)
   exact V4 hQ (dS _) _ rfl (yP (l:=[]) dZ rfl rfl (Nat.le_refl _) trivial) rfl rfl
 ·simp only[aaT,hpN,show ¬(fS (l.take k) who).length=0 by omega,if_false]
  by_cases hlt:k<l.length
  ·by_cases hw:(l.getD k default).who=who
   ·have hy:=WA hlt hw
    have hyl:=congrArg List.length hy
    simp only[List.length_append,List.length_cons,List.length_nil] at hyl
    have hy2:=congrArg (List.map aS) hy
    repeat' (first| (with_reducible first| (refine hK _ _ _ ?_;clear hK K)| (refine hA ?_;clear hA hB A B)|refine Z1 ?_|refine Z2 ?_|refine Z3 fun KB hKB=> ?_|refine Z4 (by omega) ?_|refine fun(cap:Nat) (hcap:_≤cap)=> ?_|refine fun(hcp:_≤cap)=> ?_)| (with_reducible first|refine Y2 fun K hK=> ?_|refine Y3 fun A B hA hB=> ?_)<;>(simp only[go_sem];try simp (disch:=omega) only[Iw])| ((with_reducible refine Y0 ?_);simp only[AQ.then,AQ.blk])|refine⟨by omega,?_⟩| (with_reducible refine hKB _ _ _ ?_)|fail)
    exact hKL _ _ _ (k+1,cap) (by omega) (by simp only[aaT,hpN,show ¬(fS (l.take (k+1)) who).length=0 by omega,if_false];(refine cR [18] (by omega) (by repeat' (first| (with_reducible first|exact C1|refine C2 ?_ ?_)| ((with_reducible refine C0 ?_);exact CQ (by omega) rfl rfl (by omega) rfl)| ((with_reducible refine D0 ?_);first|exact CA rfl|refine CJ ?_)|fail)) ⟨⟨by simp,by simp[sgL],_,rfl,bP (aG dZ _) hy2 rfl⟩,trivial⟩ (by simp[sgL]))) ⟨by dsimp only;omega,by dsimp only;omega⟩ (by dsimp only;omega)
   ·have hn:=abI hlt hw
    repeat' (first| (with_reducible first| (refine hK _ _ _ ?_;clear hK K)| (refine hA ?_;clear hA hB A B)| (refine hB ?_;clear hA hB A B)|refine Z1 ?_|refine Z2 ?_|refine Z3 fun KB hKB=> ?_|refine Z4 (by omega) ?_|refine Z5 (by omega) ?_)| (with_reducible first|refine Y2 fun K hK=> ?_|refine Y3 fun A B hA hB=> ?_)<;>(simp only[go_sem];try simp (disch:=omega) only[Iw])| ((with_reducible refine Y0 ?_);simp only[AQ.then,AQ.blk])|refine⟨by omega,?_⟩| (with_reducible refine hKB _ _ _ ?_)|fail)
    exact hKL _ _ _ (k+1,cap) (by omega) (by simp only[aaT,hpN,hn,show ¬(fS (l.take k) who).length=0 by omega,if_false];(refine cR [5] (by omega) (by repeat' (first| (with_reducible first|exact C1|refine C2 ?_ ?_)| ((with_reducible refine C0 ?_);exact CQ (by omega) rfl rfl (by rfl) rfl)| ((with_reducible refine D0 ?_);first|exact CA rfl|refine CJ ?_)|fail)) ⟨⟨by simp,by simp[sgL],_,rfl,bP (aG dZ _) rfl rfl⟩,trivial⟩ (by simp[sgL]))) ⟨by dsimp only;omega,by dsimp only;rw[hn];omega⟩ (by dsimp only;omega)
  ·have hk2:k=l.length:=by omega
   subst hk2
   rw[List.take_length] at*
   repeat' (first| (with_reducible first| (refine hK _ _ _ ?_;clear hK K)| (refine hB ?_;clear hA hB A B)|refine Z1 ?_|refine Z5 (by omega) ?_)| (with_reducible first|refine Y2 fun K hK=> ?_|refine Y3 fun A B hA hB=> ?_)<;>(simp only[go_sem])| ((with_reducible refine Y9 ?_);try simp only[AQ.then,AQ.blk,reduceIte,Nat.reduceEqDiff])|fail)
   refine hQX _ _ _ ?_
   refine aM.aqB 0 (en [(5,dS ((fS l who).map aS))]) .nil (bU (by omega) (oF K6 (yP dZ rfl rfl (by omega) trivial))) ?_
   repeat' (first| (with_reducible first| (refine hK _ _ _ ?_;clear hK K)|refine Z1 ?_)| (first| (with_reducible refine Y2 fun K hK=> ?_)| (refine gY (l:=fS l who) (by omega) hmd (fun m hm=> ?_)))<;>(simp only[go_sem])| ((with_reducible refine Y8 ?_);try simp only[AQ.then,AQ.blk,reduceIte,Nat.reduceEqDiff])|fail)
   exact V4 hQ (dS _) _ rfl (yP dZ rfl rfl (Nat.le_refl _) trivial) rfl rfl
theorem anE {l:List Job} {who:Int} (hl:l.length<2^20) (hd: ∀j∈l,j.rsp.data.length<2^20) (h:K (dS ((fS l who).map aS)) H nx):aB Tryz.prog zR [dS (l.map aS),dI who] H nx K:=
 (VD l who hl hd).fresh rfl fun r hr=>hr▸h
end
end Go.Proofs.YtegiblhkjfiooaaGreat
end
section
namespace Go.AM
open Go.RowKit
def asV (k:IntKind) (w:World) (a:Option Addr) (len cap:Nat) (zs:List Int):Prop:=
 (a=none∧len=0∧cap=0∧zs=[])∨
 ∃x,a=some x∧len≤cap∧cap≤maxLen∧zs.length=cap∧(∀i,i<zs.length→w.cell? (x.add i)=some (.int k (zs.getD i 0)))∧ ∀n∈zs,(Lit.int k n).wf=true
theorem abA {P:Program} {f:FuncId} {l:List Int} {w:World} {v:Value} {I:Nat→Prop} (h:aB P f [dS (l.map eU8)] .nil 0 fun rr _ _=>rr.plain=true∧rr=dB true) (hI: ∀b,I b→b<w.heap.size) (hv:Imm I w (.isl (l.map eU8)) v):
 Calls P f #[v] w fun e w'=>e= .returned (.bool true)∧Below w.heap.size w w':=by
 have hno: ∀b,¬uG ⟨fun _=>(0,0),fun _=>False,I,w⟩ .nil b:=by rintro b ⟨id,o,h,_⟩;cases h
 have hst:St ⟨fun _=>(0,0),fun _=>False,I,w⟩ .nil:=⟨fun id o h=>(by cases h),fun id o h=>(by cases h),fun id o h=>(by cases h),fun id o i j r d h=>(by cases h),fun id id' o o' h=>(by cases h),fun id o h=>(by cases h),hI⟩
 refine(h.2 ⟨fun _=>(0,0),fun _=>False,I,w⟩ [v] hst (fun i hi=>hi.elim) rfl (fun i d u h1 h2=> ?_)).mono ?_
 ·match i with
  |0=>simp at h1 h2;subst h1;subst h2;exact hv
  |i+1=>simp at h1
 ·rintro x w' ⟨u,c',r,H',nx',rfl,rfl,p1,p2,p3,p4,p5,p6,rfl⟩
  have hu:u= .bool true:=by
   simp only[fD,jZ,Rel,bY] at p5
   cases p5;rfl
  subst hu
  exact⟨rfl,p2.os,p2.tape,p2.output,p2.size,fun k hk=>p2.frame k hk (hno k)⟩
theorem atQ {P:Program} {f:FuncId} (h: ∀l:List Int,(∀x∈l,0≤x∧x<256)→aB P f [dS (l.map eU8)] .nil 0 fun rr _ _=>rr.plain=true∧rr=dB true) (az5:Option Addr) (len0 cap0:Nat) (z0:List Int) (w:World) (w0:asV .u8 w az5 len0 cap0 z0):
 Calls P f #[.slice az5 len0 cap0] w fun e w'=>e= .returned (.bool true)∧Below w.heap.size w w':=by
 rcases w0 with⟨rfl,rfl,rfl,rfl⟩|⟨x,rfl,hl,hm,hz,hc,hw⟩
 ·refine abA (I:=fun _=>False) (h [] (fun x hx=>by cases hx)) (fun b hb=>hb.elim) ?_
  exact .isl [] none 0 1 0 0 (fun _ _=>.int .u8 0) (fun h=>absurd rfl h) (Nat.le_refl _) (fun i r h=>by simp at h) (fun i j r d h=>by simp at h) (fun i j r d h=>by simp at h)
 ·have hlt:(z0.take len0).length=len0:=by simp;omega
  have hby: ∀y∈z0.take len0,0≤y∧y<256:=fun y hy=>by
   have:=bounds_u8 (hw y (List.take_subset _ _ hy));omega
  refine abA (I:=fun b=>b=x.block∧0<len0) (h (z0.take len0) hby) (fun b hb=> ?_) ?_
  ·obtain⟨rfl,h0⟩:=hb
   have:=World.block_lt_of_cell? w _ (hc 0 (by omega))
   simpa [Addr.add] using this
  ·have key:=Imm.isl (I:=fun b=>b=x.block∧0<len0) (w:=w) ((z0.take len0).map eU8) (some x) cap0 1 x.block x.off (fun i _=>.int .u8 (z0.getD i 0)) (fun hne=> ?_) (by simp;omega) (fun i r hr=> ?_) (fun i j r d hr hd=> ?_) (fun i j r d hr hd=> ?_)
   ·rw[List.length_map,hlt] at key;exact key
   ·have h0:0<len0:=by
     rcases Nat.eq_zero_or_pos len0 with h0|h0
     ·subst h0;exact absurd (by simp) hne
     ·exact h0
    have hsp:=World.cell?_spot (hc 0 (by omega))
    refine⟨?_,rfl,h0⟩
    obtain⟨b,o,s⟩:=x
    simp only[Addr.add,if_true] at hsp
    subst hsp
    rfl
   ·obtain⟨y,_,rfl⟩:=List.mem_map.1 (List.mem_of_getElem? hr)
    rfl
   ·rw[List.getElem?_map] at hr
    obtain⟨y,hy,rfl⟩:=Option.map_eq_some_iff.1 hr
    match j with
    |0=>
     have hi:i<len0:=by have:=(List.getElem?_eq_some_iff.1 hy).1;omega
     have h1:=hc i (by omega)
     have hsp:=World.cell?_spot (hc 0 (by omega))
     obtain⟨b,o,s⟩:=x
     simp only[Addr.add,if_true] at hsp
     subst hsp
     have e:(Addr.mk b o none).add i=⟨b,o+(i*1+0),none⟩:=by
      unfold Addr.add
      split
      ·rename_i h;subst h;simp
      ·simp
     rw[e] at h1
     exact h1
    |j+1=>simp[eU8] at hd
   ·rw[List.getElem?_map] at hr
    obtain⟨y,hy,rfl⟩:=Option.map_eq_some_iff.1 hr
    match j with
    |0=>
     simp only[eU8,List.getElem?_cons_zero,Option.some.injEq] at hd
     subst hd
     have hyz:y=z0.getD i 0:=by
      rw[List.getElem?_take] at hy
      split at hy
      ·simp[List.getD,hy]
      ·cases hy
     subst hyz
     exact .v _ rfl
    |j+1=>simp[eU8] at hd
end Go.AM
end
