/- Texts laid together by a program: rules, contracts and the walk that leads to the law. -/
import Derived.Test.YtegiblhkjfiooaaGreatPu9
import Derived.Test.YtegiblhkjfiooaaGreatPu8
import Derived.Test.YtegiblhkjfiooaaGreatPu3
set_option linter.unusedVariables false
set_option linter.unusedSimpArgs false
set_option linter.unusedSectionVars false
section
namespace Go.Proofs.YtegiblhkjfiooaaGreat
open Go Go.AM
set_option maxRecDepth 100000
set_option maxHeartbeats 4000000
section
variable {H : aA} {nx : Nat} {K : D → aA → Nat → Prop}
theorem aw3 (c:Cfg) (who n:Int) (hc:jO c) (hp:c.cP.length=3):aB Tryz.prog at3 [dA (cU c),dI who,dI n] .nil 0 fun rr _ _=>rr.plain=true∧rr=dB (decide (oA c who n)):=by
 refine awU rfl fun Q hQ=> ?_
 unfold auT
 have hb:=hc.at who.toNat
 repeat' (first| (with_reducible first| (refine hK _ _ _ ?_;clear hK K)|refine Z1 ?_)| (first| (with_reducible first|refine Y2 fun K hK=> ?_|refine Y6 (fun h=> ?_) fun h=> ?_)| (with_reducible refine oR ?_)| (with_reducible refine fE ?_))<;>(simp only[go_sem];try simp (disch:=omega) only[Iw])| ((with_reducible refine Y8 ?_);try simp only[AQ.then,AQ.blk,reduceIte,Nat.reduceEqDiff])|refine⟨by omega,?_⟩|fail)
 all_goals first|with_reducible refine aZ hQ _ rfl rfl ?_|skip
 all_goals first|exact pD (by unfold oA;omega)|exact j7 (by unfold oA;omega)
theorem auJ {c:Cfg} {who:Int} {n:Int} (hc:jO c) (hp:c.cP.length=3) (h:K (dB (decide (oA c who n))) H nx):aB Tryz.prog at3 [dA (cU c),dI who,dI n] H nx K:=
 (aw3 c who n hc hp).pure rfl (aI ⟨aE rfl,aE rfl,aE rfl,trivial⟩) (fun r hr=>hr▸h)
theorem L0 (c:Cfg) (who n:Int) (hp:c.cP.length=3) (ha:oA c who n):aB Tryz.prog fB [dA (cU c),dI who,dI n] .nil 0 fun rr _ _=>rr.plain=true∧rr=dI (bT c who n).id:=by
 refine KX rfl fun Q hQ=> ?_
 unfold rD
 obtain⟨ha1,ha2,ha3⟩:=ha
 repeat' (first| (with_reducible first| (refine hK _ _ _ ?_;clear hK K)|refine Z1 ?_)| (with_reducible refine Y2 fun K hK=> ?_)<;>(simp only[go_sem])| ((with_reducible refine Y8 ?_);try simp only[AQ.then,AQ.blk,reduceIte,Nat.reduceEqDiff])|refine⟨by omega,?_⟩|fail)
 all_goals first|with_reducible refine aZ hQ _ rfl rfl ?_|skip
 all_goals first|rfl|exact qA (by omega)
theorem iJ {c:Cfg} {who:Int} {n:Int} (hp:c.cP.length=3) (ha:oA c who n) (h:K (dI (bT c who n).id) H nx):aB Tryz.prog fB [dA (cU c),dI who,dI n] H nx K:=
 (L0 c who n hp ha).pure rfl (aI ⟨aE rfl,aE rfl,aE rfl,trivial⟩) (fun r hr=>hr▸h)
theorem axW (j:Job) (who n:Int):aB Tryz.prog avA [dA (aS j),.one (.c (.fQ [cI who])),.one (.c (.fQ [cI n]))] .nil 0 fun rr _ _=>rr.plain=true∧rr=dB (iM who n j):=by
 refine axO rfl fun Q hQ=> ?_
 unfold avO
 repeat' (first| (with_reducible first| (refine hK _ _ _ ?_;clear hK K)|refine Z1 ?_)| (with_reducible first|refine Y2 fun K hK=> ?_|refine Y6 (fun h=> ?_) fun h=> ?_)<;>(simp only[go_sem])| ((with_reducible refine Y8 ?_);try simp only[AQ.then,AQ.blk,reduceIte,Nat.reduceEqDiff])|fail)
 all_goals first|with_reducible refine aZ hQ _ rfl rfl ?_|skip
 all_goals first|exact q9 (by grind)|exact j7 (by grind)|exact pD (by grind)
theorem ax9 {j:Job} {who:Int} {n:Int} (h:K (dB (iM who n j)) H nx):aB Tryz.prog avA [dA (aS j),.one (.c (.fQ [cI who])),.one (.c (.fQ [cI n]))] H nx K:=
 (axW j who n).pure rfl (aI ⟨aE rfl,aE rfl,aE rfl,trivial⟩) (fun r hr=>hr▸h)
theorem ayW (l:List Job) (who n:Int) (hl:l.length<2^40):aB Tryz.prog auK [dS (l.map aS),dI who,dI n] .nil 0 fun rr _ _=>rr.plain=true∧rr=dI (bK (iM who n) l):=by
 refine ayD rfl fun Q hQ=> ?_
 unfold av3
 repeat' (first| (with_reducible first| (refine hK _ _ _ ?_;clear hK K)|refine Z1 ?_)| (first| (with_reducible refine Y2 fun K hK=> ?_)| (refine at6 (l:=l) (caps:=[.fQ [cI who],.fQ [cI n]]) (p:=iM who n) hl rfl (aE rfl) (PR ⟨zE rfl trivial rfl rfl rfl,zE rfl trivial rfl rfl rfl,trivial⟩) (fun x _ H nx K h=>ax9 h) ?_))<;>(simp only[go_sem])| ((with_reducible refine Y8 ?_);try simp only[AQ.then,AQ.blk,reduceIte,Nat.reduceEqDiff])|fail)
 all_goals first|with_reducible refine aZ hQ _ rfl rfl ?_|skip
 all_goals first|rfl|exact qA (by omega)
theorem avT {l:List Job} {who:Int} {n:Int} (hl:l.length<2^40) {d0:D} (hd0:CvD H (fun _=>True) id 0 (dS (l.map aS)) d0) (h:K (dI (bK (iM who n) l)) H nx):aB Tryz.prog auK [d0,dI who,dI n] H nx K:=
 (ayW l who n hl).pure rfl (aI ⟨hd0,aE rfl,aE rfl,trivial⟩) (fun r hr=>hr▸h)
theorem awJ (c:Cfg) (e:Ev) (j:Job) (hp:c.cP.length=3) (ha:oA c e.who e.n) (hj:j.who=e.who→j.n<e.n→oA c j.who j.n):aB Tryz.prog at5 [dA (aS j),.one (.c (.fQ (eEv e))),.one (.c (.fQ (cU c)))] .nil 0 fun rr _ _=>rr.plain=true∧rr=dB (adI c e j):=by
 refine awC rfl fun Q hQ=> ?_
 unfold auI
 repeat' (first| (with_reducible first| (refine hK _ _ _ ?_;clear hK K)|refine Z1 ?_)| (first| (with_reducible first|refine Y2 fun K hK=> ?_|refine Y6 (fun h=> ?_) fun h=> ?_)| (with_reducible refine iJ hp ha ?_)| (with_reducible refine iJ hp (hj (by omega) (by omega)) ?_))<;>(simp only[go_sem])| ((with_reducible refine Y8 ?_);try simp only[AQ.then,AQ.blk,reduceIte,Nat.reduceEqDiff])|fail)
 all_goals first|with_reducible refine aZ hQ _ rfl rfl ?_|skip
 all_goals first|exact j7 (by grind)|exact pD (by grind)
theorem awI {c:Cfg} {e:Ev} {j:Job} (hp:c.cP.length=3) (ha:oA c e.who e.n) (hj:j.who=e.who→j.n<e.n→oA c j.who j.n) (h:K (dB (adI c e j)) H nx):aB Tryz.prog at5 [dA (aS j),.one (.c (.fQ (eEv e))),.one (.c (.fQ (cU c)))] H nx K:=
 (awJ c e j hp ha hj).pure rfl (aI ⟨aE rfl,aE rfl,aE rfl,trivial⟩) (fun r hr=>hr▸h)
theorem awZ (c:Cfg) (e:Ev) (l:List Job) (hl:l.length<2^40) (hp:c.cP.length=3) (ha:oA c e.who e.n) (hj: ∀j∈l,j.who=e.who→j.n<e.n→oA c j.who j.n):aB Tryz.prog atY [dA (cU c),dS (l.map aS),dA (eEv e)] .nil 0 fun rr _ _=>rr.plain=true∧rr=dB (decide (0≤bK (adI c e) l)):=by
 refine awL rfl fun Q hQ=> ?_
 unfold auO
 repeat' (first| (with_reducible first| (refine hK _ _ _ ?_;clear hK K)|refine Z1 ?_)| (first| (with_reducible refine Y2 fun K hK=> ?_)| (refine auS (l:=l) (caps:=[.fQ (eEv e),.fQ (cU c)]) (p:=adI c e) hl rfl (aE rfl) (PR ⟨zE rfl trivial rfl rfl rfl,zE rfl trivial rfl rfl rfl,trivial⟩) (fun x hx H nx K h=>awI hp ha (hj x hx) h) ?_))<;>(simp only[go_sem])| ((with_reducible refine Y8 ?_);try simp only[AQ.then,AQ.blk,reduceIte,Nat.reduceEqDiff])|fail)
 all_goals first|with_reducible refine aZ hQ _ rfl rfl ?_|skip
 all_goals first|exact pD (by omega)|exact q9 (by omega)|exact j7 (by omega)|rfl
theorem avQ {c:Cfg} {e:Ev} {l:List Job} (hl:l.length<2^40) (hp:c.cP.length=3) (ha:oA c e.who e.n) (hj: ∀j∈l,j.who=e.who→j.n<e.n→oA c j.who j.n) {d1:D} (hd1:CvD H (fun _=>True) id 0 (dS (l.map aS)) d1) (h:K (dB (decide (0≤bK (adI c e) l))) H nx):aB Tryz.prog atY [dA (cU c),d1,dA (eEv e)] H nx K:=
 (awZ c e l hl hp ha hj).pure rfl (aI ⟨aE rfl,hd1,aE rfl,trivial⟩) (fun r hr=>hr▸h)
end
end Go.Proofs.YtegiblhkjfiooaaGreat
end
section
namespace Go.Proofs.YtegiblhkjfiooaaGreat
open Go Go.AM
set_option maxRecDepth 100000
set_option maxHeartbeats 4000000
attribute [go_sem] List.length_set
section
variable {H : aA} {nx : Nat} {K : D → aA → Nat → Prop}
theorem OV (a:Int):aB Tryz.prog lG [dI a] .nil 0 fun rr _ _=>rr.plain=true∧rr=dB false:=by
 refine MP rfl fun Q hQ=> ?_
 unfold sW
 repeat' (first| (with_reducible first| (refine hK _ _ _ ?_;clear hK K)|refine Z1 ?_)| (with_reducible refine Y2 fun K hK=> ?_)<;>(simp only[go_sem])| ((with_reducible refine Y8 ?_);try simp only[AQ.then,AQ.blk,reduceIte,Nat.reduceEqDiff])|fail)
 all_goals first|with_reducible refine aZ hQ _ rfl rfl ?_|skip
 all_goals first|rfl|simp
theorem PG {a:Int} (h:K (dB false) H nx):aB Tryz.prog lG [dI a] H nx K:=
 (OV a).pure rfl (aI ⟨aE rfl,trivial⟩) (fun r hr=>hr▸h)
def UI (a b:Int):Int:=if a<b then-1 else if a>b then 1 else 0
theorem J0 (a b:Int):aB Tryz.prog jC [dI a,dI b] .nil 0 fun rr _ _=>rr.plain=true∧rr=dI (UI a b):=by
 refine JR rfl fun Q hQ=> ?_
 unfold pI
 repeat' (first| (with_reducible first| (refine hK _ _ _ ?_;clear hK K)| (refine hA ?_;clear hA hB A B)| (refine hB ?_;clear hA hB A B)|refine Z1 ?_|refine Z2 ?_|refine Z6 (fun h=> ?_) fun h=> ?_)| (first| (with_reducible first|refine Y2 fun K hK=> ?_|refine Y3 fun A B hA hB=> ?_)| (with_reducible refine PG ?_))<;>(simp only[go_sem])| ((with_reducible refine Y8 ?_);try simp only[AQ.then,AQ.blk,reduceIte,Nat.reduceEqDiff])|fail)
 all_goals first|with_reducible refine aZ hQ _ rfl rfl ?_|skip
 all_goals exact qA (by unfold UI;grind)
theorem KI {a:Int} {b:Int} (h:K (dI (UI a b)) H nx):aB Tryz.prog jC [dI a,dI b] H nx K:=
 (J0 a b).pure rfl (aI ⟨aE rfl,aE rfl,trivial⟩) (fun r hr=>hr▸h)
def orI (a b:Int):Int:=if a≠0 then a else b
theorem XG (a b:Int):aB Tryz.prog wC [dS [aJ a,aJ b]] .nil 0 fun rr _ _=>rr.plain=true∧rr=dI (orI a b):=by
 refine T8 rfl fun Q hQ=> ?_
 unfold z6
 obtain⟨l,hl⟩: ∃l,l=[a,b]:=⟨_,rfl⟩
 have he:[aJ a,aJ b]=l.map aJ:=by rw[hl];rfl
 have hlen:l.length=2:=by rw[hl];rfl
 rw[he]
 repeat' (first| (with_reducible first| (refine hK _ _ _ ?_;clear hK K)|refine Z1 ?_|refine Z3 fun KB hKB=> ?_)| (with_reducible refine Y2 fun K hK=> ?_)<;>(simp only[go_sem])|fail)
 (have hKX:=hKB;clear hKB);(refine aM.loop (α:={k:Nat//k≤2∧(∀i,i<k→l.getD i default=0)}) (fun u=>en [(8,dI u.1),(7,dI 2),(6,dS (l.map aJ)),(3,dI 0)]) (fun _=>.nil) _ (fun u=>2-u.1) ⟨0,by omega,(by intros;first|trivial|omega)⟩ (bU (Nat.le_refl _) (by repeat' (first| (with_reducible first|exact C1|refine C2 ?_ ?_)| ((with_reducible refine C0 ?_);(exact CG (by(congr 2;omega)) rfl))| ((with_reducible refine D0 ?_);first|exact CA rfl|refine CJ ?_)|fail))) ?_);(rintro⟨k,hk,hinv⟩ KL hKL)
 by_cases hlt:k<2
 ·repeat' (first| (with_reducible first| (refine hK _ _ _ ?_;clear hK K)| (refine hA ?_;clear hA hB A B)| (refine hB ?_;clear hA hB A B)|refine Z1 ?_|refine Z2 ?_|refine Z3 fun KB hKB=> ?_|refine Z4 (by omega) ?_|refine Z6 (fun h=> ?_) fun h=> ?_)| (with_reducible first|refine Y2 fun K hK=> ?_|refine Y3 fun A B hA hB=> ?_)<;>(simp only[go_sem];try simp (disch:=omega) only[Iw])| ((with_reducible refine Y8 ?_);try simp only[AQ.then,AQ.blk,reduceIte,Nat.reduceEqDiff])| ((with_reducible refine Y0 ?_);simp only[AQ.then,AQ.blk])|refine⟨by omega,?_⟩| (with_reducible refine hKB _ _ _ ?_)|fail)
  ·refine aZ hQ (dI _) rfl rfl (qA ?_)
   have hk:k=0∨k=1:=by omega
   have h0:=hinv 0
   rcases hk with rfl|rfl<;>simp[hl,List.getD] at* <;>simp_all [orI]
  · (refine hKL _ _ _ ⟨k+1,by omega,iS hinv (by omega)⟩ (by omega) (by(try dsimp only);omega) (bU (Nat.le_refl _) (by repeat' (first| (with_reducible first|exact C1|refine C2 ?_ ?_)| ((with_reducible refine D0 ?_);exact CA rfl)|fail))))
 ·repeat' (first| (with_reducible first| (refine hK _ _ _ ?_;clear hK K)| (refine hB ?_;clear hA hB A B)|refine Z1 ?_|refine Z5 (by omega) ?_|refine hKX _ _ _ ?_)| (with_reducible first|refine Y2 fun K hK=> ?_|refine Y3 fun A B hA hB=> ?_)<;>(simp only[go_sem])| ((with_reducible first|refine Y8 ?_|refine Y9 ?_);try simp only[AQ.then,AQ.blk,reduceIte,Nat.reduceEqDiff])|fail)
  refine aZ hQ (dI _) rfl rfl (qA ?_)
  have h0:=hinv 0 (by omega)
  have h1:=hinv 1 (by omega)
  simp[hl,List.getD] at* <;>simp_all [orI]
theorem WX {a:Int} {b:Int} {d0:D} (hd0:CvD H (fun _=>True) id 0 (dS [aJ a,aJ b]) d0) (h:K (dI (orI a b)) H nx):aB Tryz.prog wC [d0] H nx K:=
 (XG a b).pure rfl (aI ⟨hd0,trivial⟩) (fun r hr=>hr▸h)
def ad5 (a b:Job):Int:=orI (UI a.who b.who) (UI a.n b.n)
theorem E7 {a b:Job}:ad5 a b<0↔uL a b=true:=by
 rw[qL];unfold ad5 orI UI;grind
theorem JK (a b:Job):aB Tryz.prog bJ [dA (aS a),dA (aS b)] .nil 0 fun rr _ _=>rr.plain=true∧rr=dI (ad5 a b):=by
 refine HI rfl fun Q hQ=> ?_
 unfold nP
 repeat' (first| (with_reducible first| (refine hK _ _ _ ?_;clear hK K)|refine Z1 ?_)| (first| (with_reducible refine Y2 fun K hK=> ?_)| (with_reducible refine KI ?_)| (refine WX (DJ (rows:=[aJ (UI a.who b.who),aJ (UI a.n b.n)]) (aG bF [UI a.who b.who,UI a.n b.n]) rfl trivial rfl rfl rfl (Nat.le_refl 2)) ?_))<;>(simp only[go_sem])| ((with_reducible refine Y8 ?_);try simp only[AQ.then,AQ.blk,reduceIte,Nat.reduceEqDiff])|fail)
 all_goals first|with_reducible refine aZ hQ _ rfl rfl ?_|skip
 all_goals first|rfl|exact qA (by omega)
theorem xM {a:Job} {b:Job} (h:K (dI (ad5 a b)) H nx):aB Tryz.prog bJ [dA (aS a),dA (aS b)] H nx K:=
 (JK a b).pure rfl (aI ⟨aE rfl,aE rfl,trivial⟩) (fun r hr=>hr▸h)
theorem BI (l:List Int) (hl:l.length<2^20):aB Tryz.prog gO [dS (l.map aJ)] (hp []) 0
 fun r H' n'=>∃cap,l.length≤cap∧n'=1∧H'=hp [(0,⟨1,cap,l.map aJ⟩)]∧r=dO 1 0 l.length cap:=by
 refine zU rfl fun Q hQ=> ?_
 unfold jL
 refine aM.seq (aM.EJ 1 ?_)
 repeat' (first| (with_reducible first| (refine hK _ _ _ ?_;clear hK K)| (refine hA ?_;clear hA hB A B)| (refine hB ?_;clear hA hB A B)|refine Z1 ?_|refine Z2 ?_|refine Z7 (fun h=> ?_) fun h=> ?_|refine fun(cap:Nat) (hcap:_≤cap)=> ?_|refine fun(hcp:_≤cap)=> ?_|refine fun(b:Bool)=> ?_)| (with_reducible first|refine Y2 fun K hK=> ?_|refine Y3 fun A B hA hB=> ?_)<;>(simp only[go_sem])| ((with_reducible refine Y8 ?_);try simp only[AQ.then,AQ.blk,reduceIte,Nat.reduceEqDiff])| ((with_reducible refine Z8 (fun h=> ?_) (fun h=> ?_))<;>try subst h)|refine⟨by omega,?_⟩|fail)
 all_goals first
  | (have hcap':=Nat.le_refl cap
     (refine hQ _ _ _ _ _ 1 (dO 1 0 l.length cap) (hp [(0,⟨1,cap,l.map aJ⟩)]) _ _ (.inr rfl) rfl (fU [6] (by omega) (by repeat' (first| ((with_reducible refine C0 ?_);exact CQ (by omega) rfl rfl (by rfl) rfl)| ((with_reducible refine D0 ?_);refine CJ ?_)|fail)) ⟨⟨by simp,by simp[sgL],_,rfl,bP (aG bF _) rfl rfl⟩,trivial⟩ (by simp[sgL])) ?_)
     exact⟨cap,by omega,rfl,rfl,rfl⟩)
  | (have h0:l=[]:=List.eq_nil_of_length_eq_zero (by omega)
     subst h0
     (refine hQ _ _ _ _ _ 1 (dO 1 0 0 0) (hp [(0,⟨1,0,([]:List Int).map aJ⟩)]) _ _ (.inr rfl) rfl (fU [0] (by omega) (by repeat' (first| ((with_reducible refine C0 ?_);exact CC)| ((with_reducible refine D0 ?_);refine CJ ?_)|fail)) ⟨⟨by simp,by simp[sgL],_,rfl,bP (aG bF _) rfl rfl⟩,trivial⟩ (by simp[sgL])) ?_)
     exact⟨0,Nat.le_refl _,rfl,rfl,rfl⟩)
theorem A1 {l:List Int} (hl:l.length<2^20) (h: ∀cap,l.length≤cap→K (dO 1 nx l.length cap) (H.set nx ⟨1,cap,l.map aJ⟩) (nx+1)):aB Tryz.prog gO [dS (l.map aJ)] H nx K:=by
 refine(BI l hl).AF (l0:=[]) [] rfl ⟨aE rfl,trivial⟩ trivial (by simp) (by simp) (by simp) fun r H' n' _ ⟨cap,q0,q1,q2,q3⟩=> ?_
 have h:=h cap q0
 subst q1;subst q2;subst q3
 have e1:back (tau 0 nx (nth [])) (hp [(0,⟨1,cap,l.map aJ⟩)]) 1 H=H.set nx ⟨1,cap,l.map aJ⟩:=by
  simp only[back,hp,aA.set,tau,Nat.not_lt_zero,if_true,if_false,Nat.sub_zero,Nat.add_zero,Option.map_some,uB,aA.eL]
 rw[←e1] at h
 exact h
theorem B2 (l:List Int) (cap m:Nat) (hl:l.length<2^20) (hc:l.length≤cap):aB Tryz.prog iD [dO 1 0 l.length cap] (hp [(0,⟨1,m,l.map aJ⟩)]) 1
 fun r H' n'=>n'=1∧ ∃o',H'=hp [(0,o')]∧C7 o'∧o'=⟨1,m,l.map aJ⟩∧r=dO 1 0 l.length l.length:=by
 refine BK rfl fun Q hQ=> ?_
 unfold kB
 repeat' (first| (with_reducible first| (refine hK _ _ _ ?_;clear hK K)|refine Z1 ?_)| (with_reducible refine Y2 fun K hK=> ?_)<;>(simp only[go_sem])| ((with_reducible refine Y8 ?_);try simp only[AQ.then,AQ.blk,reduceIte,Nat.reduceEqDiff])|refine⟨by omega,?_⟩|fail)
 exact lA hQ (dO 1 0 l.length l.length) _ _ rfl (by repeat' (first| ((with_reducible refine C0 ?_);exact CQ (by omega) rfl rfl (by rfl) rfl)| ((with_reducible refine D0 ?_);refine CJ ?_)|fail)) rfl (oB bF _) ⟨rfl,rfl⟩
theorem BY {l:List Int} {cap m i:Nat} (hl:l.length<2^20) (hc:l.length≤cap) (hi:i<nx) (ho:H i=some ⟨1,m,l.map aJ⟩) (h:K (dO 1 i l.length l.length) (H.set i ⟨1,m,l.map aJ⟩) nx):
 aB Tryz.prog iD [dO 1 i l.length cap] H nx K:=
 (B2 l cap m hl hc).OU i rfl (gW ⟨qS (by omega) rfl rfl rfl rfl,trivial⟩) hi ho (oB bF _) fun r o' ⟨h1,h2⟩=>by
  subst h1;subst h2;exact h
theorem NI (l:List Int) (hl:l.length<2^20):aB Tryz.prog eX [dS (l.map aJ)] (hp []) 0
 fun r H' n'=>∃cap,l.length≤cap∧n'=1∧H'=hp [(0,⟨1,cap,l.map aJ⟩)]∧r=dO 1 0 l.length l.length:=by
 refine LI rfl fun Q hQ=> ?_
 unfold rI
 repeat' (first| (with_reducible first| (refine hK _ _ _ ?_;clear hK K)|refine Z1 ?_)| (first| (with_reducible refine Y2 fun K hK=> ?_)| (refine A1 hl (fun cap hcap=> ?_))| (refine BY hl hcap (by omega) rfl ?_))<;>(simp only[go_sem])| ((with_reducible refine Y8 ?_);try simp only[AQ.then,AQ.blk,reduceIte,Nat.reduceEqDiff])|fail)
 (refine hQ _ _ _ _ _ 1 (dO 1 0 l.length l.length) (hp [(0,⟨1,cap,l.map aJ⟩)]) _ _ (.inr rfl) rfl (fU [5] (by omega) (by repeat' (first| ((with_reducible refine C0 ?_);exact CQ (by omega) rfl rfl (by rfl) rfl)| ((with_reducible refine D0 ?_);refine CJ ?_)|fail)) ⟨⟨by simp,by simp[sgL],_,rfl,bP (aG bF _) rfl rfl⟩,trivial⟩ (by simp[sgL])) ?_)
 exact⟨cap,hcap,rfl,rfl,rfl⟩
theorem kH {l:List Int} (hl:l.length<2^20) (h: ∀m,l.length≤m→K (dO 1 nx l.length l.length) (H.set nx ⟨1,m,l.map aJ⟩) (nx+1)):aB Tryz.prog eX [dS (l.map aJ)] H nx K:=by
 refine(NI l hl).AF (l0:=[]) [] rfl ⟨aE rfl,trivial⟩ trivial (by simp) (by simp) (by simp) fun r H' n' _ ⟨cap,q0,q1,q2,q3⟩=> ?_
 have h:=h cap q0
 subst q1;subst q2;subst q3
 have e1:back (tau 0 nx (nth [])) (hp [(0,⟨1,cap,l.map aJ⟩)]) 1 H=H.set nx ⟨1,cap,l.map aJ⟩:=by
  simp only[back,hp,aA.set,tau,Nat.not_lt_zero,if_true,if_false,Nat.sub_zero,Nat.add_zero,Option.map_some,uB,aA.eL]
 rw[←e1] at h
 exact h
theorem BB {τ:Nat→Nat} {n m:Nat} {l:List Job}:bA.rn τ ⟨n,m,l.map aS⟩=⟨n,m,l.map aS⟩:=by
 refine rF fun r hr x hx=> ?_
 obtain⟨y,_,rfl⟩:=List.mem_map.1 hr
 exact List.all_eq_true.1 (dZ y).2 x hx
theorem uW (l:List Job) (hl:l.length<2^20):aB Tryz.prog eG [dS (l.map aS)] (hp []) 0
 fun r H' n'=>∃cap,l.length≤cap∧n'=1∧H'=hp [(0,⟨5,cap,l.map aS⟩)]∧r=dO 5 0 l.length cap:=by
 refine s9 rfl fun Q hQ=> ?_
 unfold gC
 refine aM.seq (aM.EJ 5 ?_)
 repeat' (first| (with_reducible first| (refine hK _ _ _ ?_;clear hK K)| (refine hA ?_;clear hA hB A B)| (refine hB ?_;clear hA hB A B)|refine Z1 ?_|refine Z2 ?_|refine Z7 (fun h=> ?_) fun h=> ?_|refine fun(cap:Nat) (hcap:_≤cap)=> ?_|refine fun(hcp:_≤cap)=> ?_|refine fun(b:Bool)=> ?_)| (with_reducible first|refine Y2 fun K hK=> ?_|refine Y3 fun A B hA hB=> ?_)<;>(simp only[go_sem])| ((with_reducible refine Y8 ?_);try simp only[AQ.then,AQ.blk,reduceIte,Nat.reduceEqDiff])| ((with_reducible refine Z8 (fun h=> ?_) (fun h=> ?_))<;>try subst h)|refine⟨by omega,?_⟩|fail)
 all_goals first
  | (have hcap':=Nat.le_refl cap
     (refine hQ _ _ _ _ _ 1 (dO 5 0 l.length cap) (hp [(0,⟨5,cap,l.map aS⟩)]) _ _ (.inr rfl) rfl (fU [6] (by omega) (by repeat' (first| ((with_reducible refine C0 ?_);exact CQ (by omega) rfl rfl (by rfl) rfl)| ((with_reducible refine D0 ?_);refine CJ ?_)|fail)) ⟨⟨by simp,by simp[sgL],_,rfl,bP (aG dZ _) rfl rfl⟩,trivial⟩ (by simp[sgL])) ?_)
     exact⟨cap,by omega,rfl,rfl,rfl⟩)
  | (have h0:l=[]:=List.eq_nil_of_length_eq_zero (by omega)
     subst h0
     (refine hQ _ _ _ _ _ 1 (dO 5 0 0 0) (hp [(0,⟨5,0,([]:List Job).map aS⟩)]) _ _ (.inr rfl) rfl (fU [0] (by omega) (by repeat' (first| ((with_reducible refine C0 ?_);exact CC)| ((with_reducible refine D0 ?_);refine CJ ?_)|fail)) ⟨⟨by simp,by simp[sgL],_,rfl,bP (aG dZ _) rfl rfl⟩,trivial⟩ (by simp[sgL])) ?_)
     exact⟨0,Nat.le_refl _,rfl,rfl,rfl⟩)
theorem t0 {l:List Job} (hl:l.length<2^20) (h: ∀cap,l.length≤cap→K (dO 5 nx l.length cap) (H.set nx ⟨5,cap,l.map aS⟩) (nx+1)):aB Tryz.prog eG [dS (l.map aS)] H nx K:=by
 refine(uW l hl).AF (l0:=[]) [] rfl ⟨aE rfl,trivial⟩ trivial (by simp) (by simp) (by simp) fun r H' n' _ ⟨cap,q0,q1,q2,q3⟩=> ?_
 have h:=h cap q0
 subst q1;subst q2;subst q3
 have e1:back (tau 0 nx (nth [])) (hp [(0,⟨5,cap,l.map aS⟩)]) 1 H=H.set nx ⟨5,cap,l.map aS⟩:=by
  simp only[back,hp,aA.set,tau,Nat.not_lt_zero,if_true,if_false,Nat.sub_zero,Nat.add_zero,Option.map_some,BB,aA.eL]
 rw[←e1] at h
 exact h
theorem vP (l:List Job) (cap m:Nat) (hl:l.length<2^20) (hc:l.length≤cap):aB Tryz.prog eS [dO 5 0 l.length cap] (hp [(0,⟨5,m,l.map aS⟩)]) 1
 fun r H' n'=>n'=1∧ ∃o',H'=hp [(0,o')]∧C7 o'∧o'=⟨5,m,l.map aS⟩∧r=dO 5 0 l.length l.length:=by
 refine uU rfl fun Q hQ=> ?_
 unfold gI
 repeat' (first| (with_reducible first| (refine hK _ _ _ ?_;clear hK K)|refine Z1 ?_)| (with_reducible refine Y2 fun K hK=> ?_)<;>(simp only[go_sem])| ((with_reducible refine Y8 ?_);try simp only[AQ.then,AQ.blk,reduceIte,Nat.reduceEqDiff])|refine⟨by omega,?_⟩|fail)
 exact lA hQ (dO 5 0 l.length l.length) _ _ rfl (by repeat' (first| ((with_reducible refine C0 ?_);exact CQ (by omega) rfl rfl (by rfl) rfl)| ((with_reducible refine D0 ?_);refine CJ ?_)|fail)) rfl (oB dZ _) ⟨rfl,rfl⟩
theorem vN {l:List Job} {cap m i:Nat} (hl:l.length<2^20) (hc:l.length≤cap) (hi:i<nx) (ho:H i=some ⟨5,m,l.map aS⟩) (h:K (dO 5 i l.length l.length) (H.set i ⟨5,m,l.map aS⟩) nx):
 aB Tryz.prog eS [dO 5 i l.length cap] H nx K:=
 (vP l cap m hl hc).OU i rfl (gW ⟨qS (by omega) rfl rfl rfl rfl,trivial⟩) hi ho (oB dZ _) fun r o' ⟨h1,h2⟩=>by
  subst h1;subst h2;exact h
theorem zN (l:List Job) (hl:l.length<2^20):aB Tryz.prog gG [dS (l.map aS)] (hp []) 0
 fun r H' n'=>∃cap,l.length≤cap∧n'=1∧H'=hp [(0,⟨5,cap,l.map aS⟩)]∧r=dO 5 0 l.length l.length:=by
 refine yQ rfl fun Q hQ=> ?_
 unfold i6
 repeat' (first| (with_reducible first| (refine hK _ _ _ ?_;clear hK K)|refine Z1 ?_)| (first| (with_reducible refine Y2 fun K hK=> ?_)| (refine t0 hl (fun cap hcap=> ?_))| (refine vN hl hcap (by omega) rfl ?_))<;>(simp only[go_sem])| ((with_reducible refine Y8 ?_);try simp only[AQ.then,AQ.blk,reduceIte,Nat.reduceEqDiff])|fail)
 (refine hQ _ _ _ _ _ 1 (dO 5 0 l.length l.length) (hp [(0,⟨5,cap,l.map aS⟩)]) _ _ (.inr rfl) rfl (fU [5] (by omega) (by repeat' (first| ((with_reducible refine C0 ?_);exact CQ (by omega) rfl rfl (by rfl) rfl)| ((with_reducible refine D0 ?_);refine CJ ?_)|fail)) ⟨⟨by simp,by simp[sgL],_,rfl,bP (aG dZ _) rfl rfl⟩,trivial⟩ (by simp[sgL])) ?_)
 exact⟨cap,hcap,rfl,rfl,rfl⟩
theorem z7 {l:List Job} (hl:l.length<2^20) (h: ∀m,l.length≤m→K (dO 5 nx l.length l.length) (H.set nx ⟨5,m,l.map aS⟩) (nx+1)):aB Tryz.prog gG [dS (l.map aS)] H nx K:=by
 refine(zN l hl).AF (l0:=[]) [] rfl ⟨aE rfl,trivial⟩ trivial (by simp) (by simp) (by simp) fun r H' n' _ ⟨cap,q0,q1,q2,q3⟩=> ?_
 have h:=h cap q0
 subst q1;subst q2;subst q3
 have e1:back (tau 0 nx (nth [])) (hp [(0,⟨5,cap,l.map aS⟩)]) 1 H=H.set nx ⟨5,cap,l.map aS⟩:=by
  simp only[back,hp,aA.set,tau,Nat.not_lt_zero,if_true,if_false,Nat.sub_zero,Nat.add_zero,Option.map_some,BB,aA.eL]
 rw[←e1] at h
 exact h
theorem O0 (l:List Job) (hl:l.length<2^20) (hd: ∀j∈l,j.rsp.data.length<2^20):aB Tryz.prog eO [dS (l.map aS)] (hp []) 0
 fun r H' n'=>∃cap,l.length≤cap∧n'=1∧H'=hp [(0,⟨5,cap,l.map aS⟩)]∧r=dO 5 0 l.length l.length:=by
 refine MD rfl fun Q hQ=> ?_
 unfold tD
 repeat' (first| (with_reducible first| (refine hK _ _ _ ?_;clear hK K)|refine Z1 ?_|refine Z3 fun KB hKB=> ?_)| (first| (with_reducible refine Y2 fun K hK=> ?_)| (refine z7 hl (fun m0 hm0=> ?_)))<;>(simp only[go_sem])|fail)
 (have hKX:=hKB;clear hKB)
 refine aM.sG 1 (β:=Nat) (fun b k=>en [(10,dI k),(9,dI l.length),(8,dO 5 b l.length l.length),(3,dO 5 b l.length l.length)])
  (fun b k=>hp [(b,⟨5,m0,l.map aS⟩)]) (fun k=>k≤l.length) (fun k=>l.length-k) 0 (by(refine cR [4] (by omega) (by repeat' (first| (with_reducible first|exact C1|refine C2 ?_ ?_)| ((with_reducible refine C0 ?_);exact CQ (by omega) rfl rfl (by rfl) rfl)| ((with_reducible refine D0 ?_);first|exact CA rfl|refine CJ ?_)|fail)) ⟨⟨by simp,by simp[sgL],_,rfl,bP (aG dZ _) rfl rfl⟩,trivial⟩ (by simp[sgL]))) (by omega) ?_
 rintro k hk KL hKL
 by_cases hlt:k<l.length
 ·have hmd:=hd _ (cC hlt)
  repeat' (first| (with_reducible first| (refine hK _ _ _ ?_;clear hK K)| (refine hA ?_;clear hA hB A B)|refine Z1 ?_|refine Z2 ?_|refine Z3 fun KB hKB=> ?_|refine Z4 (by omega) ?_)| (first| (with_reducible first|refine Y2 fun K hK=> ?_|refine Y3 fun A B hA hB=> ?_)| (refine kH hmd (fun m hm=> ?_)))<;>(simp only[go_sem];try simp (disch:=omega) only[Iw])| ((with_reducible refine Y0 ?_);simp only[AQ.then,AQ.blk])|refine⟨by omega,?_⟩| (with_reducible refine hKB _ _ _ ?_)|fail)
  exact hKL _ _ _ (k+1) (by omega) (by(refine cR [8] (by omega) (by repeat' (first| (with_reducible first|exact C1|refine C2 ?_ ?_)| ((with_reducible refine C0 ?_);exact CQ (by omega) rfl rfl (by rfl) rfl)| ((with_reducible refine D0 ?_);first|exact CA rfl|refine CJ ?_)|fail)) ⟨⟨by simp,by simp[sgL],_,rfl,ak7 (R:=l.map aS) (r':=aS (l.getD k default)) rfl rfl (atN hlt) (fun r hr=>(aG dZ l r hr).2) rfl (aH (bB rfl) (aH (bB rfl) (aH (bB rfl) (aH (bB rfl) (aH (bW bF rfl rfl (Nat.le_refl _) (by simp)) eP)))))⟩,trivial⟩ (by simp[sgL]))) (by omega) (by omega)
 ·repeat' (first| (with_reducible first| (refine hK _ _ _ ?_;clear hK K)| (refine hB ?_;clear hA hB A B)|refine Z1 ?_|refine Z5 (by omega) ?_|refine hKX _ _ _ ?_)| (with_reducible first|refine Y2 fun K hK=> ?_|refine Y3 fun A B hA hB=> ?_)<;>(simp only[go_sem])| ((with_reducible first|refine Y8 ?_|refine Y9 ?_);try simp only[AQ.then,AQ.blk,reduceIte,Nat.reduceEqDiff])|fail)
  (refine hQ _ _ _ _ _ 1 (dO 5 0 l.length l.length) (hp [(0,⟨5,m0,l.map aS⟩)]) _ _ (.inr rfl) rfl (fU [8] (by omega) (by repeat' (first| ((with_reducible refine C0 ?_);exact CQ (by omega) rfl rfl (by rfl) rfl)| ((with_reducible refine D0 ?_);refine CJ ?_)|fail)) ⟨⟨by simp,by simp[sgL],_,rfl,bP (aG dZ _) rfl rfl⟩,trivial⟩ (by simp[sgL])) ?_)
  exact⟨m0,hm0,rfl,rfl,rfl⟩
theorem gY {l:List Job} (hl:l.length<2^20) (hd: ∀j∈l,j.rsp.data.length<2^20) (h: ∀m,l.length≤m→K (dO 5 nx l.length l.length) (H.set nx ⟨5,m,l.map aS⟩) (nx+1)):aB Tryz.prog eO [dS (l.map aS)] H nx K:=by
 refine(O0 l hl hd).AF (l0:=[]) [] rfl ⟨aE rfl,trivial⟩ trivial (by simp) (by simp) (by simp) fun r H' n' _ ⟨cap,q0,q1,q2,q3⟩=> ?_
 have h:=h cap q0
 subst q1;subst q2;subst q3
 have e1:back (tau 0 nx (nth [])) (hp [(0,⟨5,cap,l.map aS⟩)]) 1 H=H.set nx ⟨5,cap,l.map aS⟩:=by
  simp only[back,hp,aA.set,tau,Nat.not_lt_zero,if_true,if_false,Nat.sub_zero,Nat.add_zero,Option.map_some,BB,aA.eL]
 rw[←e1] at h
 exact h
theorem B1 (w u:List Int) (hw:w.length<2^20) (hu:u.length<2^20):aB Tryz.prog fL [dA [.isl (w.map aJ),.isl (u.map aJ)]] (hp []) 0
 fun r H' n'=>∃m0 m1,w.length≤m0∧u.length≤m1∧n'=2∧H'=hp [(0,⟨1,m0,w.map aJ⟩),(1,⟨1,m1,u.map aJ⟩)]∧r=dA [.osl 1 0 0 w.length w.length,.osl 1 1 0 u.length u.length]:=by
 refine A9 rfl fun Q hQ=> ?_
 unfold kI
 repeat' (first| (with_reducible first| (refine hK _ _ _ ?_;clear hK K)|refine Z1 ?_)| (first| (with_reducible refine Y2 fun K hK=> ?_)| (refine kH hw (fun m0 hm0=> ?_))| (refine kH hu (fun m1 hm1=> ?_)))<;>(simp only[go_sem])| ((with_reducible refine Y8 ?_);try simp only[AQ.then,AQ.blk,reduceIte,Nat.reduceEqDiff])|fail)
 (refine hQ _ _ _ _ _ 2 (dA [.osl 1 0 0 w.length w.length,.osl 1 1 0 u.length u.length]) (hp [(0,⟨1,m0,w.map aJ⟩),(1,⟨1,m1,u.map aJ⟩)]) _ _ (.inr rfl) rfl (fU [12,13] (by omega) (by repeat' (first| ((with_reducible refine C0 ?_);exact CQ (by omega) rfl rfl (by rfl) rfl)| ((with_reducible refine D0 ?_);refine C9 ?_)|exact C3|refine C4 ?_ ?_|fail)) ⟨⟨by simp,by simp[sgL],_,rfl,bP (aG bF _) rfl rfl⟩,⟨by simp,by simp[sgL],_,rfl,bP (aG bF _) rfl rfl⟩,trivial⟩ (by simp[sgL])) ?_)
 exact⟨m0,m1,hm0,hm1,rfl,rfl,rfl⟩
theorem qN {w u:List Int} (hw:w.length<2^20) (hu:u.length<2^20) (h: ∀m0 m1,w.length≤m0→u.length≤m1→K (dA [.osl 1 nx 0 w.length w.length,.osl 1 (nx+1) 0 u.length u.length]) ((H.set nx ⟨1,m0,w.map aJ⟩).set (nx+1) ⟨1,m1,u.map aJ⟩) (nx+2)):aB Tryz.prog fL [dA [.isl (w.map aJ),.isl (u.map aJ)]] H nx K:=by
 refine(B1 w u hw hu).AF (l0:=[]) [] rfl ⟨aE rfl,trivial⟩ trivial (by simp) (by simp) (by simp) fun r H' n' _ ⟨m0,m1,q0,q0',q1,q2,q3⟩=> ?_
 have h:=h m0 m1 q0 q0'
 subst q1;subst q2;subst q3
 have e1:back (tau 0 nx (nth [])) (hp [(0,⟨1,m0,w.map aJ⟩),(1,⟨1,m1,u.map aJ⟩)]) 2 H=(H.set nx ⟨1,m0,w.map aJ⟩).set (nx+1) ⟨1,m1,u.map aJ⟩:=by
  simp[back,hp,aA.set,aA.nil,tau,nth,uB,BB,aA.eL,aA.yI]
 rw[←e1] at h
 exact h
def oIm (i0 i1 i2 i3 i4 i5 c0 c1 c2 c3 c4 c5:Nat) (s:TSt):List D1:=[.osl 1 i0 0 s.words.length c0,.osl 1 i1 0 s.holds.length c1,.osl 1 i2 0 s.asked.length c2,.osl 5 i3 0 s.wait.length c3,.osl 5 i4 0 s.done.length c4,.osl 5 i5 0 s.told.length c5]
theorem C8 (c:Cfg) (s:TSt) (hb:aQ c) (hs:BA c s):aB Tryz.prog iG [dA (eSt s)] (hp []) 0
 fun r H' n'=>∃m0 m1 m2 m3 m4 m5,(s.words.length≤m0∧s.holds.length≤m1∧s.asked.length≤m2∧s.wait.length≤m3∧s.done.length≤m4∧s.told.length≤m5)∧n'=6∧H'=hp [(0,⟨1,m0,s.words.map aJ⟩),(1,⟨1,m1,s.holds.map aJ⟩),(2,⟨1,m2,s.asked.map aJ⟩),(3,⟨5,m3,s.wait.map aS⟩),(4,⟨5,m4,s.done.map aS⟩),(5,⟨5,m5,s.told.map aS⟩)]∧
  r=dA (oIm 0 1 2 3 4 5 s.words.length s.holds.length s.asked.length s.wait.length s.done.length s.told.length s):=by
 have hl:=hs.lens hb
 have hwl:=hs.atm.wl
 have hhl:=hs.atm.hl
 have hal:=hs.JI
 have hd:=hs.ar7
 refine AY rfl fun Q hQ=> ?_
 unfold kD
 repeat' (first| (with_reducible first| (refine hK _ _ _ ?_;clear hK K)|refine Z1 ?_)| (first| (with_reducible refine Y2 fun K hK=> ?_)| (refine qN (w:=s.words) (u:=s.holds) (by omega) (by omega) (fun m0 m1 hm0 hm1=> ?_))| (refine kH (l:=s.asked) (by omega) (fun m2 hm2=> ?_))| (refine gY (l:=s.wait) (by omega) (fun j hj=>hd j (by simp[hj])) (fun m3 hm3=> ?_))| (refine gY (l:=s.done) (by omega) (fun j hj=>hd j (by simp[hj])) (fun m4 hm4=> ?_))| (refine gY (l:=s.told) (by omega) (fun j hj=>hd j (by simp[hj])) (fun m5 hm5=> ?_)))<;>(simp only[go_sem])| ((with_reducible refine Y8 ?_);try simp only[AQ.then,AQ.blk,reduceIte,Nat.reduceEqDiff])|fail)
 (refine hQ _ _ _ _ _ 6 (dA (oIm 0 1 2 3 4 5 s.words.length s.holds.length s.asked.length s.wait.length s.done.length s.told.length s)) (hp [(0,⟨1,m0,s.words.map aJ⟩),(1,⟨1,m1,s.holds.map aJ⟩),(2,⟨1,m2,s.asked.map aJ⟩),(3,⟨5,m3,s.wait.map aS⟩),(4,⟨5,m4,s.done.map aS⟩),(5,⟨5,m5,s.told.map aS⟩)]) _ _ (.inr rfl) rfl (fU [19,20,21,22,23,24] (by omega) (by repeat' (first| ((with_reducible refine C0 ?_);exact CQ (by omega) rfl rfl (by rfl) rfl)| ((with_reducible refine D0 ?_);refine C9 ?_)|exact C3|refine C4 ?_ ?_|fail)) ⟨⟨by simp,by simp[sgL],_,rfl,bP (aG bF _) rfl rfl⟩,⟨by simp,by simp[sgL],_,rfl,bP (aG bF _) rfl rfl⟩,⟨by simp,by simp[sgL],_,rfl,bP (aG bF _) rfl rfl⟩,⟨by simp,by simp[sgL],_,rfl,bP (aG dZ _) rfl rfl⟩,⟨by simp,by simp[sgL],_,rfl,bP (aG dZ _) rfl rfl⟩,⟨by simp,by simp[sgL],_,rfl,bP (aG dZ _) rfl rfl⟩,trivial⟩ (by simp[sgL])) ?_)
 exact⟨m0,m1,m2,m3,m4,m5,⟨hm0,hm1,hm2,hm3,hm4,hm5⟩,rfl,rfl,rfl⟩
theorem CM {c:Cfg} {s:TSt} (hb:aQ c) (hs:BA c s) (h: ∀m0 m1 m2 m3 m4 m5,(s.words.length≤m0∧s.holds.length≤m1∧s.asked.length≤m2∧s.wait.length≤m3∧s.done.length≤m4∧s.told.length≤m5)→K (dA (oIm nx (nx+1) (nx+2) (nx+3) (nx+4) (nx+5) s.words.length s.holds.length s.asked.length s.wait.length s.done.length s.told.length s)) ((((((H.set nx ⟨1,m0,s.words.map aJ⟩).set (nx+1) ⟨1,m1,s.holds.map aJ⟩).set (nx+2) ⟨1,m2,s.asked.map aJ⟩).set (nx+3) ⟨5,m3,s.wait.map aS⟩).set (nx+4) ⟨5,m4,s.done.map aS⟩).set (nx+5) ⟨5,m5,s.told.map aS⟩) (nx+6)):
 aB Tryz.prog iG [dA (eSt s)] H nx K:=by
 refine(C8 c s hb hs).AF (l0:=[]) [] rfl ⟨aE rfl,trivial⟩ trivial (by simp) (by simp) (by simp) fun r H' n' _ ⟨m0,m1,m2,m3,m4,m5,q0,q1,q2,q3⟩=> ?_
 have h:=h m0 m1 m2 m3 m4 m5 q0
 subst q1;subst q2;subst q3
 have e1:back (tau 0 nx (nth [])) (hp [(0,⟨1,m0,s.words.map aJ⟩),(1,⟨1,m1,s.holds.map aJ⟩),(2,⟨1,m2,s.asked.map aJ⟩),(3,⟨5,m3,s.wait.map aS⟩),(4,⟨5,m4,s.done.map aS⟩),(5,⟨5,m5,s.told.map aS⟩)]) 6 H=((((((H.set nx ⟨1,m0,s.words.map aJ⟩).set (nx+1) ⟨1,m1,s.holds.map aJ⟩).set (nx+2) ⟨1,m2,s.asked.map aJ⟩).set (nx+3) ⟨5,m3,s.wait.map aS⟩).set (nx+4) ⟨5,m4,s.done.map aS⟩).set (nx+5) ⟨5,m5,s.told.map aS⟩):=by
  simp[back,hp,aA.set,aA.nil,tau,nth,uB,BB,aA.eL,aA.yI]
 rw[←e1] at h
 exact h
end
end Go.Proofs.YtegiblhkjfiooaaGreat
end
section
namespace Go.Proofs.YtegiblhkjfiooaaGreat
open Go Go.AM
set_option maxRecDepth 100000
set_option maxHeartbeats 4000000
section
variable {H : aA} {nx : Nat} {K : D → aA → Nat → Prop}
theorem axD (c:Cfg) (s:TSt) (e:Ev) (hc:jO c) (hp:c.cP.length=3) (hs:azJ c s):aB Tryz.prog auN [dA (cU c),dA (eSt s),dA (eEv e)] .nil 0 fun rr _ _=>rr.plain=true∧rr=dI (X6 c s e):=by
 refine axA rfl fun Q hQ=> ?_
 unfold au0
 have hl:=hs.asked
 by_cases hok:oA c e.who e.n
 ·have hb:=hok.1
  repeat' (first| (with_reducible first| (refine hK _ _ _ ?_;clear hK K)| (refine hA ?_;clear hA hB A B)| (refine hB ?_;clear hA hB A B)|refine Z1 ?_|refine Z2 ?_|refine Z3 fun KB hKB=> ?_|refine Z4 (by omega) ?_|refine Z6 (fun h=> ?_) fun h=> ?_)| (first| (with_reducible first|refine Y2 fun K hK=> ?_|refine Y3 fun A B hA hB=> ?_|refine Y6 (fun h=> ?_) fun h=> ?_)| (with_reducible refine auJ hc hp ?_)| (with_reducible refine fE ?_)| (refine avT (l:=s.wait) (Nat.lt_trans hs.qU (by decide)) (aE rfl) ?_)| (refine avT (l:=s.done) (Nat.lt_trans hs.uQ (by decide)) (aE rfl) ?_)| (refine avQ (l:=s.wait) (Nat.lt_trans hs.qU (by decide)) hp hok (fun j hj _ _=>hs.wait j hj) (aE rfl) ?_)| (refine avQ (l:=s.done) (Nat.lt_trans hs.uQ (by decide)) hp hok (fun j hj _ _=>hs.done j hj) (aE rfl) ?_))<;>(simp only[go_sem])| ((with_reducible refine Y8 ?_);try simp only[AQ.then,AQ.blk,reduceIte,Nat.reduceEqDiff])| ((with_reducible refine Y0 ?_);simp only[AQ.then,AQ.blk])|refine⟨by omega,?_⟩| (with_reducible first|refine hKB _ _ _ ?_| (clear hKB KB;refine hKB _ _ _ ?_))|fail)
  all_goals
   refine aZ hQ _ rfl rfl (qA ?_)
   unfold X6
   grind
 ·repeat' (first| (with_reducible first| (refine hK _ _ _ ?_;clear hK K)| (refine hA ?_;clear hA hB A B)|refine Z1 ?_)| (first| (with_reducible first|refine Y2 fun K hK=> ?_|refine Y3 fun A B hA hB=> ?_|refine Y4 (by omega) ?_)| (with_reducible refine auJ hc hp ?_))<;>(simp only[go_sem])| ((with_reducible refine Y8 ?_);try simp only[AQ.then,AQ.blk,reduceIte,Nat.reduceEqDiff])|fail)
  all_goals
   refine aZ hQ _ rfl rfl (qA ?_)
   unfold X6
   grind
theorem axC {c:Cfg} {s:TSt} {e:Ev} (hc:jO c) (hp:c.cP.length=3) (hs:azJ c s) {d1:D} (hd1:CvD H (fun _=>True) id 0 (dA (eSt s)) d1) (h:K (dI (X6 c s e)) H nx):aB Tryz.prog auN [dA (cU c),d1,dA (eEv e)] H nx K:=
 (axD c s e hc hp hs).pure rfl (aI ⟨aE rfl,hd1,aE rfl,trivial⟩) (fun r hr=>hr▸h)
end
end Go.Proofs.YtegiblhkjfiooaaGreat
end
section
namespace Go.Proofs.YtegiblhkjfiooaaGreat
open Go Go.AM
set_option maxRecDepth 100000
set_option maxHeartbeats 8000000
section
variable {H : aA} {nx : Nat} {K : D → aA → Nat → Prop}
end
end Go.Proofs.YtegiblhkjfiooaaGreat
end
section
namespace Go.Proofs.YtegiblhkjfiooaaGreat
open Go Go.AM
set_option maxRecDepth 100000
set_option maxHeartbeats 4000000
section
variable {H : aA} {nx : Nat} {K : D → aA → Nat → Prop}
theorem azO: ∀w,(Go.sizeOf (Tryz.f235.targs.getD 0 0)).run Tryz.prog w= .ok (Tryz.prog.cellsOf (Tryz.f235.targs.getD 0 0)) w:=fun w=>by
 have h:(Tryz.prog.info? (Tryz.f235.targs.getD 0 0)).isSome=true:=by kernel_rfl
 exact run_sizeOf w (i:=(Tryz.prog.info? (Tryz.f235.targs.getD 0 0)).get h) (by simp)
theorem av1 {i j off off' len len' cap cap':Nat} {oi oj:bA} (hi:H i=some oi) (hj:H j=some oj) (hij:i≠j) (h1:0<oi.ext) (h2:0<oj.ext) (hn:0<oj.n) (hc:0<cap) (hc':0<cap') (hoff:off*5<oi.ext*oi.n)
 (h:K (dB false) H nx):asG Tryz.prog auV [.one (.c (.osl 5 i off len cap)),.one (.c (.osl 5 j off' len' cap'))] H nx K:=
 ay9 (fn:=Tryz.f235) Tryz.func235 (by kernel_rfl) (by kernel_rfl) (by kernel_rfl) (az3:=Tryz.f235.params.getD 0 0) (az4:=Tryz.f235.resultTypes.getD 0 0) (el:=Tryz.f235.targs.getD 0 0) (by kernel_rfl) (by kernel_rfl) azO hi hj hij h1 h2 hn hc hc' hoff h
theorem azW {l:List Job} {j:Job} (hs:kW l) (hn:key j∉l.map key) {k:Nat} (hk:k<l.length):ad5 (l.getD k default) j<0↔k<l.findIdx (uL j):=by
 rw[E7]
 have hg:l.getD k default=l[k]:=by simp[List.getD,hk]
 have hne:key l[k]≠key j:=fun he=>hn (he▸List.mem_map_of_mem (List.getElem_mem hk))
 rw[hg]
 constructor
 ·intro hb
  refine Classical.byContradiction fun hc=> ?_
  have hf:l.findIdx (uL j)<l.length:=by omega
  have h1:uL j l[l.findIdx (uL j)]=true:=List.findIdx_getElem (w:=hf)
  rcases Nat.lt_or_eq_of_le (Nat.le_of_not_lt hc) with hlt|he
  ·have h2:=List.pairwise_iff_getElem.1 hs _ _ hf hk hlt
   rw[qL] at h1 h2 hb
   omega
  ·simp only[he] at h1
   rw[qL] at h1 hb
   omega
 ·intro hlt
  have hb:=List.not_of_lt_findIdx hlt
  simp only[key,ne_eq,Prod.mk.injEq] at hne
  simp only[uL,decide_eq_true_eq,decide_eq_false_iff_not] at hb ⊢
  omega
theorem auC (l:List Job) (j:Job) (hl:l.length<2^20) (hs:kW l) (hn:key j∉l.map key):aB Tryz.prog eR [dS (l.map aS),dA (aS j),.one (.c (.clo bJ []))] .nil 0
 fun rr _ _=>rr.plain=true∧ ∃b,rr= .tup [.c (cI (l.findIdx (uL j):Nat)),.c (cB b)]:=by
 have hf:=List.findIdx_le_length (p:=uL j) (xs:=l)
 have hbl:=fun k hk=>azW hs hn (k:=k) hk
 generalize l.findIdx (uL j)=f at*
 refine auA rfl fun Q hQ=> ?_
 unfold rB
 repeat' (first| (with_reducible first| (refine hK _ _ _ ?_;clear hK K)|refine Z1 ?_|refine Z3 fun KB hKB=> ?_)| (with_reducible refine Y2 fun K hK=> ?_)<;>(simp only[go_sem])|fail)
 (have hKX:=hKB;clear hKB)
 refine aM.sG 0 (β:=Nat×Nat) (fun b u=>en [(10,dI u.2),(9,dI u.1),(8,dI l.length),(4,.one (.c (.fQ (aS j)))),(2,.one (.c (.clo bJ []))),(0,dS (l.map aS))])
  (fun b u=>hp []) (fun u=>u.1≤f∧f≤u.2∧u.2≤l.length) (fun u=>u.2-u.1) (0,l.length) ?_ ⟨by omega,by dsimp only;omega,by dsimp only;omega⟩ ?_
 ·exact bU (Nat.le_refl _) (by repeat' (first| (with_reducible first|exact C1|refine C2 ?_ ?_)| ((with_reducible refine C0 ?_);exact CH (by rfl))| ((with_reducible refine D0 ?_);first|exact CA rfl|exact CI rfl (by simp) rfl rfl rfl|refine CJ ?_)|fail))
 rintro⟨a,b⟩ ⟨g1,g2,g3⟩ KL hKL
 dsimp only at g1 g2 g3
 by_cases hlt:a<b
 ·have hm:IntKind.i64.wrap ((IntKind.u64.wrap ((a:Int)+b)).fdiv (2^min 1 64))=((a+b)/2:Nat):=by
   rw[IntWalk.u64_in _ (by omega),Int.fdiv_eq_ediv_of_nonneg _ (by decide),IntWalk.i64_in _ (by simp;omega)]
   simp
  generalize hmm:(a+b)/2=mid at hm
  have hb:=hbl mid (by omega)
  repeat' (first| (with_reducible first| (refine hK _ _ _ ?_;clear hK K)| (refine hA ?_;clear hA hB A B)| (refine hB ?_;clear hA hB A B)|refine Z1 ?_|refine Z2 ?_|refine Z3 fun KB hKB=> ?_|refine Z4 (by omega) ?_|refine Z6 (fun h=> ?_) fun h=> ?_)| (first| (with_reducible first|refine Y2 fun K hK=> ?_|refine Y3 fun A B hA hB=> ?_)| (refine xM ?_))<;>(simp only[go_sem,hm];try simp (disch:=omega) only[Iw])| ((with_reducible refine Y0 ?_);simp only[AQ.then,AQ.blk])|refine⟨by omega,?_⟩| (with_reducible refine hKB _ _ _ ?_)|fail)
  ·exact hKL _ _ _ (mid+1,b) (by omega) (bU (Nat.le_refl _) (by repeat' (first| (with_reducible first|exact C1|refine C2 ?_ ?_)| ((with_reducible refine C0 ?_);exact CH (by rfl))| ((with_reducible refine D0 ?_);first|exact CA rfl|refine CJ ?_)|fail))) ⟨by dsimp only;omega,by dsimp only;omega,by dsimp only;omega⟩ (by dsimp only;omega)
  ·exact hKL _ _ _ (a,mid) (by omega) (bU (Nat.le_refl _) (by repeat' (first| (with_reducible first|exact C1|refine C2 ?_ ?_)| ((with_reducible refine C0 ?_);exact CH (by rfl))| ((with_reducible refine D0 ?_);first|exact CA rfl|refine CJ ?_)|fail))) ⟨by dsimp only;omega,by dsimp only;omega,by dsimp only;omega⟩ (by dsimp only;omega)
 ·repeat' (first| (with_reducible first| (refine hK _ _ _ ?_;clear hK K)| (refine hB ?_;clear hA hB A B)|refine Z1 ?_|refine Z5 (by omega) ?_|refine hKX _ _ _ ?_)| (first| (with_reducible first|refine Y2 fun K hK=> ?_|refine Y3 fun A B hA hB=> ?_|refine Y6 (fun h=> ?_) fun h=> ?_)| (refine xM ?_))<;>(simp only[go_sem])| ((with_reducible first|refine Y8 ?_|refine Y9 ?_);try simp only[AQ.then,AQ.blk,reduceIte,Nat.reduceEqDiff])|refine⟨by omega,?_⟩|fail)
  all_goals
   have ha:a=f:=by omega
   subst ha
   exact hQ _ _ _ _ _ 0 (.tup [.c (cI _),.c (cB _)]) .nil _ _ (.inr rfl) rfl (agI (aE rfl)) ⟨rfl,_,rfl⟩
theorem auB {l:List Job} {j:Job} {d:D} (hl:l.length<2^20) (hs:kW l) (hn:key j∉l.map key) (hd:CvD H (fun _=>True) id 0 (dS (l.map aS)) d) (h: ∀b,K (.tup [.c (cI (l.findIdx (uL j):Nat)),.c (cB b)]) H nx):
 aB Tryz.prog eR [d,dA (aS j),.one (.c (.clo bJ []))] H nx K:=
 (auC l j hl hs hn).pure rfl (aI ⟨hd,aE rfl,kC rfl,trivial⟩) fun r ⟨b,hr⟩=>hr▸h b
theorem azV {l:List Job} {j:Job} {i:Nat} {z:List D1} (hi:i≤l.length):wr (wr ((l.take i).map aS++List.replicate (l.length+1-i) z) i [aS j]) (i+1) (((l.drop i).take (l.length-i)).map aS)=(l.take i++j::l.drop i).map aS:=by
 have h1:((l.take i).map aS).length=i:=by simp;omega
 have h2:(l.drop i).take (l.length-i)=l.drop i:=List.take_of_length_le (by simp)
 have h3:wr ((l.take i).map aS++List.replicate (l.length+1-i) z) i [aS j]=(l.take i).map aS++[aS j]++List.replicate (l.length-i) z:=by
  unfold wr
  rw[List.take_append_of_le_length (by omega),List.take_of_length_le (by omega),List.drop_append,List.drop_of_length_le (by simp;omega),h1]
  simp only[List.length_cons,List.length_nil,List.nil_append,List.drop_replicate]
  congr 2;omega
 rw[h3,h2]
 have h4:((l.take i).map aS++[aS j]).length=i+1:=by simp;omega
 unfold wr
 have h5:List.drop (i+1+((l.drop i).map aS).length) ((l.take i).map aS++[aS j]++List.replicate (l.length-i) z)=[]:=List.drop_of_length_le (by simp;omega)
 rw[h5,List.take_append_of_le_length (by omega),List.take_of_length_le (by omega)]
 simp
theorem azU {l:List Job} {j:Job} {i:Nat} (hi:i<l.length):wr (wr (l.map aS) (i+1) (((l.drop i).take (l.length-i)).map aS)) i [aS j]=(l.take i++j::l.drop i).map aS:=by
 have h2:(l.drop i).take (l.length-i)=l.drop i:=List.take_of_length_le (by simp)
 rw[h2]
 have h3:wr (l.map aS) (i+1) ((l.drop i).map aS)=(l.take (i+1)).map aS++(l.drop i).map aS:=by
  unfold wr
  have h5:List.drop (i+1+((l.drop i).map aS).length) (l.map aS)=[]:=List.drop_of_length_le (by simp;omega)
  rw[h5,List.append_nil,List.map_take]
 rw[h3]
 have h4:((l.take (i+1)).map aS).length=i+1:=by simp;omega
 unfold wr
 have h6:List.drop (i+[aS j].length) ((l.take (i+1)).map aS)=[]:=List.drop_of_length_le (by simp;omega)
 rw[List.take_append_of_le_length (by omega),List.drop_append_of_le_length (by simp;omega),h6,←List.map_take,List.take_take]
 simp
theorem avI (l:List Job) (j:Job) (i cap m:Nat) (hl:l.length<2^20) (hi:i≤l.length) (hc:l.length≤cap) (hcm:cap≤m):
 aB Tryz.prog atU [dO 5 0 l.length cap,dI i,dO 5 1 1 1] (hp [(0,⟨5,m,l.map aS⟩),(1,⟨5,1,[aS j]⟩)]) 2
 fun r H' n'=>∃cap' m',l.length+1≤cap'∧cap'≤m'∧n'=3∧H'=hp [(2,⟨5,m',(l.take i++j::l.drop i).map aS⟩)]∧r=dO 5 2 (l.length+1) cap':=by
 refine avE rfl fun Q hQ=> ?_
 unfold atZ
 have e1:((l.length:Int)+((1:Nat):Int)-(i:Int)).toNat=l.length+1-i:=by omega
 have e2:((i:Int)+((1:Nat):Int)).toNat=i+1:=by omega
 have e3:((l.length:Int)+((1:Nat):Int)).toNat=l.length+1:=by omega
 have e4:i+(l.length+1-i)=l.length+1:=by omega
 have e5:l.length+1-(i+1)=l.length-i:=by omega
 have e6:min 1 (l.length+1-i)=1:=by omega
 have e7:(i+(l.length-i)≤l.length)=True:=eq_true (by omega)
 have e8:min (l.length+1-i) (l.length-i)=l.length-i:=by omega
 have e9:IntKind.i64.wrap ((i:Int)+((1:Nat):Int))=(i:Int)+((1:Nat):Int):=IntWalk.i64_in _ (by omega)
 have e10:List.take 1 [aS j]=[aS j]:=rfl
 repeat' (first| (with_reducible first| (refine hK _ _ _ ?_;clear hK K)| (refine hA ?_;clear hA hB A B)| (refine hB ?_;clear hA hB A B)|refine Z1 ?_|refine Z2 ?_|refine Z5 (by omega) ?_|refine Z6 (fun h=> ?_) fun h=> ?_|refine fun(cap:Nat) (hcap:_≤cap)=> ?_|refine fun(hcp:_≤cap)=> ?_)| (first| (with_reducible first|refine Y2 fun K hK=> ?_|refine Y3 fun A B hA hB=> ?_)| (refine av1 rfl rfl (by omega) (by simp) (by dsimp only;omega) (by simp) (by omega) (by omega) (by simp) ?_))<;>(simp only[go_sem,e1,e2,e3,e4,e5,e6,e7,e8,e9,e10,Nat.min_self];try simp (disch:=omega) only[Iw])| ((with_reducible refine Y8 ?_);try simp only[AQ.then,AQ.blk,reduceIte,Nat.reduceEqDiff])|refine⟨by omega,?_⟩| (refine⟨by(rw[List.length_take];omega),?_⟩)|fail)
 · (refine hQ _ _ _ _ _ 3 (dO 5 2 (l.length+1) cap) (hp [(2,⟨5,cap,(l.take i++j::l.drop i).map aS⟩)]) _ _ (.inr rfl) rfl (fU [19] (by omega) (by repeat' (first| ((with_reducible refine C0 ?_);exact CQ (by omega) rfl rfl (by rfl) rfl)| ((with_reducible refine D0 ?_);refine CJ ?_)|fail)) ⟨⟨by simp,by simp[sgL],_,rfl,bP (aG dZ _) (by rw[List.take_of_length_le (by omega),List.drop_of_length_le (by omega)]) rfl⟩,trivial⟩ (by simp[sgL])) ?_)
   exact⟨cap,cap,by omega,Nat.le_refl _,rfl,rfl,rfl⟩
 ·refine⟨⟨by omega,by omega,by simp[wr];omega,by omega⟩,?_⟩
  rw[azV hi]
  repeat' (first| (with_reducible first| (refine hK _ _ _ ?_;clear hK K)|refine Z1 ?_)| (with_reducible refine Y2 fun K hK=> ?_)<;>(simp only[go_sem])| ((with_reducible refine Y8 ?_);try simp only[AQ.then,AQ.blk,reduceIte,Nat.reduceEqDiff])|fail)
  (refine hQ _ _ _ _ _ 3 (dO 5 2 (l.length+1) cap) (hp [(2,⟨5,cap,(l.take i++j::l.drop i).map aS⟩)]) _ _ (.inr rfl) rfl (fU [31] (by omega) (by repeat' (first| ((with_reducible refine C0 ?_);exact CQ (by omega) rfl rfl (by rfl) rfl)| ((with_reducible refine D0 ?_);refine CJ ?_)|fail)) ⟨⟨by simp,by simp[sgL],_,rfl,bP (aG dZ _) rfl rfl⟩,trivial⟩ (by simp[sgL])) ?_)
  exact⟨cap,cap,by omega,Nat.le_refl _,rfl,rfl,rfl⟩
 ·refine⟨⟨by omega,by omega,by simp[wr];omega,by omega⟩,?_⟩
  rw[azU (by omega)]
  repeat' (first| (with_reducible first| (refine hK _ _ _ ?_;clear hK K)|refine Z1 ?_)| (with_reducible refine Y2 fun K hK=> ?_)<;>(simp only[go_sem])| ((with_reducible refine Y8 ?_);try simp only[AQ.then,AQ.blk,reduceIte,Nat.reduceEqDiff])|fail)
  (refine hQ _ _ _ _ _ 3 (dO 5 2 (l.length+1) cap) (hp [(2,⟨5,m,(l.take i++j::l.drop i).map aS⟩)]) _ _ (.inr rfl) rfl (fU [0] (by omega) (by repeat' (first| ((with_reducible refine C0 ?_);exact CQ (by omega) rfl rfl (by rfl) rfl)| ((with_reducible refine D0 ?_);refine CJ ?_)|fail)) ⟨⟨by simp,by simp[sgL],_,rfl,bP (aG dZ _) rfl rfl⟩,trivial⟩ (by simp[sgL])) ?_)
  exact⟨cap,m,by omega,hcm,rfl,rfl,rfl⟩
theorem avK {l:List Job} {j:Job} {i cap m i0 i1:Nat} (hl:l.length<2^20) (hi:i≤l.length) (hc:l.length≤cap) (hcm:cap≤m)
 (h0:i0<nx) (h1:i1<nx) (hne:i0≠i1) (o0:H i0=some ⟨5,m,l.map aS⟩) (o1:H i1=some ⟨5,1,[aS j]⟩)
 (h: ∀cap' m',l.length+1≤cap'→cap'≤m'→K (dO 5 nx (l.length+1) cap') (((H.del i0).del i1).set nx ⟨5,m',(l.take i++j::l.drop i).map aS⟩) (nx+1)):
 aB Tryz.prog atU [dO 5 i0 l.length cap,dI i,dO 5 i1 1 1] H nx K:=by
 refine(avI l j i cap m hl hi hc hcm).AF [i0,i1] rfl ⟨qS (by simp) rfl rfl rfl rfl,aE rfl,qS (by simp) rfl rfl rfl rfl,trivial⟩
  ⟨⟨by simp,id,_,o0,bP (aG dZ _) rfl rfl⟩,⟨by simp,id,_,o1,bP (aG (l:=[j]) dZ) rfl rfl⟩,trivial⟩ (by simpa [nth] using hne) (by simp;omega) (by simpa using hne) fun r H' n' _ ⟨cap',m',q0,q1,q2,q3,q4⟩=> ?_
 have h:=h cap' m' q0 q1
 subst q2;subst q3;subst q4
 generalize l.take i++j::l.drop i=l' at*
 have e1:back (tau 2 nx (nth [i0,i1])) (hp [(2,⟨5,m',l'.map aS⟩)]) 3 H=((H.del i0).del i1).set nx ⟨5,m',l'.map aS⟩:=by
  simp[back,hp,aA.set,aA.nil,tau,nth,uB,BB,aA.eL,aA.yI]
 rw[←e1] at h
 exact h
theorem azL {l:List Job} {a:Nat} {z:List D1} (ha:a<l.length):wr ((l.take a).map aS++(l.drop (a+1)).map aS) (l.length-1) (List.replicate (l.length-(l.length-1)) z)=(MT l a).map aS++[z]:=by
 have h1:(l.take a).map aS++(l.drop (a+1)).map aS=(MT l a).map aS:=by simp[MT]
 have h2:((MT l a).map aS).length=l.length-1:=by have:=abN ha;simp;omega
 have h3:l.length-(l.length-1)=1:=by omega
 rw[h1,h3,List.replicate_one]
 unfold wr
 have h4:List.drop (l.length-1+[z].length) ((MT l a).map aS)=[]:=List.drop_of_length_le (by simp at h2 ⊢;omega)
 rw[h4,List.take_of_length_le (by omega),List.append_nil]
theorem avM (l:List Job) (a cap m:Nat) (hl:l.length<2^20) (ha:a<l.length) (hc:l.length≤cap) (hcm:cap≤m):
 aB Tryz.prog x4 [dO 5 0 l.length cap,dI a,dI (a+1)] (hp [(0,⟨5,m,l.map aS⟩)]) 1
 fun r H' n'=>∃cap' m',(MT l a).length≤cap'∧cap'≤m'∧n'=2∧H'=hp [(1,⟨5,m',(MT l a).map aS⟩)]∧r=dO 5 1 (MT l a).length cap':=by
 refine avF rfl fun Q hQ=> ?_
 unfold at0
 have e2:((a:Int)+1).toNat=a+1:=by omega
 have e3:a+(l.length-(a+1))=l.length-1:=by omega
 have e7:(a+1+(l.length-(a+1))≤l.length)=True:=eq_true (by omega)
 have e8:List.take (l.length-(a+1)) (List.drop (a+1) l)=List.drop (a+1) l:=List.take_of_length_le (by simp)
 have e9:(List.drop (a+1) l).length=l.length-(a+1):=List.length_drop
 have hol:=abN ha
 repeat' (first| (with_reducible first| (refine hK _ _ _ ?_;clear hK K)| (refine hB ?_;clear hA hB A B)|refine Z1 ?_|refine Z2 ?_|refine Z5 (by omega) ?_|refine fun(cap:Nat) (hcap:_≤cap)=> ?_|refine fun(hcp:_≤cap)=> ?_)| (with_reducible first|refine Y2 fun K hK=> ?_|refine Y3 fun A B hA hB=> ?_)<;>(simp only[go_sem,e2,e3,e7,e8,e9])| ((with_reducible refine Y8 ?_);try simp only[AQ.then,AQ.blk,reduceIte,Nat.reduceEqDiff])|refine⟨by omega,?_⟩| (refine⟨by(rw[List.length_take];omega),?_⟩)|fail)
 (refine hQ _ _ _ _ _ 2 (dO 5 1 (MT l a).length cap) (hp [(1,⟨5,cap,(MT l a).map aS⟩)]) _ _ (.inr rfl) rfl (fU [20,0] (by omega) (by repeat' (first| ((with_reducible refine C0 ?_);exact CQ (by omega) rfl rfl (by omega) rfl)| ((with_reducible refine D0 ?_);refine CJ ?_)|fail)) ⟨⟨by simp,by simp[sgL],_,rfl,anJ (junk:=[[cI 0,cI 0,cI 0,cI 0,.osl 0 0 0 0 0]]) (fun r hr=>(aG dZ _ r hr).2) (azL ha) rfl (by decide)⟩,trivial⟩ (by simp[sgL])) ?_)
 exact⟨cap,cap,by omega,Nat.le_refl _,rfl,rfl,rfl⟩
theorem auH {l:List Job} {z:Int} {cap m i0:Nat} (hl:l.length<2^20) (hz: ¬z<0) (ha:z.toNat<l.length) (hc:l.length≤cap) (hcm:cap≤m) (h0:i0<nx) (o0:H i0=some ⟨5,m,l.map aS⟩)
 (h: ∀cap' m',(MT l z.toNat).length≤cap'→cap'≤m'→K (dO 5 nx (MT l z.toNat).length cap') ((H.del i0).set nx ⟨5,m',(MT l z.toNat).map aS⟩) (nx+1)):
 aB Tryz.prog x4 [dO 5 i0 l.length cap,dI z,dI (z+1)] H nx K:=by
 obtain⟨a,rfl⟩: ∃a:Nat,z=a:=⟨z.toNat,by omega⟩
 refine(avM l a cap m hl ha hc hcm).AF [i0] rfl ⟨qS (by simp) rfl rfl rfl rfl,aE rfl,aE rfl,trivial⟩
  ⟨⟨by simp,id,_,o0,bP (aG dZ _) rfl rfl⟩,trivial⟩ (by simp) (by simp;omega) (by simp) fun r H' n' _ ⟨cap',m',q0,q1,q2,q3,q4⟩=> ?_
 simp only[Int.toNat_natCast] at h
 have h:=h cap' m' q0 q1
 subst q2;subst q3;subst q4
 generalize MT l a=l' at*
 have e1:back (tau 1 nx (nth [i0])) (hp [(1,⟨5,m',l'.map aS⟩)]) 2 H=(H.del i0).set nx ⟨5,m',l'.map aS⟩:=by
  simp[back,hp,aA.set,aA.nil,tau,nth,uB,BB,aA.eL,aA.yI]
 rw[←e1] at h
 exact h
theorem ayH (l:List Job) (j:Job) (cap m:Nat) (hl:l.length<2^20) (hs:kW l) (hn:key j∉l.map key) (hc:l.length≤cap) (hcm:cap≤m):
 aB Tryz.prog auE [dO 5 0 l.length cap,dA (aS j)] (hp [(0,⟨5,m,l.map aS⟩)]) 1
 fun r H' n'=>∃cap' m',(BM l j).length≤cap'∧cap'≤m'∧n'=2∧H'=hp [(1,⟨5,m',(BM l j).map aS⟩)]∧r=dO 5 1 (BM l j).length cap':=by
 have hf:=List.findIdx_le_length (p:=uL j) (xs:=l)
 have hpl:=ZE (l:=l) (j:=j)
 refine ax5 rfl fun Q hQ=> ?_
 unfold avZ
 repeat' (first| (with_reducible first| (refine hK _ _ _ ?_;clear hK K)|refine Z1 ?_)| (first| (with_reducible refine Y2 fun K hK=> ?_)| (refine auB hl hs hn (yP dZ rfl rfl hc trivial) (fun b=> ?_))| (refine avK hl hf hc hcm (by omega) (by omega) (by omega) rfl rfl (fun cap' m' h1 h2=> ?_)))<;>(simp only[go_sem])| ((with_reducible refine Y8 ?_);try simp only[AQ.then,AQ.blk,reduceIte,Nat.reduceEqDiff])|fail)
 (refine hQ _ _ _ _ _ 2 (dO 5 1 (BM l j).length cap') (hp [(1,⟨5,m',(BM l j).map aS⟩)]) _ _ (.inr rfl) rfl (fU [17,0] (by omega) (by repeat' (first| ((with_reducible refine C0 ?_);exact CQ (by omega) rfl rfl (by omega) rfl)| ((with_reducible refine D0 ?_);refine CJ ?_)|fail)) ⟨⟨by simp,by simp[sgL],_,rfl,bP (aG dZ _) rfl rfl⟩,trivial⟩ (by simp[sgL])) ?_)
 exact⟨cap',m',by omega,h2,rfl,rfl,rfl⟩
theorem awM {l:List Job} {j:Job} {cs:List D1} {cap m i0:Nat} (hcs:CvL H (fun _=>False) (nth [i0]) 1 (aS j) cs) (hl:l.length<2^20) (hs:kW l) (hn:key j∉l.map key) (hc:l.length≤cap) (hcm:cap≤m) (h0:i0<nx) (o0:H i0=some ⟨5,m,l.map aS⟩)
 (h: ∀cap' m',(BM l j).length≤cap'→cap'≤m'→K (dO 5 nx (BM l j).length cap') ((H.del i0).set nx ⟨5,m',(BM l j).map aS⟩) (nx+1)):
 aB Tryz.prog auE [dO 5 i0 l.length cap,dA cs] H nx K:=by
 refine(ayH l j cap m hl hs hn hc hcm).AF [i0] rfl ⟨qS (by simp) rfl rfl rfl rfl,hcs,trivial⟩
  ⟨⟨by simp,id,_,o0,bP (aG dZ _) rfl rfl⟩,trivial⟩ (by simp) (by simp;omega) (by simp) fun r H' n' _ ⟨cap',m',q0,q1,q2,q3,q4⟩=> ?_
 have h:=h cap' m' q0 q1
 subst q2;subst q3;subst q4
 generalize BM l j=l' at*
 have e1:back (tau 1 nx (nth [i0])) (hp [(1,⟨5,m',l'.map aS⟩)]) 2 H=(H.del i0).set nx ⟨5,m',l'.map aS⟩:=by
  simp[back,hp,aA.set,aA.nil,tau,nth,uB,BB,aA.eL,aA.yI]
 rw[←e1] at h
 exact h
theorem ax1 {l:List Job} {a b:Int} {cap m i0:Nat} (hl:l.length<2^20) (hs:kW l) (hn:(a,b)∉l.map key) (hc:l.length≤cap) (hcm:cap≤m) (h0:i0<nx) (o0:H i0=some ⟨5,m,l.map aS⟩)
 (h: ∀cap' m',(BM l ⟨a,b,oW⟩).length≤cap'→cap'≤m'→K (dO 5 nx (BM l ⟨a,b,oW⟩).length cap') ((H.del i0).set nx ⟨5,m',(BM l ⟨a,b,oW⟩).map aS⟩) (nx+1)):
 aB Tryz.prog auE [dO 5 i0 l.length cap,dA [cI a,cI b,cI 0,cI 0,.osl 0 0 0 0 0]] H nx K:=
 awM (j:=⟨a,b,oW⟩) (aH (bB rfl) (aH (bB rfl) (aH (bB rfl) (aH (bB rfl) (aH xG eP))))) hl hs hn hc hcm h0 o0 h
theorem ax7 {l:List Job} {a b:Int} {r:Rsp} {cap m i0:Nat} (hl:l.length<2^20) (hs:kW l) (hn:(a,b)∉l.map key) (hc:l.length≤cap) (hcm:cap≤m) (h0:i0<nx) (o0:H i0=some ⟨5,m,l.map aS⟩)
 (h: ∀cap' m',(BM l ⟨a,b,r⟩).length≤cap'→cap'≤m'→K (dO 5 nx (BM l ⟨a,b,r⟩).length cap') ((H.del i0).set nx ⟨5,m',(BM l ⟨a,b,r⟩).map aS⟩) (nx+1)):
 aB Tryz.prog auE [dO 5 i0 l.length cap,dA (cI a::cI b::tG r)] H nx K:=
 awM (j:=⟨a,b,r⟩) (GW fun x hx=>List.all_eq_true.1 (dZ ⟨a,b,r⟩).2 x hx) hl hs hn hc hcm h0 o0 h
end
end Go.Proofs.YtegiblhkjfiooaaGreat
end
