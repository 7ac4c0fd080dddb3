/- Texts laid together by a program: rules, contracts and the walk that leads to the law. -/
import Derived.Test.YtmccpdapaccnoaaGreatPF8
import Derived.Test.YtmccpdapaccnoaaGreatPF5
import Derived.Test.YtmccpdapaccnoaaGreatPF3
import Derived.Test.YtmccpdapaccnoaaGreatPF9
import Derived.Test.YtmccpdapaccnoaaGreatPF6
set_option linter.unusedVariables false
set_option linter.unusedSimpArgs false
set_option linter.unusedSectionVars false
section
namespace Go.Proofs.YtmccpdapaccnoaaGreat
open Go Go.AM
set_option maxRecDepth 100000
set_option maxHeartbeats 4000000
section
variable {H : aA} {nx : Nat} {K : D → aA → Nat → Prop}
theorem XJ (l:List Int) (hl:l.length<2^40):aB Tryz.prog wP [dA [.isl (l.map aJ)]] .nil 0 fun rr _ _=>rr.plain=true∧rr=dB (decide ((l.length:Int)=64∧All l 0 65535)):=by
 refine T3 rfl fun Q hQ=> ?_
 unfold AK
 repeat' (first| (with_reducible first| (refine hK _ _ _ ?_;clear hK K)|refine Z1 ?_)| (first| (with_reducible first|refine Y2 fun K hK=> ?_|refine Y6 (fun h=> ?_) fun h=> ?_)| (refine vG hl (aE rfl) ?_))<;>(simp only[go_sem])| ((with_reducible refine Y8 ?_);try simp only[AQ.then,AQ.blk,reduceIte,Nat.reduceEqDiff])|fail)
 all_goals first|with_reducible refine aZ hQ _ rfl rfl ?_|skip
 all_goals first|exact j7 (by grind)|exact pD (by grind)
theorem X0 {l:List Int} (hl:l.length<2^40) {d0:D} (hd0:CvD H (fun _=>True) id 0 (dA [.isl (l.map aJ)]) d0) (h:K (dB (decide ((l.length:Int)=64∧All l 0 65535))) H nx):aB Tryz.prog wP [d0] H nx K:=
 (XJ l hl).pure rfl (aI ⟨hd0,trivial⟩) (fun r hr=>hr▸h)
theorem XV (w u:List Int) (hw:w.length<2^40) (hu:u.length<2^40):aB Tryz.prog rG [dA [.isl (w.map aJ),.isl (u.map aJ)]] .nil 0 fun rr _ _=>rr.plain=true∧rr=dB (decide (JS w u)):=by
 refine UK rfl fun Q hQ=> ?_
 unfold z3
 repeat' (first| (with_reducible first| (refine hK _ _ _ ?_;clear hK K)|refine Z1 ?_)| (first| (with_reducible first|refine Y2 fun K hK=> ?_|refine Y6 (fun h=> ?_) fun h=> ?_)| (refine X0 hw (aE rfl) ?_)| (refine d8 (l:=u) (caps:=[]) (p:=fun x=>decide (¬(-1≤x∧x≤63))) hu rfl (aE rfl) (kC rfl) (fun x _ H nx K h=>S7 h) ?_))<;>(simp only[go_sem])| ((with_reducible refine Y8 ?_);try simp only[AQ.then,AQ.blk,reduceIte,Nat.reduceEqDiff])|fail)
 all_goals first|with_reducible refine aZ hQ _ rfl rfl ?_|skip
 all_goals first|exact j7 (by unfold JS;rw[KP (lo:=-1)];grind)|exact pD (by unfold JS;rw[KP (lo:=-1)];grind)
theorem JZ {w:List Int} {u:List Int} (hw:w.length<2^40) (hu:u.length<2^40) {d0:D} (hd0:CvD H (fun _=>True) id 0 (dA [.isl (w.map aJ),.isl (u.map aJ)]) d0) (h:K (dB (decide (JS w u))) H nx):aB Tryz.prog rG [d0] H nx K:=
 (XV w u hw hu).pure rfl (aI ⟨hd0,trivial⟩) (fun r hr=>hr▸h)
theorem W8 (q:Req) (hd:q.data.length<2^40) (hl:q.g6.length<2^40):aB Tryz.prog wD [dA (eB q)] .nil 0 fun rr _ _=>rr.plain=true∧rr=dB (decide (dH q)):=by
 refine VJ rfl fun Q hQ=> ?_
 unfold zP
 repeat' (first| (with_reducible first| (refine hK _ _ _ ?_;clear hK K)| (refine hA ?_;clear hA hB A B)| (refine hB ?_;clear hA hB A B)|refine Z1 ?_|refine Z2 ?_)| (first| (with_reducible first|refine Y2 fun K hK=> ?_|refine Y3 fun A B hA hB=> ?_|refine Y6 (fun h=> ?_) fun h=> ?_)| (with_reducible refine fE ?_)| (with_reducible refine gH ?_)| (with_reducible refine wS ?_)| (refine vG hd (aE rfl) ?_)| (refine d8 (l:=q.g6) (caps:=[]) (p:=fun x=>decide (¬(0≤x∧x≤3))) hl rfl (aE rfl) (kC rfl) (fun x _ H nx K h=>S5 h) ?_))<;>(simp only[go_sem])| ((with_reducible refine Y8 ?_);try simp only[AQ.then,AQ.blk,reduceIte,Nat.reduceEqDiff])| ((with_reducible refine Z8 (fun h=> ?_) (fun h=> ?_))<;>try subst h)|fail)
 all_goals first|with_reducible refine aZ hQ _ rfl rfl ?_|skip
 all_goals
  have e:=@KP q.g6 0 3
  have e2:wrM q=true↔(q.kind=2∨q.kind=4):=by simp[wrM]
  clear hQ
  first|exact j7 (by unfold dH n5;grind)|exact q9 (by unfold dH n5;grind)|exact pD (by unfold dH n5;grind)
theorem W2 {q:Req} (hd:q.data.length<2^40) (hl:q.g6.length<2^40) (h:K (dB (decide (dH q))) H nx):aB Tryz.prog wD [dA (eB q)] H nx K:=
 (W8 q hd hl).pure rfl (aI ⟨aE rfl,trivial⟩) (fun r hr=>hr▸h)
theorem L1 (q:Req) (hd:q.data.length<2^40) (hl:q.g6.length<2^40):aB Tryz.prog nH [dA (eB q)] .nil 0 fun rr _ _=>rr.plain=true∧rr=dB (decide (¬dH q)):=by
 refine KW rfl fun Q hQ=> ?_
 unfold rM
 repeat' (first| (with_reducible first| (refine hK _ _ _ ?_;clear hK K)|refine Z1 ?_)| (first| (with_reducible refine Y2 fun K hK=> ?_)| (with_reducible refine W2 hd hl ?_))<;>(simp only[go_sem])| ((with_reducible refine Y8 ?_);try simp only[AQ.then,AQ.blk,reduceIte,Nat.reduceEqDiff])|fail)
 all_goals first|with_reducible refine aZ hQ _ rfl rfl ?_|skip
 all_goals first|exact pD (by omega)|exact q9 (by omega)|exact j7 (by omega)|rfl
theorem M0 {q:Req} (hd:q.data.length<2^40) (hl:q.g6.length<2^40) (h:K (dB (decide (¬dH q))) H nx):aB Tryz.prog nH [dA (eB q)] H nx K:=
 (L1 q hd hl).pure rfl (aI ⟨aE rfl,trivial⟩) (fun r hr=>hr▸h)
theorem RU (p:Prog) (hp:p.length<2^40) (hq: ∀q∈p,q.data.length<2^40∧q.g6.length<2^40):aB Tryz.prog rR [dS (p.map eB)] .nil 0 fun rr _ _=>rr.plain=true∧rr=dB (decide (¬mV p)):=by
 refine OS rfl fun Q hQ=> ?_
 unfold u6
 repeat' (first| (with_reducible first| (refine hK _ _ _ ?_;clear hK K)|refine Z1 ?_)| (first| (with_reducible first|refine Y2 fun K hK=> ?_|refine Y6 (fun h=> ?_) fun h=> ?_)| (refine nW (l:=p) (caps:=[]) (p:=fun q=>decide (¬dH q)) hp rfl (aE rfl) (kC rfl) (fun x hx H nx K h=>M0 (hq x hx).1 (hq x hx).2 h) ?_))<;>(simp only[go_sem])| ((with_reducible refine Y8 ?_);try simp only[AQ.then,AQ.blk,reduceIte,Nat.reduceEqDiff])|fail)
 all_goals first|with_reducible refine aZ hQ _ rfl rfl ?_|skip
 all_goals first|exact q9 (by unfold mV;grind)|exact j7 (by unfold mV;grind)|exact pD (by unfold mV;grind)
theorem Q6 {p:Prog} (hp:p.length<2^40) (hq: ∀q∈p,q.data.length<2^40∧q.g6.length<2^40) (h:K (dB (decide (¬mV p))) H nx):aB Tryz.prog rR [dS (p.map eB)] H nx K:=
 (RU p hp hq).pure rfl (aI ⟨aE rfl,trivial⟩) (fun r hr=>hr▸h)
theorem XY (c:Cfg) (hc:jO c):aB Tryz.prog wF [dA (cU c)] .nil 0 fun rr _ _=>rr.plain=true∧rr=dB (decide (aQ c)):=by
 refine T9 rfl fun Q hQ=> ?_
 unfold z4
 repeat' (first| (with_reducible first| (refine hK _ _ _ ?_;clear hK K)|refine Z1 ?_)| (first| (with_reducible first|refine Y2 fun K hK=> ?_|refine Y6 (fun h=> ?_) fun h=> ?_)| (with_reducible refine YK hc.map ?_)| (refine d8 (l:=c.lat) (caps:=[]) (p:=fun x=>decide (¬(0≤x∧x≤3))) hc.lat rfl (aE rfl) (kC rfl) (fun x _ H nx K h=>QA h) ?_)| (refine mS (l:=c.cP) (caps:=[]) (p:=fun q=>decide (¬mV q)) hc.cP rfl (aE rfl) (kC rfl) (fun x hx H nx K h=>Q6 (hc.prog x hx) (hc.req x hx) h) ?_))<;>(simp only[go_sem])| ((with_reducible refine Y8 ?_);try simp only[AQ.then,AQ.blk,reduceIte,Nat.reduceEqDiff])|fail)
 all_goals first|with_reducible refine aZ hQ _ rfl rfl ?_|skip
 all_goals
  have e:=@KP c.lat 0 3
  first|exact q9 (by unfold aQ;grind)|exact j7 (by unfold aQ;grind)|exact pD (by unfold aQ;grind)
theorem W6 {c:Cfg} (hc:jO c) (h:K (dB (decide (aQ c))) H nx):aB Tryz.prog wF [dA (cU c)] H nx K:=
 (XY c hc).pure rfl (aI ⟨aE rfl,trivial⟩) (fun r hr=>hr▸h)
end
end Go.Proofs.YtmccpdapaccnoaaGreat
end
section
namespace Go.Proofs.YtmccpdapaccnoaaGreat
open Go Go.AM
set_option maxRecDepth 100000
set_option maxHeartbeats 4000000
section
variable {H : aA} {nx : Nat} {K : D → aA → Nat → Prop}
theorem L0 (c:Cfg) (who n:Int) (hp:c.cP.length=3) (ha:oA c who n):aB Tryz.prog fB [dA (cU c),dI who,dI n] .nil 0 fun rr _ _=>rr.plain=true∧rr=dI (bT c who n).id:=by
 refine KX rfl fun Q hQ=> ?_
 unfold rD
 obtain⟨ha1,ha2,ha3⟩:=ha
 repeat' (first| (with_reducible first| (refine hK _ _ _ ?_;clear hK K)|refine Z1 ?_)| (with_reducible refine Y2 fun K hK=> ?_)<;>(simp only[go_sem])| ((with_reducible refine Y8 ?_);try simp only[AQ.then,AQ.blk,reduceIte,Nat.reduceEqDiff])|refine⟨by omega,?_⟩|fail)
 all_goals first|with_reducible refine aZ hQ _ rfl rfl ?_|skip
 all_goals first|rfl|exact qA (by omega)
theorem iJ {c:Cfg} {who:Int} {n:Int} (hp:c.cP.length=3) (ha:oA c who n) (h:K (dI (bT c who n).id) H nx):aB Tryz.prog fB [dA (cU c),dI who,dI n] H nx K:=
 (L0 c who n hp ha).pure rfl (aI ⟨aE rfl,aE rfl,aE rfl,trivial⟩) (fun r hr=>hr▸h)
end
end Go.Proofs.YtmccpdapaccnoaaGreat
end
section
namespace Go.Proofs.YtmccpdapaccnoaaGreat
open Go Go.AM
set_option maxRecDepth 100000
set_option maxHeartbeats 4000000
attribute [go_sem] List.length_set
section
variable {H : aA} {nx : Nat} {K : D → aA → Nat → Prop}
theorem OV (a:Int):aB Tryz.prog lG [dI a] .nil 0 fun rr _ _=>rr.plain=true∧rr=dB false:=by
 refine MP rfl fun Q hQ=> ?_
 unfold sW
 repeat' (first| (with_reducible first| (refine hK _ _ _ ?_;clear hK K)|refine Z1 ?_)| (with_reducible refine Y2 fun K hK=> ?_)<;>(simp only[go_sem])| ((with_reducible refine Y8 ?_);try simp only[AQ.then,AQ.blk,reduceIte,Nat.reduceEqDiff])|fail)
 all_goals first|with_reducible refine aZ hQ _ rfl rfl ?_|skip
 all_goals first|rfl|simp
theorem PG {a:Int} (h:K (dB false) H nx):aB Tryz.prog lG [dI a] H nx K:=
 (OV a).pure rfl (aI ⟨aE rfl,trivial⟩) (fun r hr=>hr▸h)
def UI (a b:Int):Int:=if a<b then-1 else if a>b then 1 else 0
theorem J0 (a b:Int):aB Tryz.prog jC [dI a,dI b] .nil 0 fun rr _ _=>rr.plain=true∧rr=dI (UI a b):=by
 refine JR rfl fun Q hQ=> ?_
 unfold pI
 repeat' (first| (with_reducible first| (refine hK _ _ _ ?_;clear hK K)| (refine hA ?_;clear hA hB A B)| (refine hB ?_;clear hA hB A B)|refine Z1 ?_|refine Z2 ?_|refine Z6 (fun h=> ?_) fun h=> ?_)| (first| (with_reducible first|refine Y2 fun K hK=> ?_|refine Y3 fun A B hA hB=> ?_)| (with_reducible refine PG ?_))<;>(simp only[go_sem])| ((with_reducible refine Y8 ?_);try simp only[AQ.then,AQ.blk,reduceIte,Nat.reduceEqDiff])|fail)
 all_goals first|with_reducible refine aZ hQ _ rfl rfl ?_|skip
 all_goals exact qA (by unfold UI;grind)
theorem KI {a:Int} {b:Int} (h:K (dI (UI a b)) H nx):aB Tryz.prog jC [dI a,dI b] H nx K:=
 (J0 a b).pure rfl (aI ⟨aE rfl,aE rfl,trivial⟩) (fun r hr=>hr▸h)
def orI (a b:Int):Int:=if a≠0 then a else b
theorem XG (a b:Int):aB Tryz.prog wC [dS [aJ a,aJ b]] .nil 0 fun rr _ _=>rr.plain=true∧rr=dI (orI a b):=by
 refine T8 rfl fun Q hQ=> ?_
 unfold z6
 obtain⟨l,hl⟩: ∃l,l=[a,b]:=⟨_,rfl⟩
 have he:[aJ a,aJ b]=l.map aJ:=by rw[hl];rfl
 have hlen:l.length=2:=by rw[hl];rfl
 rw[he]
 repeat' (first| (with_reducible first| (refine hK _ _ _ ?_;clear hK K)|refine Z1 ?_|refine Z3 fun KB hKB=> ?_)| (with_reducible refine Y2 fun K hK=> ?_)<;>(simp only[go_sem])|fail)
 (have hKX:=hKB;clear hKB);(refine aM.loop (α:={k:Nat//k≤2∧(∀i,i<k→l.getD i default=0)}) (fun u=>en [(8,dI u.1),(7,dI 2),(6,dS (l.map aJ)),(3,dI 0)]) (fun _=>.nil) _ (fun u=>2-u.1) ⟨0,by omega,(by intros;first|trivial|omega)⟩ (bU (Nat.le_refl _) (by repeat' (first| (with_reducible first|exact C1|refine C2 ?_ ?_)| ((with_reducible refine C0 ?_);(exact CG (by(congr 2;omega)) rfl))| ((with_reducible refine D0 ?_);first|exact CA rfl|refine CJ ?_)|fail))) ?_);(rintro⟨k,hk,hinv⟩ KL hKL)
 by_cases hlt:k<2
 ·repeat' (first| (with_reducible first| (refine hK _ _ _ ?_;clear hK K)| (refine hA ?_;clear hA hB A B)| (refine hB ?_;clear hA hB A B)|refine Z1 ?_|refine Z2 ?_|refine Z3 fun KB hKB=> ?_|refine Z4 (by omega) ?_|refine Z6 (fun h=> ?_) fun h=> ?_)| (with_reducible first|refine Y2 fun K hK=> ?_|refine Y3 fun A B hA hB=> ?_)<;>(simp only[go_sem];try simp (disch:=omega) only[Iw])| ((with_reducible refine Y8 ?_);try simp only[AQ.then,AQ.blk,reduceIte,Nat.reduceEqDiff])| ((with_reducible refine Y0 ?_);simp only[AQ.then,AQ.blk])|refine⟨by omega,?_⟩| (with_reducible refine hKB _ _ _ ?_)|fail)
  ·refine aZ hQ (dI _) rfl rfl (qA ?_)
   have hk:k=0∨k=1:=by omega
   have h0:=hinv 0
   rcases hk with rfl|rfl<;>simp[hl,List.getD] at* <;>simp_all [orI]
  · (refine hKL _ _ _ ⟨k+1,by omega,iS hinv (by omega)⟩ (by omega) (by(try dsimp only);omega) (bU (Nat.le_refl _) (by repeat' (first| (with_reducible first|exact C1|refine C2 ?_ ?_)| ((with_reducible refine D0 ?_);exact CA rfl)|fail))))
 ·repeat' (first| (with_reducible first| (refine hK _ _ _ ?_;clear hK K)| (refine hB ?_;clear hA hB A B)|refine Z1 ?_|refine Z5 (by omega) ?_|refine hKX _ _ _ ?_)| (with_reducible first|refine Y2 fun K hK=> ?_|refine Y3 fun A B hA hB=> ?_)<;>(simp only[go_sem])| ((with_reducible first|refine Y8 ?_|refine Y9 ?_);try simp only[AQ.then,AQ.blk,reduceIte,Nat.reduceEqDiff])|fail)
  refine aZ hQ (dI _) rfl rfl (qA ?_)
  have h0:=hinv 0 (by omega)
  have h1:=hinv 1 (by omega)
  simp[hl,List.getD] at* <;>simp_all [orI]
theorem WX {a:Int} {b:Int} {d0:D} (hd0:CvD H (fun _=>True) id 0 (dS [aJ a,aJ b]) d0) (h:K (dI (orI a b)) H nx):aB Tryz.prog wC [d0] H nx K:=
 (XG a b).pure rfl (aI ⟨hd0,trivial⟩) (fun r hr=>hr▸h)
def ad5 (a b:Job):Int:=orI (UI a.who b.who) (UI a.n b.n)
theorem E7 {a b:Job}:ad5 a b<0↔uL a b=true:=by
 rw[qL];unfold ad5 orI UI;grind
theorem JK (a b:Job):aB Tryz.prog bJ [dA (aS a),dA (aS b)] .nil 0 fun rr _ _=>rr.plain=true∧rr=dI (ad5 a b):=by
 refine HI rfl fun Q hQ=> ?_
 unfold nP
 repeat' (first| (with_reducible first| (refine hK _ _ _ ?_;clear hK K)|refine Z1 ?_)| (first| (with_reducible refine Y2 fun K hK=> ?_)| (with_reducible refine KI ?_)| (refine WX (DJ (rows:=[aJ (UI a.who b.who),aJ (UI a.n b.n)]) (aG bF [UI a.who b.who,UI a.n b.n]) rfl trivial rfl rfl rfl (Nat.le_refl 2)) ?_))<;>(simp only[go_sem])| ((with_reducible refine Y8 ?_);try simp only[AQ.then,AQ.blk,reduceIte,Nat.reduceEqDiff])|fail)
 all_goals first|with_reducible refine aZ hQ _ rfl rfl ?_|skip
 all_goals first|rfl|exact qA (by omega)
theorem xM {a:Job} {b:Job} (h:K (dI (ad5 a b)) H nx):aB Tryz.prog bJ [dA (aS a),dA (aS b)] H nx K:=
 (JK a b).pure rfl (aI ⟨aE rfl,aE rfl,trivial⟩) (fun r hr=>hr▸h)
theorem BI (l:List Int) (hl:l.length<2^21):aB Tryz.prog gO [dS (l.map aJ)] (hp []) 0
 fun r H' n'=>∃cap,l.length≤cap∧n'=1∧H'=hp [(0,⟨1,cap,l.map aJ⟩)]∧r=dO 1 0 l.length cap:=by
 refine zU rfl fun Q hQ=> ?_
 unfold jL
 refine aM.seq (aM.EJ 1 ?_)
 repeat' (first| (with_reducible first| (refine hK _ _ _ ?_;clear hK K)| (refine hA ?_;clear hA hB A B)| (refine hB ?_;clear hA hB A B)|refine Z1 ?_|refine Z2 ?_|refine Z7 (fun h=> ?_) fun h=> ?_|refine fun(cap:Nat) (hcap:_≤cap)=> ?_|refine fun(hcp:_≤cap)=> ?_|refine fun(b:Bool)=> ?_)| (with_reducible first|refine Y2 fun K hK=> ?_|refine Y3 fun A B hA hB=> ?_)<;>(simp only[go_sem])| ((with_reducible refine Y8 ?_);try simp only[AQ.then,AQ.blk,reduceIte,Nat.reduceEqDiff])| ((with_reducible refine Z8 (fun h=> ?_) (fun h=> ?_))<;>try subst h)|refine⟨by omega,?_⟩|fail)
 all_goals first
  | (have hcap':=Nat.le_refl cap
     (refine hQ _ _ _ _ _ 1 (dO 1 0 l.length cap) (hp [(0,⟨1,cap,l.map aJ⟩)]) _ _ (.inr rfl) rfl (fU [6] (by omega) (by repeat' (first| ((with_reducible refine C0 ?_);exact CQ (by omega) rfl rfl (by rfl) rfl)| ((with_reducible refine D0 ?_);refine CJ ?_)|fail)) ⟨⟨by simp,by simp[sgL],_,rfl,bP (aG bF _) rfl rfl⟩,trivial⟩ (by simp[sgL])) ?_)
     exact⟨cap,by omega,rfl,rfl,rfl⟩)
  | (have h0:l=[]:=List.eq_nil_of_length_eq_zero (by omega)
     subst h0
     (refine hQ _ _ _ _ _ 1 (dO 1 0 0 0) (hp [(0,⟨1,0,([]:List Int).map aJ⟩)]) _ _ (.inr rfl) rfl (fU [0] (by omega) (by repeat' (first| ((with_reducible refine C0 ?_);exact CC)| ((with_reducible refine D0 ?_);refine CJ ?_)|fail)) ⟨⟨by simp,by simp[sgL],_,rfl,bP (aG bF _) rfl rfl⟩,trivial⟩ (by simp[sgL])) ?_)
     exact⟨0,Nat.le_refl _,rfl,rfl,rfl⟩)
theorem A1 {l:List Int} (hl:l.length<2^21) (h: ∀cap,l.length≤cap→K (dO 1 nx l.length cap) (H.set nx ⟨1,cap,l.map aJ⟩) (nx+1)):aB Tryz.prog gO [dS (l.map aJ)] H nx K:=by
 refine(BI l hl).AF (l0:=[]) [] rfl ⟨aE rfl,trivial⟩ trivial (by simp) (by simp) (by simp) fun r H' n' _ ⟨cap,q0,q1,q2,q3⟩=> ?_
 have h:=h cap q0
 subst q1;subst q2;subst q3
 have e1:back (tau 0 nx (nth [])) (hp [(0,⟨1,cap,l.map aJ⟩)]) 1 H=H.set nx ⟨1,cap,l.map aJ⟩:=by
  simp only[back,hp,aA.set,tau,Nat.not_lt_zero,if_true,if_false,Nat.sub_zero,Nat.add_zero,Option.map_some,uB,aA.eL]
 rw[←e1] at h
 exact h
theorem B2 (l:List Int) (cap m:Nat) (hl:l.length<2^21) (hc:l.length≤cap):aB Tryz.prog iD [dO 1 0 l.length cap] (hp [(0,⟨1,m,l.map aJ⟩)]) 1
 fun r H' n'=>n'=1∧ ∃o',H'=hp [(0,o')]∧C7 o'∧o'=⟨1,m,l.map aJ⟩∧r=dO 1 0 l.length l.length:=by
 refine BK rfl fun Q hQ=> ?_
 unfold kB
 repeat' (first| (with_reducible first| (refine hK _ _ _ ?_;clear hK K)|refine Z1 ?_)| (with_reducible refine Y2 fun K hK=> ?_)<;>(simp only[go_sem])| ((with_reducible refine Y8 ?_);try simp only[AQ.then,AQ.blk,reduceIte,Nat.reduceEqDiff])|refine⟨by omega,?_⟩|fail)
 exact lA hQ (dO 1 0 l.length l.length) _ _ rfl (by repeat' (first| ((with_reducible refine C0 ?_);exact CQ (by omega) rfl rfl (by rfl) rfl)| ((with_reducible refine D0 ?_);refine CJ ?_)|fail)) rfl (oB bF _) ⟨rfl,rfl⟩
theorem BY {l:List Int} {cap m i:Nat} (hl:l.length<2^21) (hc:l.length≤cap) (hi:i<nx) (ho:H i=some ⟨1,m,l.map aJ⟩) (h:K (dO 1 i l.length l.length) (H.set i ⟨1,m,l.map aJ⟩) nx):
 aB Tryz.prog iD [dO 1 i l.length cap] H nx K:=
 (B2 l cap m hl hc).OU i rfl (gW ⟨qS (by omega) rfl rfl rfl rfl,trivial⟩) hi ho (oB bF _) fun r o' ⟨h1,h2⟩=>by
  subst h1;subst h2;exact h
theorem NI (l:List Int) (hl:l.length<2^21):aB Tryz.prog eX [dS (l.map aJ)] (hp []) 0
 fun r H' n'=>∃cap,l.length≤cap∧n'=1∧H'=hp [(0,⟨1,cap,l.map aJ⟩)]∧r=dO 1 0 l.length l.length:=by
 refine LI rfl fun Q hQ=> ?_
 unfold rI
 repeat' (first| (with_reducible first| (refine hK _ _ _ ?_;clear hK K)|refine Z1 ?_)| (first| (with_reducible refine Y2 fun K hK=> ?_)| (refine A1 hl (fun cap hcap=> ?_))| (refine BY hl hcap (by omega) rfl ?_))<;>(simp only[go_sem])| ((with_reducible refine Y8 ?_);try simp only[AQ.then,AQ.blk,reduceIte,Nat.reduceEqDiff])|fail)
 (refine hQ _ _ _ _ _ 1 (dO 1 0 l.length l.length) (hp [(0,⟨1,cap,l.map aJ⟩)]) _ _ (.inr rfl) rfl (fU [5] (by omega) (by repeat' (first| ((with_reducible refine C0 ?_);exact CQ (by omega) rfl rfl (by rfl) rfl)| ((with_reducible refine D0 ?_);refine CJ ?_)|fail)) ⟨⟨by simp,by simp[sgL],_,rfl,bP (aG bF _) rfl rfl⟩,trivial⟩ (by simp[sgL])) ?_)
 exact⟨cap,hcap,rfl,rfl,rfl⟩
theorem kH {l:List Int} (hl:l.length<2^21) (h: ∀m,l.length≤m→K (dO 1 nx l.length l.length) (H.set nx ⟨1,m,l.map aJ⟩) (nx+1)):aB Tryz.prog eX [dS (l.map aJ)] H nx K:=by
 refine(NI l hl).AF (l0:=[]) [] rfl ⟨aE rfl,trivial⟩ trivial (by simp) (by simp) (by simp) fun r H' n' _ ⟨cap,q0,q1,q2,q3⟩=> ?_
 have h:=h cap q0
 subst q1;subst q2;subst q3
 have e1:back (tau 0 nx (nth [])) (hp [(0,⟨1,cap,l.map aJ⟩)]) 1 H=H.set nx ⟨1,cap,l.map aJ⟩:=by
  simp only[back,hp,aA.set,tau,Nat.not_lt_zero,if_true,if_false,Nat.sub_zero,Nat.add_zero,Option.map_some,uB,aA.eL]
 rw[←e1] at h
 exact h
theorem BB {τ:Nat→Nat} {n m:Nat} {l:List Job}:bA.rn τ ⟨n,m,l.map aS⟩=⟨n,m,l.map aS⟩:=by
 refine rF fun r hr x hx=> ?_
 obtain⟨y,_,rfl⟩:=List.mem_map.1 hr
 exact List.all_eq_true.1 (dZ y).2 x hx
theorem uW (l:List Job) (hl:l.length<2^21):aB Tryz.prog eG [dS (l.map aS)] (hp []) 0
 fun r H' n'=>∃cap,l.length≤cap∧n'=1∧H'=hp [(0,⟨5,cap,l.map aS⟩)]∧r=dO 5 0 l.length cap:=by
 refine s9 rfl fun Q hQ=> ?_
 unfold gC
 refine aM.seq (aM.EJ 5 ?_)
 repeat' (first| (with_reducible first| (refine hK _ _ _ ?_;clear hK K)| (refine hA ?_;clear hA hB A B)| (refine hB ?_;clear hA hB A B)|refine Z1 ?_|refine Z2 ?_|refine Z7 (fun h=> ?_) fun h=> ?_|refine fun(cap:Nat) (hcap:_≤cap)=> ?_|refine fun(hcp:_≤cap)=> ?_|refine fun(b:Bool)=> ?_)| (with_reducible first|refine Y2 fun K hK=> ?_|refine Y3 fun A B hA hB=> ?_)<;>(simp only[go_sem])| ((with_reducible refine Y8 ?_);try simp only[AQ.then,AQ.blk,reduceIte,Nat.reduceEqDiff])| ((with_reducible refine Z8 (fun h=> ?_) (fun h=> ?_))<;>try subst h)|refine⟨by omega,?_⟩|fail)
 all_goals first
  | (have hcap':=Nat.le_refl cap
     (refine hQ _ _ _ _ _ 1 (dO 5 0 l.length cap) (hp [(0,⟨5,cap,l.map aS⟩)]) _ _ (.inr rfl) rfl (fU [6] (by omega) (by repeat' (first| ((with_reducible refine C0 ?_);exact CQ (by omega) rfl rfl (by rfl) rfl)| ((with_reducible refine D0 ?_);refine CJ ?_)|fail)) ⟨⟨by simp,by simp[sgL],_,rfl,bP (aG dZ _) rfl rfl⟩,trivial⟩ (by simp[sgL])) ?_)
     exact⟨cap,by omega,rfl,rfl,rfl⟩)
  | (have h0:l=[]:=List.eq_nil_of_length_eq_zero (by omega)
     subst h0
     (refine hQ _ _ _ _ _ 1 (dO 5 0 0 0) (hp [(0,⟨5,0,([]:List Job).map aS⟩)]) _ _ (.inr rfl) rfl (fU [0] (by omega) (by repeat' (first| ((with_reducible refine C0 ?_);exact CC)| ((with_reducible refine D0 ?_);refine CJ ?_)|fail)) ⟨⟨by simp,by simp[sgL],_,rfl,bP (aG dZ _) rfl rfl⟩,trivial⟩ (by simp[sgL])) ?_)
     exact⟨0,Nat.le_refl _,rfl,rfl,rfl⟩)
theorem t0 {l:List Job} (hl:l.length<2^21) (h: ∀cap,l.length≤cap→K (dO 5 nx l.length cap) (H.set nx ⟨5,cap,l.map aS⟩) (nx+1)):aB Tryz.prog eG [dS (l.map aS)] H nx K:=by
 refine(uW l hl).AF (l0:=[]) [] rfl ⟨aE rfl,trivial⟩ trivial (by simp) (by simp) (by simp) fun r H' n' _ ⟨cap,q0,q1,q2,q3⟩=> ?_
 have h:=h cap q0
 subst q1;subst q2;subst q3
 have e1:back (tau 0 nx (nth [])) (hp [(0,⟨5,cap,l.map aS⟩)]) 1 H=H.set nx ⟨5,cap,l.map aS⟩:=by
  simp only[back,hp,aA.set,tau,Nat.not_lt_zero,if_true,if_false,Nat.sub_zero,Nat.add_zero,Option.map_some,BB,aA.eL]
 rw[←e1] at h
 exact h
theorem vP (l:List Job) (cap m:Nat) (hl:l.length<2^21) (hc:l.length≤cap):aB Tryz.prog eS [dO 5 0 l.length cap] (hp [(0,⟨5,m,l.map aS⟩)]) 1
 fun r H' n'=>n'=1∧ ∃o',H'=hp [(0,o')]∧C7 o'∧o'=⟨5,m,l.map aS⟩∧r=dO 5 0 l.length l.length:=by
 refine uU rfl fun Q hQ=> ?_
 unfold gI
 repeat' (first| (with_reducible first| (refine hK _ _ _ ?_;clear hK K)|refine Z1 ?_)| (with_reducible refine Y2 fun K hK=> ?_)<;>(simp only[go_sem])| ((with_reducible refine Y8 ?_);try simp only[AQ.then,AQ.blk,reduceIte,Nat.reduceEqDiff])|refine⟨by omega,?_⟩|fail)
 exact lA hQ (dO 5 0 l.length l.length) _ _ rfl (by repeat' (first| ((with_reducible refine C0 ?_);exact CQ (by omega) rfl rfl (by rfl) rfl)| ((with_reducible refine D0 ?_);refine CJ ?_)|fail)) rfl (oB dZ _) ⟨rfl,rfl⟩
theorem vN {l:List Job} {cap m i:Nat} (hl:l.length<2^21) (hc:l.length≤cap) (hi:i<nx) (ho:H i=some ⟨5,m,l.map aS⟩) (h:K (dO 5 i l.length l.length) (H.set i ⟨5,m,l.map aS⟩) nx):
 aB Tryz.prog eS [dO 5 i l.length cap] H nx K:=
 (vP l cap m hl hc).OU i rfl (gW ⟨qS (by omega) rfl rfl rfl rfl,trivial⟩) hi ho (oB dZ _) fun r o' ⟨h1,h2⟩=>by
  subst h1;subst h2;exact h
theorem zN (l:List Job) (hl:l.length<2^21):aB Tryz.prog gG [dS (l.map aS)] (hp []) 0
 fun r H' n'=>∃cap,l.length≤cap∧n'=1∧H'=hp [(0,⟨5,cap,l.map aS⟩)]∧r=dO 5 0 l.length l.length:=by
 refine yQ rfl fun Q hQ=> ?_
 unfold i6
 repeat' (first| (with_reducible first| (refine hK _ _ _ ?_;clear hK K)|refine Z1 ?_)| (first| (with_reducible refine Y2 fun K hK=> ?_)| (refine t0 hl (fun cap hcap=> ?_))| (refine vN hl hcap (by omega) rfl ?_))<;>(simp only[go_sem])| ((with_reducible refine Y8 ?_);try simp only[AQ.then,AQ.blk,reduceIte,Nat.reduceEqDiff])|fail)
 (refine hQ _ _ _ _ _ 1 (dO 5 0 l.length l.length) (hp [(0,⟨5,cap,l.map aS⟩)]) _ _ (.inr rfl) rfl (fU [5] (by omega) (by repeat' (first| ((with_reducible refine C0 ?_);exact CQ (by omega) rfl rfl (by rfl) rfl)| ((with_reducible refine D0 ?_);refine CJ ?_)|fail)) ⟨⟨by simp,by simp[sgL],_,rfl,bP (aG dZ _) rfl rfl⟩,trivial⟩ (by simp[sgL])) ?_)
 exact⟨cap,hcap,rfl,rfl,rfl⟩
theorem z7 {l:List Job} (hl:l.length<2^21) (h: ∀m,l.length≤m→K (dO 5 nx l.length l.length) (H.set nx ⟨5,m,l.map aS⟩) (nx+1)):aB Tryz.prog gG [dS (l.map aS)] H nx K:=by
 refine(zN l hl).AF (l0:=[]) [] rfl ⟨aE rfl,trivial⟩ trivial (by simp) (by simp) (by simp) fun r H' n' _ ⟨cap,q0,q1,q2,q3⟩=> ?_
 have h:=h cap q0
 subst q1;subst q2;subst q3
 have e1:back (tau 0 nx (nth [])) (hp [(0,⟨5,cap,l.map aS⟩)]) 1 H=H.set nx ⟨5,cap,l.map aS⟩:=by
  simp only[back,hp,aA.set,tau,Nat.not_lt_zero,if_true,if_false,Nat.sub_zero,Nat.add_zero,Option.map_some,BB,aA.eL]
 rw[←e1] at h
 exact h
theorem O0 (l:List Job) (hl:l.length<2^21) (hd: ∀j∈l,j.rsp.data.length<2^21):aB Tryz.prog eO [dS (l.map aS)] (hp []) 0
 fun r H' n'=>∃cap,l.length≤cap∧n'=1∧H'=hp [(0,⟨5,cap,l.map aS⟩)]∧r=dO 5 0 l.length l.length:=by
 refine MD rfl fun Q hQ=> ?_
 unfold tD
 repeat' (first| (with_reducible first| (refine hK _ _ _ ?_;clear hK K)|refine Z1 ?_|refine Z3 fun KB hKB=> ?_)| (first| (with_reducible refine Y2 fun K hK=> ?_)| (refine z7 hl (fun m0 hm0=> ?_)))<;>(simp only[go_sem])|fail)
 (have hKX:=hKB;clear hKB)
 refine aM.sG 1 (β:=Nat) (fun b k=>en [(10,dI k),(9,dI l.length),(8,dO 5 b l.length l.length),(3,dO 5 b l.length l.length)])
  (fun b k=>hp [(b,⟨5,m0,l.map aS⟩)]) (fun k=>k≤l.length) (fun k=>l.length-k) 0 (by(refine cR [4] (by omega) (by repeat' (first| (with_reducible first|exact C1|refine C2 ?_ ?_)| ((with_reducible refine C0 ?_);exact CQ (by omega) rfl rfl (by rfl) rfl)| ((with_reducible refine D0 ?_);first|exact CA rfl|refine CJ ?_)|fail)) ⟨⟨by simp,by simp[sgL],_,rfl,bP (aG dZ _) rfl rfl⟩,trivial⟩ (by simp[sgL]))) (by omega) ?_
 rintro k hk KL hKL
 by_cases hlt:k<l.length
 ·have hmd:=hd _ (cC hlt)
  repeat' (first| (with_reducible first| (refine hK _ _ _ ?_;clear hK K)| (refine hA ?_;clear hA hB A B)|refine Z1 ?_|refine Z2 ?_|refine Z3 fun KB hKB=> ?_|refine Z4 (by omega) ?_)| (first| (with_reducible first|refine Y2 fun K hK=> ?_|refine Y3 fun A B hA hB=> ?_)| (refine kH hmd (fun m hm=> ?_)))<;>(simp only[go_sem];try simp (disch:=omega) only[Iw])| ((with_reducible refine Y0 ?_);simp only[AQ.then,AQ.blk])|refine⟨by omega,?_⟩| (with_reducible refine hKB _ _ _ ?_)|fail)
  exact hKL _ _ _ (k+1) (by omega) (by(refine cR [8] (by omega) (by repeat' (first| (with_reducible first|exact C1|refine C2 ?_ ?_)| ((with_reducible refine C0 ?_);exact CQ (by omega) rfl rfl (by rfl) rfl)| ((with_reducible refine D0 ?_);first|exact CA rfl|refine CJ ?_)|fail)) ⟨⟨by simp,by simp[sgL],_,rfl,ak7 (R:=l.map aS) (r':=aS (l.getD k default)) rfl rfl (atN hlt) (fun r hr=>(aG dZ l r hr).2) rfl (aH (bB rfl) (aH (bB rfl) (aH (bB rfl) (aH (bB rfl) (aH (bW bF rfl rfl (Nat.le_refl _) (by simp)) eP)))))⟩,trivial⟩ (by simp[sgL]))) (by omega) (by omega)
 ·repeat' (first| (with_reducible first| (refine hK _ _ _ ?_;clear hK K)| (refine hB ?_;clear hA hB A B)|refine Z1 ?_|refine Z5 (by omega) ?_|refine hKX _ _ _ ?_)| (with_reducible first|refine Y2 fun K hK=> ?_|refine Y3 fun A B hA hB=> ?_)<;>(simp only[go_sem])| ((with_reducible first|refine Y8 ?_|refine Y9 ?_);try simp only[AQ.then,AQ.blk,reduceIte,Nat.reduceEqDiff])|fail)
  (refine hQ _ _ _ _ _ 1 (dO 5 0 l.length l.length) (hp [(0,⟨5,m0,l.map aS⟩)]) _ _ (.inr rfl) rfl (fU [8] (by omega) (by repeat' (first| ((with_reducible refine C0 ?_);exact CQ (by omega) rfl rfl (by rfl) rfl)| ((with_reducible refine D0 ?_);refine CJ ?_)|fail)) ⟨⟨by simp,by simp[sgL],_,rfl,bP (aG dZ _) rfl rfl⟩,trivial⟩ (by simp[sgL])) ?_)
  exact⟨m0,hm0,rfl,rfl,rfl⟩
theorem gY {l:List Job} (hl:l.length<2^21) (hd: ∀j∈l,j.rsp.data.length<2^21) (h: ∀m,l.length≤m→K (dO 5 nx l.length l.length) (H.set nx ⟨5,m,l.map aS⟩) (nx+1)):aB Tryz.prog eO [dS (l.map aS)] H nx K:=by
 refine(O0 l hl hd).AF (l0:=[]) [] rfl ⟨aE rfl,trivial⟩ trivial (by simp) (by simp) (by simp) fun r H' n' _ ⟨cap,q0,q1,q2,q3⟩=> ?_
 have h:=h cap q0
 subst q1;subst q2;subst q3
 have e1:back (tau 0 nx (nth [])) (hp [(0,⟨5,cap,l.map aS⟩)]) 1 H=H.set nx ⟨5,cap,l.map aS⟩:=by
  simp only[back,hp,aA.set,tau,Nat.not_lt_zero,if_true,if_false,Nat.sub_zero,Nat.add_zero,Option.map_some,BB,aA.eL]
 rw[←e1] at h
 exact h
theorem B1 (w u:List Int) (hw:w.length<2^21) (hu:u.length<2^21):aB Tryz.prog fL [dA [.isl (w.map aJ),.isl (u.map aJ)]] (hp []) 0
 fun r H' n'=>∃m0 m1,w.length≤m0∧u.length≤m1∧n'=2∧H'=hp [(0,⟨1,m0,w.map aJ⟩),(1,⟨1,m1,u.map aJ⟩)]∧r=dA [.osl 1 0 0 w.length w.length,.osl 1 1 0 u.length u.length]:=by
 refine A9 rfl fun Q hQ=> ?_
 unfold kI
 repeat' (first| (with_reducible first| (refine hK _ _ _ ?_;clear hK K)|refine Z1 ?_)| (first| (with_reducible refine Y2 fun K hK=> ?_)| (refine kH hw (fun m0 hm0=> ?_))| (refine kH hu (fun m1 hm1=> ?_)))<;>(simp only[go_sem])| ((with_reducible refine Y8 ?_);try simp only[AQ.then,AQ.blk,reduceIte,Nat.reduceEqDiff])|fail)
 (refine hQ _ _ _ _ _ 2 (dA [.osl 1 0 0 w.length w.length,.osl 1 1 0 u.length u.length]) (hp [(0,⟨1,m0,w.map aJ⟩),(1,⟨1,m1,u.map aJ⟩)]) _ _ (.inr rfl) rfl (fU [12,13] (by omega) (by repeat' (first| ((with_reducible refine C0 ?_);exact CQ (by omega) rfl rfl (by rfl) rfl)| ((with_reducible refine D0 ?_);refine C9 ?_)|exact C3|refine C4 ?_ ?_|fail)) ⟨⟨by simp,by simp[sgL],_,rfl,bP (aG bF _) rfl rfl⟩,⟨by simp,by simp[sgL],_,rfl,bP (aG bF _) rfl rfl⟩,trivial⟩ (by simp[sgL])) ?_)
 exact⟨m0,m1,hm0,hm1,rfl,rfl,rfl⟩
theorem qN {w u:List Int} (hw:w.length<2^21) (hu:u.length<2^21) (h: ∀m0 m1,w.length≤m0→u.length≤m1→K (dA [.osl 1 nx 0 w.length w.length,.osl 1 (nx+1) 0 u.length u.length]) ((H.set nx ⟨1,m0,w.map aJ⟩).set (nx+1) ⟨1,m1,u.map aJ⟩) (nx+2)):aB Tryz.prog fL [dA [.isl (w.map aJ),.isl (u.map aJ)]] H nx K:=by
 refine(B1 w u hw hu).AF (l0:=[]) [] rfl ⟨aE rfl,trivial⟩ trivial (by simp) (by simp) (by simp) fun r H' n' _ ⟨m0,m1,q0,q0',q1,q2,q3⟩=> ?_
 have h:=h m0 m1 q0 q0'
 subst q1;subst q2;subst q3
 have e1:back (tau 0 nx (nth [])) (hp [(0,⟨1,m0,w.map aJ⟩),(1,⟨1,m1,u.map aJ⟩)]) 2 H=(H.set nx ⟨1,m0,w.map aJ⟩).set (nx+1) ⟨1,m1,u.map aJ⟩:=by
  simp[back,hp,aA.set,aA.nil,tau,nth,uB,BB,aA.eL,aA.yI]
 rw[←e1] at h
 exact h
def oIm (i0 i1 i2 i3 i4 i5 c0 c1 c2 c3 c4 c5:Nat) (s:TSt):List D1:=[.osl 1 i0 0 s.words.length c0,.osl 1 i1 0 s.holds.length c1,.osl 1 i2 0 s.asked.length c2,.osl 5 i3 0 s.wait.length c3,.osl 5 i4 0 s.done.length c4,.osl 5 i5 0 s.told.length c5]
end
end Go.Proofs.YtmccpdapaccnoaaGreat
end
section
namespace Go.Proofs.YtmccpdapaccnoaaGreat
open Go Go.AM
set_option maxRecDepth 100000
set_option maxHeartbeats 4000000
section
variable {H : aA} {nx : Nat} {K : D → aA → Nat → Prop}
end
end Go.Proofs.YtmccpdapaccnoaaGreat
end
section
namespace Go.Proofs.YtmccpdapaccnoaaGreat
open Go Go.AM
set_option maxRecDepth 100000
set_option maxHeartbeats 4000000
section
variable {H : aA} {nx : Nat} {K : D → aA → Nat → Prop}
theorem XT {f:Nat→Int} {n k:Nat} {x:Int} (hk:k<n) (hx:x=f k):((List.range k).map f++List.replicate (n-k) (0:Int)).set k x=(List.range (k+1)).map f++List.replicate (n-(k+1)) 0:=by
 have e:n-k=(n-(k+1))+1:=by omega
 have h1:((List.range k).map f).length=k:=by simp
 rw[List.set_append,h1,if_neg (Nat.lt_irrefl k),Nat.sub_self,e,List.replicate_succ,List.set_cons_zero,List.range_succ,List.map_append,List.append_assoc,hx]
 rfl
theorem N0 (addr many:Int) (wrap:Bool):aB Tryz.prog oS [dI addr,dI many,dB wrap] .nil 0 fun rr _ nn=>nn=0∧rr.imm=true∧rr=dS ((bE addr many wrap).map aJ):=by
 refine M3 rfl fun Q hQ=> ?_
 unfold s6
 by_cases hok:o7 addr many wrap
 ·obtain⟨f1,f2,f3,f4,f5,f6,f7,f8⟩:=aaA hok
  repeat' (first| (with_reducible first| (refine hK _ _ _ ?_;clear hK K)| (refine hB ?_;clear hA hB A B)|refine Z1 ?_|refine Z2 ?_|refine Z3 fun KB hKB=> ?_)| (first| (with_reducible first|refine Y2 fun K hK=> ?_|refine Y3 fun A B hA hB=> ?_)| (with_reducible refine wS ?_))<;>(simp only[go_sem,f6,eq_true hok])|refine⟨by omega,?_⟩|fail)
  (have hKX:=hKB;clear hKB)
  refine aM.sG 1 (β:=Nat) (fun b k=>en [(18,dI k),(17,dI many),(7,dO 1 b many.toNat many.toNat),(2,dB wrap),(1,dI many),(0,dI addr)])
   (fun b k=>hp [(b,⟨1,many.toNat,((List.range k).map (bAt addr many wrap)++List.replicate (many.toNat-k) (0:Int)).map aJ⟩)]) (fun k=>k≤many.toNat) (fun k=>many.toNat-k) 0 ?_ (by omega) ?_
  · (refine cR [7] (by omega) (by repeat' (first| (with_reducible first|exact C1|refine C2 ?_ ?_)| ((with_reducible refine C0 ?_);first|exact CQ (by omega) rfl rfl (by rfl) rfl| (exact CG (by(congr 2;omega)) rfl))| ((with_reducible refine D0 ?_);first|exact CA rfl|refine CJ ?_)|fail)) ⟨⟨by simp,by simp[sgL],_,rfl,bP (aG bF _) (by simp[aJ]) rfl⟩,trivial⟩ (by simp[sgL]))
  intro k hk KL hKL
  have hlen:((List.range k).map (bAt addr many wrap)++List.replicate (many.toNat-k) (0:Int)).length=many.toNat:=by simp;omega
  by_cases hlt:k<many.toNat
  ·obtain⟨g1,g2,g3⟩:=agW hok k hlt
   have hmod:(addr+k).tmod many=(addr+k)%many:=Int.tmod_eq_emod_of_nonneg (by omega)
   have hm2:=Int.emod_lt_of_pos (addr+k) f2
   have hm3:=Int.emod_nonneg (addr+k) f1
   repeat' (first| (with_reducible first| (refine hK _ _ _ ?_;clear hK K)| (refine hA ?_;clear hA hB A B)| (refine hB ?_;clear hA hB A B)|refine Z1 ?_|refine Z2 ?_|refine Z3 fun KB hKB=> ?_|refine Z4 (by omega) ?_)| (with_reducible first|refine Y2 fun K hK=> ?_|refine Y3 fun A B hA hB=> ?_)<;>(simp only[go_sem,f6,hmod,List.set_set,hlen];try simp (disch:=omega) only[Iw])| ((with_reducible refine Y0 ?_);simp only[AQ.then,AQ.blk])| ((with_reducible refine Z8 (fun h=> ?_) (fun h=> ?_))<;>try subst h)|refine⟨by omega,?_⟩| (with_reducible refine hKB _ _ _ ?_)|fail)
   ·exact hKL _ _ _ (k+1) (by omega) (by(refine cR [12] (by omega) (by repeat' (first| (with_reducible first|exact C1|refine C2 ?_ ?_)| ((with_reducible refine C0 ?_);exact CQ (by omega) rfl rfl (by rfl) rfl)| ((with_reducible refine D0 ?_);first|exact CA rfl|refine CJ ?_)|fail)) ⟨⟨by simp,by simp[sgL],_,rfl,bP (aG bF _) (congrArg _ (XT hlt (by simp only[bAt,if_true])).symm) rfl⟩,trivial⟩ (by simp[sgL]))) (by omega) (by omega)
   ·exact hKL _ _ _ (k+1) (by omega) (by(refine cR [12] (by omega) (by repeat' (first| (with_reducible first|exact C1|refine C2 ?_ ?_)| ((with_reducible refine C0 ?_);exact CQ (by omega) rfl rfl (by rfl) rfl)| ((with_reducible refine D0 ?_);first|exact CA rfl|refine CJ ?_)|fail)) ⟨⟨by simp,by simp[sgL],_,rfl,bP (aG bF _) (congrArg _ (XT hlt (by simp[bAt])).symm) rfl⟩,trivial⟩ (by simp[sgL]))) (by omega) (by omega)
  ·repeat' (first| (with_reducible first| (refine hK _ _ _ ?_;clear hK K)| (refine hB ?_;clear hA hB A B)|refine Z1 ?_|refine Z5 (by omega) ?_|refine hKX _ _ _ ?_)| (with_reducible first|refine Y2 fun K hK=> ?_|refine Y3 fun A B hA hB=> ?_)<;>(simp only[go_sem])| ((with_reducible first|refine Y8 ?_|refine Y9 ?_);try simp only[AQ.then,AQ.blk,reduceIte,Nat.reduceEqDiff])|fail)
   have hk2:k=many.toNat:=by omega
   subst hk2
   exact V4 hQ (dS ((bE addr many wrap).map aJ)) _ rfl (yP (l:=bE addr many wrap) bF (by simp[bE,hok];rfl) (DF hok).symm (by rw[DF hok];omega) trivial) rfl rfl
 ·repeat' (first| (with_reducible first| (refine hK _ _ _ ?_;clear hK K)| (refine hA ?_;clear hA hB A B)|refine Z1 ?_)| (first| (with_reducible first|refine Y2 fun K hK=> ?_|refine Y3 fun A B hA hB=> ?_)| (with_reducible refine wS ?_))<;>(simp only[go_sem,eq_false hok])| ((with_reducible refine Y8 ?_);try simp only[AQ.then,AQ.blk,reduceIte,Nat.reduceEqDiff])|fail)
  exact V4 hQ (dS []) _ rfl xG rfl (by simp[bE,hok])
theorem OQ {addr:Int} {many:Int} {wrap:Bool} (h:K (dS ((bE addr many wrap).map aJ)) H nx):aB Tryz.prog oS [dI addr,dI many,dB wrap] H nx K:=
 (N0 addr many wrap).fresh rfl (fun r hr=>hr▸h)
theorem HJ (q:Req):aB Tryz.prog fP [dA (eB q)] .nil 0 fun rr _ nn=>nn=0∧rr.imm=true∧rr=dS ((bE q.addr q.many q.wrap).map aJ):=by
 refine GL rfl fun Q hQ=> ?_
 unfold mQ
 repeat' (first| (with_reducible first| (refine hK _ _ _ ?_;clear hK K)|refine Z1 ?_)| (first| (with_reducible refine Y2 fun K hK=> ?_)| (with_reducible refine OQ ?_))<;>(simp only[go_sem])| ((with_reducible refine Y8 ?_);try simp only[AQ.then,AQ.blk,reduceIte,Nat.reduceEqDiff])|fail)
 all_goals exact V4 hQ (dS _) _ rfl (aE rfl) rfl rfl
theorem vY {q:Req} (h:K (dS ((bE q.addr q.many q.wrap).map aJ)) H nx):aB Tryz.prog fP [dA (eB q)] H nx K:=
 (HJ q).fresh rfl (fun r hr=>hr▸h)
theorem XA (l:List Rng) (q:Req) (hl:l.length<2^40):aB Tryz.prog mZ [dS (l.map eN),dA (eB q)] .nil 0 fun rr _ _=>rr.plain=true∧rr=dI (bV l (bE q.addr q.many q.wrap)):=by
 refine TU rfl fun Q hQ=> ?_
 unfold zZ
 have hb4:=MK (addr:=q.addr) (many:=q.many) (wrap:=q.wrap)
 repeat' (first| (with_reducible first| (refine hK _ _ _ ?_;clear hK K)|refine Z1 ?_|refine Z3 fun KB hKB=> ?_)| (first| (with_reducible refine Y2 fun K hK=> ?_)| (with_reducible refine vY ?_))<;>(simp only[go_sem])|fail)
 generalize bE q.addr q.many q.wrap=all at*
 (have hKX:=hKB;clear hKB);(refine aM.loop (α:={k:Nat//k≤all.length∧(∀i,i<k→¬bK (inR · (all.getD i default)) l<0∧bK (inR · (all.getD i default)) l=bK (inR · (all.getD 0 default)) l)}) (fun u=>en [(12,dI u.1),(11,dI all.length),(10,dS (all.map aJ)),(5,dI (if u.1=0 then-1 else bK (inR · (all.getD 0 default)) l)),(0,dS (l.map eN))]) (fun _=>.nil) _ (fun u=>all.length-u.1) ⟨0,by omega,(by intros;first|trivial|omega)⟩ (bU (Nat.le_refl _) (by repeat' (first| (with_reducible first|exact C1|refine C2 ?_ ?_)| ((with_reducible refine D0 ?_);exact CA rfl)|fail))) ?_);(rintro⟨k,hk,hinv⟩ KL hKL)
 by_cases hlt:k<all.length
 ·repeat' (first| (with_reducible first| (refine hK _ _ _ ?_;clear hK K)| (refine hA ?_;clear hA hB A B)| (refine hB ?_;clear hA hB A B)|refine Z1 ?_|refine Z2 ?_|refine Z3 fun KB hKB=> ?_|refine Z4 (by omega) ?_|refine Z6 (fun h=> ?_) fun h=> ?_)| (first| (with_reducible first|refine Y2 fun K hK=> ?_|refine Y3 fun A B hA hB=> ?_|refine Y6 (fun h=> ?_) fun h=> ?_)| (with_reducible refine SX hl ?_))<;>(simp only[go_sem];try simp (disch:=omega) only[Iw])| ((with_reducible refine Y8 ?_);try simp only[AQ.then,AQ.blk,reduceIte,Nat.reduceEqDiff])| ((with_reducible refine Y0 ?_);simp only[AQ.then,AQ.blk])|refine⟨by omega,?_⟩| (with_reducible refine hKB _ _ _ ?_)|fail)
  ·refine aZ hQ (dI _) rfl rfl (qA ?_)
   rcases Nat.eq_zero_or_pos k with h0|h0
   ·subst h0
    have hg:=aoF (p:=(inR · (all.getD 0 default))) (l:=l)
    by_cases hy: ∀i,i<all.length→1≤i→bK (inR · (all.getD i default)) l=bK (inR · (all.getD 0 default)) l
    ·rw[RH (by omega) hy];omega
    ·have: ∃i,i<all.length∧ ¬bK (inR · (all.getD i default)) l=bK (inR · (all.getD 0 default)) l:=Classical.byContradiction fun hc=>hy fun i hi _=>Classical.byContradiction fun hn=>hc ⟨i,hi,hn⟩
     obtain⟨i,hi,hn⟩:=this
     rw[L8 hi hn]
   ·have:=(hinv 0 h0).1
    exact(L8 hlt (by omega)).symm
  ·refine aZ hQ (dI _) rfl rfl (qA (L8 hlt (fun he=> ?_)).symm)
   grind
  all_goals
   have heq:bK (inR · (all.getD k default)) l=bK (inR · (all.getD 0 default)) l:=by grind
   refine hKL _ _ _ ⟨k+1,by omega,iS hinv ⟨by omega,heq⟩⟩ (by omega) (by dsimp only;omega) (bU (Nat.le_refl _) ?_)
   dsimp only
   rw[if_neg (Nat.succ_ne_zero k),←heq]
   repeat' (first| (with_reducible first|exact C1|refine C2 ?_ ?_)| ((with_reducible refine D0 ?_);exact CA rfl)|fail)
 ·repeat' (first| (with_reducible first| (refine hK _ _ _ ?_;clear hK K)| (refine hB ?_;clear hA hB A B)|refine Z1 ?_|refine Z5 (by omega) ?_|refine hKX _ _ _ ?_)| (with_reducible first|refine Y2 fun K hK=> ?_|refine Y3 fun A B hA hB=> ?_)<;>(simp only[go_sem])| ((with_reducible first|refine Y8 ?_|refine Y9 ?_);try simp only[AQ.then,AQ.blk,reduceIte,Nat.reduceEqDiff])|fail)
  refine aZ hQ (dI _) rfl rfl (qA ?_)
  by_cases h0:k=0
  ·rw[if_pos h0,adL (by omega)]
  ·rw[if_neg h0,RH (by omega) (fun i hi _=>(hinv i (by omega)).2)]
theorem KD {l:List Rng} {q:Req} (hl:l.length<2^40) (h:K (dI (bV l (bE q.addr q.many q.wrap))) H nx):aB Tryz.prog mZ [dS (l.map eN),dA (eB q)] H nx K:=
 (XA l q hl).pure rfl (aI ⟨aE rfl,aE rfl,trivial⟩) (fun r hr=>hr▸h)
end
end Go.Proofs.YtmccpdapaccnoaaGreat
end
section
namespace Go.Proofs.YtmccpdapaccnoaaGreat
open Go Go.AM
set_option maxRecDepth 100000
set_option maxHeartbeats 8000000
section
variable {H : aA} {nx : Nat} {K : D → aA → Nat → Prop}
theorem p9 (l:List fC) (f:FuncId) (caps:List D1) (p:fC→Bool) (hl:l.length<2^40) (hc:caps.all D1.dQ=true) (hf: ∀x∈l,∀(H:aA) (nx:Nat) (K:D→aA→Nat→Prop),K (dB (p x)) H nx→aB Tryz.prog f (dA (eCJ x)::caps.map fun d=>.one (.c d)) H nx K):
 aB Tryz.prog bZ [dS (l.map eCJ),.one (.c (.clo f caps))] .nil 0 fun r _ _=>r.plain=true∧r=dI (bK p l):=by
 refine pH rfl fun Q hQ=> ?_
 unfold eU
 repeat' (first| (with_reducible first| (refine hK _ _ _ ?_;clear hK K)|refine Z1 ?_|refine Z3 fun KB hKB=> ?_)| (with_reducible refine Y2 fun K hK=> ?_)<;>(simp only[go_sem])|fail)
 (have hKX:=hKB;clear hKB);(refine aM.loop (α:={k:Nat//k≤l.length∧(∀i,i<k→p (l.getD i default)=false)}) (fun u=>en [(8,dI u.1),(7,dI l.length),(1,.one (.c (.clo f caps))),(0,dS (l.map eCJ))]) (fun _=>.nil) _ (fun u=>l.length-u.1) ⟨0,by omega,(by intros;first|trivial|omega)⟩ (bU (Nat.le_refl _) (by repeat' (first| (with_reducible first|exact C1|refine C2 ?_ ?_)| ((with_reducible refine C0 ?_);exact CH (by assumption))| ((with_reducible refine D0 ?_);first|exact CA rfl|refine CJ ?_)|fail))) ?_);(rintro⟨k,hk,hinv⟩ KL hKL)
 by_cases hlt:k<l.length
 ·have hmem:l.getD k default∈l:=by simp[List.getD,hlt]
  repeat' (first| (with_reducible first| (refine hK _ _ _ ?_;clear hK K)| (refine hA ?_;clear hA hB A B)| (refine hB ?_;clear hA hB A B)|refine Z1 ?_|refine Z2 ?_|refine Z3 fun KB hKB=> ?_|refine Z4 (by omega) ?_)| (first| (with_reducible first|refine Y2 fun K hK=> ?_|refine Y3 fun A B hA hB=> ?_)| (with_reducible refine hf _ hmem _ _ _ ?_))<;>(simp only[go_sem];try simp (disch:=omega) only[Iw])| ((with_reducible refine Y8 ?_);try simp only[AQ.then,AQ.blk,reduceIte,Nat.reduceEqDiff])| ((with_reducible refine Y0 ?_);simp only[AQ.then,AQ.blk])| ((with_reducible refine Z8 (fun h=> ?_) (fun h=> ?_))<;>try subst h)|refine⟨by omega,?_⟩| (with_reducible refine hKB _ _ _ ?_)|fail)
  ·refine aZ hQ _ rfl rfl (qA (Eq.symm (CU (by omega) (by assumption) hinv)))
  · (refine hKL _ _ _ ⟨k+1,by omega,iS hinv (by assumption)⟩ (by omega) (by(try dsimp only);omega) (bU (Nat.le_refl _) (by repeat' (first| (with_reducible first|exact C1|refine C2 ?_ ?_)| ((with_reducible refine C0 ?_);exact CH (by assumption))| ((with_reducible refine D0 ?_);first|exact CA rfl|refine CJ ?_)|fail))))
 ·repeat' (first| (with_reducible first| (refine hK _ _ _ ?_;clear hK K)| (refine hB ?_;clear hA hB A B)|refine Z1 ?_|refine Z5 (by omega) ?_|refine hKX _ _ _ ?_)| (with_reducible first|refine Y2 fun K hK=> ?_|refine Y3 fun A B hA hB=> ?_)<;>(simp only[go_sem])| ((with_reducible first|refine Y8 ?_|refine Y9 ?_);try simp only[AQ.then,AQ.blk,reduceIte,Nat.reduceEqDiff])|fail)
  ·refine aZ hQ _ rfl rfl (qA (Eq.symm (tI fun i hi=>hinv i (by omega))))
theorem iY {l:List fC} {f:FuncId} {caps caps0:List D1} {p:fC→Bool} {d:D} (hl:l.length<2^40) (hc:caps.all D1.dQ=true) (hd:CvD H (fun _=>True) id 0 (dS (l.map eCJ)) d) (hk:CvD H (fun _=>True) id 0 (.one (.c (.clo f caps))) (.one (.c (.clo f caps0)))) (hf: ∀x∈l,∀(H:aA) (nx:Nat) (K:D→aA→Nat→Prop),K (dB (p x)) H nx→aB Tryz.prog f (dA (eCJ x)::caps.map fun d=>.one (.c d)) H nx K)
 (h:K (dI (bK p l)) H nx):aB Tryz.prog bZ [d,.one (.c (.clo f caps0))] H nx K:=
 (p9 l f caps p hl hc hf).pure rfl (aI ⟨hd,hk,trivial⟩) fun r hr=>hr▸h
theorem P0 (j:fC) (n:Int):aB Tryz.prog rQ [dA (eCJ j),.one (.c (.fQ [cI n]))] .nil 0 fun rr _ _=>rr.plain=true∧rr=dB (isC n j):=by
 refine OM rfl fun Q hQ=> ?_
 unfold vD
 repeat' (first| (with_reducible first| (refine hK _ _ _ ?_;clear hK K)|refine Z1 ?_)| (with_reducible refine Y2 fun K hK=> ?_)<;>(simp only[go_sem])| ((with_reducible refine Y8 ?_);try simp only[AQ.then,AQ.blk,reduceIte,Nat.reduceEqDiff])|fail)
 all_goals first|with_reducible refine aZ hQ _ rfl rfl ?_|skip
 all_goals first|exact pD (by omega)|exact q9 (by omega)|exact j7 (by omega)|rfl
theorem QZ {j:fC} {n:Int} (h:K (dB (isC n j)) H nx):aB Tryz.prog rQ [dA (eCJ j),.one (.c (.fQ [cI n]))] H nx K:=
 (P0 j n).pure rfl (aI ⟨aE rfl,aE rfl,trivial⟩) (fun r hr=>hr▸h)
theorem YB (p:fR) (n:Int) (hl:p.out.length<2^40):aB Tryz.prog kV [dA (cD p),dI n] .nil 0 fun rr _ _=>rr.plain=true∧rr=dI (bK (isC n) p.out):=by
 refine UN rfl fun Q hQ=> ?_
 unfold AR
 repeat' (first| (with_reducible first| (refine hK _ _ _ ?_;clear hK K)|refine Z1 ?_)| (first| (with_reducible refine Y2 fun K hK=> ?_)| (refine iY (l:=p.out) (caps:=[.fQ [cI n]]) (p:=isC n) hl rfl (aE rfl) (PR ⟨zE rfl trivial rfl rfl rfl,trivial⟩) (fun x _ H nx K h=>QZ h) ?_))<;>(simp only[go_sem])| ((with_reducible refine Y8 ?_);try simp only[AQ.then,AQ.blk,reduceIte,Nat.reduceEqDiff])|fail)
 all_goals first|with_reducible refine aZ hQ _ rfl rfl ?_|skip
 all_goals first|rfl|exact qA (by omega)
theorem KT {p:fR} {n:Int} (hl:p.out.length<2^40) {d0:D} (hd0:CvD H (fun _=>True) id 0 (dA (cD p)) d0) (h:K (dI (bK (isC n) p.out)) H nx):aB Tryz.prog kV [d0,dI n] H nx K:=
 (YB p n hl).pure rfl (aI ⟨hd0,aE rfl,trivial⟩) (fun r hr=>hr▸h)
theorem YA (m:List Rng) (q:Req) (hl:m.length<2^40):aB Tryz.prog rN [dS (m.map eN),dA (eB q)] .nil 0 fun rr _ _=>rr.plain=true∧rr=dI (gZ m q):=by
 refine UU rfl fun Q hQ=> ?_
 unfold z2
 have hwh:bV m (bE q.addr q.many q.wrap)<m.length:=by have hlt:=PQ (p:=(inR · ((bE q.addr q.many q.wrap).getD 0 default))) (l:=m);unfold bV;grind
 repeat' (first| (with_reducible first| (refine hK _ _ _ ?_;clear hK K)| (refine hA ?_;clear hA hB A B)| (refine hB ?_;clear hA hB A B)|refine Z1 ?_|refine Z2 ?_|refine Z6 (fun h=> ?_) fun h=> ?_)| (first| (with_reducible first|refine Y2 fun K hK=> ?_|refine Y3 fun A B hA hB=> ?_)| (with_reducible refine KD hl ?_))<;>(simp only[go_sem])| ((with_reducible refine Y8 ?_);try simp only[AQ.then,AQ.blk,reduceIte,Nat.reduceEqDiff])|refine⟨by omega,?_⟩|fail)
 all_goals first|with_reducible refine aZ hQ _ rfl rfl ?_|skip
 all_goals first|exact qA (by unfold gZ;rw[if_pos (by omega)])|exact qA (by unfold gZ;rw[if_neg (by omega)])
theorem DE {m:List Rng} {q:Req} (hl:m.length<2^40) (h:K (dI (gZ m q)) H nx):aB Tryz.prog rN [dS (m.map eN),dA (eB q)] H nx K:=
 (YA m q hl).pure rfl (aI ⟨aE rfl,aE rfl,trivial⟩) (fun r hr=>hr▸h)
end
end Go.Proofs.YtmccpdapaccnoaaGreat
end
section
namespace Go.Proofs.YtmccpdapaccnoaaGreat
open Go Go.AM
set_option maxRecDepth 100000
set_option maxHeartbeats 4000000
section
variable {H : aA} {nx : Nat} {K : D → aA → Nat → Prop}
end
end Go.Proofs.YtmccpdapaccnoaaGreat
end
section
namespace Go.Proofs.YtmccpdapaccnoaaGreat
open Go Go.AM
set_option maxRecDepth 100000
set_option maxHeartbeats 8000000
section
variable {H : aA} {nx : Nat} {K : D → aA → Nat → Prop}
end
end Go.Proofs.YtmccpdapaccnoaaGreat
end
section
namespace Go.Proofs.YtmccpdapaccnoaaGreat
open Go Go.AM
set_option maxRecDepth 100000
set_option maxHeartbeats 4000000
section
variable {H : aA} {nx : Nat} {K : D → aA → Nat → Prop}
end
end Go.Proofs.YtmccpdapaccnoaaGreat
end
section
namespace Go.Proofs.YtmccpdapaccnoaaGreat
open Go Go.AM
set_option maxRecDepth 100000
set_option maxHeartbeats 8000000
section
variable {H : aA} {nx : Nat} {K : D → aA → Nat → Prop}
end
end Go.Proofs.YtmccpdapaccnoaaGreat
end
section
namespace Go.Proofs.YtmccpdapaccnoaaGreat
open Go Go.AM
set_option maxRecDepth 100000
set_option maxHeartbeats 8000000
section
variable {H : aA} {nx : Nat} {K : D → aA → Nat → Prop}
theorem aoK {i0 i1 i2 i3 i4 i5 c0 c1 c2 c3 c4 c5:Nat} {s:TSt}:(oIm i0 i1 i2 i3 i4 i5 c0 c1 c2 c3 c4 c5 s).length=6:=rfl
theorem aj7 {i0 i1 i2 i3 i4 i5 c0 c1 c2 c3 c4 c5:Nat} {s:TSt}:(oIm i0 i1 i2 i3 i4 i5 c0 c1 c2 c3 c4 c5 s).take 6=oIm i0 i1 i2 i3 i4 i5 c0 c1 c2 c3 c4 c5 s:=rfl
theorem akC {i0 i1 i2 i3 i4 i5 c0 c1 c2 c3 c4 c5:Nat} {s:TSt}:(oIm i0 i1 i2 i3 i4 i5 c0 c1 c2 c3 c4 c5 s).drop 6=[]:=rfl
theorem alF {i0 i1 i2 i3 i4 i5 c0 c1 c2 c3 c4 c5 k:Nat} {s:TSt} {cs:List D1}:iA cs (k+1) (oIm i0 i1 i2 i3 i4 i5 c0 c1 c2 c3 c4 c5 s)=iA cs (k+1) [.osl 1 i0 0 s.words.length c0,.osl 1 i1 0 s.holds.length c1,.osl 1 i2 0 s.asked.length c2,.osl 5 i3 0 s.wait.length c3,.osl 5 i4 0 s.done.length c4,.osl 5 i5 0 s.told.length c5]:=rfl
attribute [go_sem] aoK aj7 akC alF
end
end Go.Proofs.YtmccpdapaccnoaaGreat
end
