/- Texts laid together by a program: rules, contracts and the walk that leads to the law. -/
import Derived.Test.YtegiblhkjfiooaaGreatPk8
import Derived.Test.YtegiblhkjfiooaaGreatPk7
import Derived.Test.YtegiblhkjfiooaaGreatPk3
set_option linter.unusedVariables false
set_option linter.unusedSimpArgs false
set_option linter.unusedSectionVars false
section
namespace Go.Proofs.YtegiblhkjfiooaaGreat
open Go Go.AM
set_option maxRecDepth 100000
set_option maxHeartbeats 4000000
attribute [go_sem] List.length_set
section
variable {H : aA} {nx : Nat} {K : D → aA → Nat → Prop}
theorem PZ (a:Int):aB Tryz.prog lY [dI a] .nil 0 fun rr _ _=>rr.plain=true∧rr=dB false:=by
 refine NK rfl fun Q hQ=> ?_
 unfold uZ
 repeat' (first| (with_reducible first| (refine hK _ _ _ ?_;clear hK K)|refine Z1 ?_)| (with_reducible refine Y2 fun K hK=> ?_)<;>(simp only[go_sem])| ((with_reducible refine Y8 ?_);try simp only[AQ.then,AQ.blk,reduceIte,Nat.reduceEqDiff])|fail)
 all_goals first|with_reducible refine bJ hQ _ rfl rfl ?_|skip
 all_goals first|rfl|simp
theorem PJ {a:Int} (h:K (dB false) H nx):aB Tryz.prog lY [dI a] H nx K:=
 (PZ a).pure rfl (aI ⟨aF rfl,trivial⟩) (fun r hr=>hr▸h)
def U5 (a b:Int):Int:=if a<b then-1 else if a>b then 1 else 0
theorem ML (a b:Int):aB Tryz.prog jY [dI a,dI b] .nil 0 fun rr _ _=>rr.plain=true∧rr=dI (U5 a b):=by
 refine KR rfl fun Q hQ=> ?_
 unfold qZ
 repeat' (first| (with_reducible first| (refine hK _ _ _ ?_;clear hK K)| (refine hA ?_;clear hA hB A B)| (refine hB ?_;clear hA hB A B)|refine Z1 ?_|refine Z2 ?_|refine Z6 (fun h=> ?_) fun h=> ?_)| (first| (with_reducible first|refine Y2 fun K hK=> ?_|refine Y3 fun A B hA hB=> ?_)| (with_reducible refine PJ ?_))<;>(simp only[go_sem])| ((with_reducible refine Y8 ?_);try simp only[AQ.then,AQ.blk,reduceIte,Nat.reduceEqDiff])|fail)
 all_goals first|with_reducible refine bJ hQ _ rfl rfl ?_|skip
 all_goals exact nQ (by unfold U5;grind)
theorem LQ {a:Int} {b:Int} (h:K (dI (U5 a b)) H nx):aB Tryz.prog jY [dI a,dI b] H nx K:=
 (ML a b).pure rfl (aI ⟨aF rfl,aF rfl,trivial⟩) (fun r hr=>hr▸h)
def orI (a b:Int):Int:=if a≠0 then a else b
theorem YU (a b:Int):aB Tryz.prog yH [dS [aE a,aE b]] .nil 0 fun rr _ _=>rr.plain=true∧rr=dI (orI a b):=by
 refine V5 rfl fun Q hQ=> ?_
 unfold A7
 obtain⟨l,hl⟩: ∃l,l=[a,b]:=⟨_,rfl⟩
 have he:[aE a,aE b]=l.map aE:=by rw[hl];rfl
 have hlen:l.length=2:=by rw[hl];rfl
 rw[he]
 repeat' (first| (with_reducible first| (refine hK _ _ _ ?_;clear hK K)|refine Z1 ?_|refine Z3 fun KB hKB=> ?_)| (with_reducible refine Y2 fun K hK=> ?_)<;>(simp only[go_sem])|fail)
 (have hKX:=hKB;clear hKB);(refine aQ.loop (α:={k:Nat//k≤2∧(∀i,i<k→l.getD i default=0)}) (fun u=>en [(8,dI u.1),(7,dI 2),(6,dS (l.map aE)),(3,dI 0)]) (fun _=>.nil) _ (fun u=>2-u.1) ⟨0,by omega,(by intros;first|trivial|omega)⟩ (dL (Nat.le_refl _) (by repeat' (first| (with_reducible first|exact C1|refine C2 ?_ ?_)| ((with_reducible refine C0 ?_);(exact CG (by(congr 2;omega)) rfl))| ((with_reducible refine D0 ?_);first|exact CA rfl|refine CJ ?_)|fail))) ?_);(rintro⟨k,hk,hinv⟩ KL hKL)
 by_cases hlt:k<2
 ·repeat' (first| (with_reducible first| (refine hK _ _ _ ?_;clear hK K)| (refine hA ?_;clear hA hB A B)| (refine hB ?_;clear hA hB A B)|refine Z1 ?_|refine Z2 ?_|refine Z3 fun KB hKB=> ?_|refine Z4 (by omega) ?_|refine Z6 (fun h=> ?_) fun h=> ?_)| (with_reducible first|refine Y2 fun K hK=> ?_|refine Y3 fun A B hA hB=> ?_)<;>(simp only[go_sem];try simp (disch:=omega) only[Iw])| ((with_reducible refine Y8 ?_);try simp only[AQ.then,AQ.blk,reduceIte,Nat.reduceEqDiff])| ((with_reducible refine Y0 ?_);simp only[AQ.then,AQ.blk])|refine⟨by omega,?_⟩| (with_reducible refine hKB _ _ _ ?_)|fail)
  ·refine bJ hQ (dI _) rfl rfl (nQ ?_)
   have hk:k=0∨k=1:=by omega
   have h0:=hinv 0
   rcases hk with rfl|rfl<;>simp[hl,List.getD] at* <;>simp_all [orI]
  · (refine hKL _ _ _ ⟨k+1,by omega,nG hinv (by omega)⟩ (by omega) (by(try dsimp only);omega) (dL (Nat.le_refl _) (by repeat' (first| (with_reducible first|exact C1|refine C2 ?_ ?_)| ((with_reducible refine D0 ?_);exact CA rfl)|fail))))
 ·repeat' (first| (with_reducible first| (refine hK _ _ _ ?_;clear hK K)| (refine hB ?_;clear hA hB A B)|refine Z1 ?_|refine Z5 (by omega) ?_|refine hKX _ _ _ ?_)| (with_reducible first|refine Y2 fun K hK=> ?_|refine Y3 fun A B hA hB=> ?_)<;>(simp only[go_sem])| ((with_reducible first|refine Y8 ?_|refine Y9 ?_);try simp only[AQ.then,AQ.blk,reduceIte,Nat.reduceEqDiff])|fail)
  refine bJ hQ (dI _) rfl rfl (nQ ?_)
  have h0:=hinv 0 (by omega)
  have h1:=hinv 1 (by omega)
  simp[hl,List.getD] at* <;>simp_all [orI]
theorem YF {a:Int} {b:Int} {d0:D} (hd0:CvD H (fun _=>True) id 0 (dS [aE a,aE b]) d0) (h:K (dI (orI a b)) H nx):aB Tryz.prog yH [d0] H nx K:=
 (YU a b).pure rfl (aI ⟨hd0,trivial⟩) (fun r hr=>hr▸h)
def aa0 (a b:Job):Int:=orI (U5 a.who b.who) (U5 a.n b.n)
theorem B1 {a b:Job}:aa0 a b<0↔nA a b=true:=by
 rw[nN];unfold aa0 orI U5;grind
theorem KX (a b:Job):aB Tryz.prog aX [dA (aK a),dA (aK b)] .nil 0 fun rr _ _=>rr.plain=true∧rr=dI (aa0 a b):=by
 refine II rfl fun Q hQ=> ?_
 unfold pD
 repeat' (first| (with_reducible first| (refine hK _ _ _ ?_;clear hK K)|refine Z1 ?_)| (first| (with_reducible refine Y2 fun K hK=> ?_)| (with_reducible refine LQ ?_)| (refine YF (EA (rows:=[aE (U5 a.who b.who),aE (U5 a.n b.n)]) (aC aJ [U5 a.who b.who,U5 a.n b.n]) rfl trivial rfl rfl rfl (Nat.le_refl 2)) ?_))<;>(simp only[go_sem])| ((with_reducible refine Y8 ?_);try simp only[AQ.then,AQ.blk,reduceIte,Nat.reduceEqDiff])|fail)
 all_goals first|with_reducible refine bJ hQ _ rfl rfl ?_|skip
 all_goals first|rfl|exact nQ (by omega)
theorem lS {a:Job} {b:Job} (h:K (dI (aa0 a b)) H nx):aB Tryz.prog aX [dA (aK a),dA (aK b)] H nx K:=
 (KX a b).pure rfl (aI ⟨aF rfl,aF rfl,trivial⟩) (fun r hr=>hr▸h)
theorem B9 (l:List Int) (hl:l.length<2^20):aB Tryz.prog gY [dS (l.map aE)] (hp []) 0
 fun r H' n'=>∃cap,l.length≤cap∧n'=1∧H'=hp [(0,⟨1,cap,l.map aE⟩)]∧r=dO 1 0 l.length cap:=by
 refine BB rfl fun Q hQ=> ?_
 unfold kE
 refine aQ.seq (aQ.C6 1 ?_)
 repeat' (first| (with_reducible first| (refine hK _ _ _ ?_;clear hK K)| (refine hA ?_;clear hA hB A B)| (refine hB ?_;clear hA hB A B)|refine Z1 ?_|refine Z2 ?_|refine Z7 (fun h=> ?_) fun h=> ?_|refine fun(cap:Nat) (hcap:_≤cap)=> ?_|refine fun(hcp:_≤cap)=> ?_|refine fun(b:Bool)=> ?_)| (with_reducible first|refine Y2 fun K hK=> ?_|refine Y3 fun A B hA hB=> ?_)<;>(simp only[go_sem])| ((with_reducible refine Y8 ?_);try simp only[AQ.then,AQ.blk,reduceIte,Nat.reduceEqDiff])| ((with_reducible refine Z8 (fun h=> ?_) (fun h=> ?_))<;>try subst h)|refine⟨by omega,?_⟩|fail)
 all_goals first
  | (have hcap':=Nat.le_refl cap
     (refine hQ _ _ _ _ _ 1 (dO 1 0 l.length cap) (hp [(0,⟨1,cap,l.map aE⟩)]) _ _ (.inr rfl) rfl (cV [6] (by omega) (by repeat' (first| ((with_reducible refine C0 ?_);exact CQ (by omega) rfl rfl (by rfl) rfl)| ((with_reducible refine D0 ?_);refine CJ ?_)|fail)) ⟨⟨by simp,by simp[sgL],_,rfl,aO (aC aJ _) rfl rfl⟩,trivial⟩ (by simp[sgL])) ?_)
     exact⟨cap,by omega,rfl,rfl,rfl⟩)
  | (have h0:l=[]:=List.eq_nil_of_length_eq_zero (by omega)
     subst h0
     (refine hQ _ _ _ _ _ 1 (dO 1 0 0 0) (hp [(0,⟨1,0,([]:List Int).map aE⟩)]) _ _ (.inr rfl) rfl (cV [0] (by omega) (by repeat' (first| ((with_reducible refine C0 ?_);exact CC)| ((with_reducible refine D0 ?_);refine CJ ?_)|fail)) ⟨⟨by simp,by simp[sgL],_,rfl,aO (aC aJ _) rfl rfl⟩,trivial⟩ (by simp[sgL])) ?_)
     exact⟨0,Nat.le_refl _,rfl,rfl,rfl⟩)
theorem B0 {l:List Int} (hl:l.length<2^20) (h: ∀cap,l.length≤cap→K (dO 1 nx l.length cap) (H.set nx ⟨1,cap,l.map aE⟩) (nx+1)):aB Tryz.prog gY [dS (l.map aE)] H nx K:=by
 refine(B9 l hl).x4 (l0:=[]) [] rfl ⟨aF rfl,trivial⟩ trivial (by simp) (by simp) (by simp) fun r H' n' _ ⟨cap,q0,q1,q2,q3⟩=> ?_
 have h:=h cap q0
 subst q1;subst q2;subst q3
 have e1:back (tau 0 nx (nth [])) (hp [(0,⟨1,cap,l.map aE⟩)]) 1 H=H.set nx ⟨1,cap,l.map aE⟩:=by
  simp only[back,hp,aA.set,tau,Nat.not_lt_zero,if_true,if_false,Nat.sub_zero,Nat.add_zero,Option.map_some,j8,aA.dK]
 rw[←e1] at h
 exact h
theorem DQ (l:List Int) (cap m:Nat) (hl:l.length<2^20) (hc:l.length≤cap):aB Tryz.prog iP [dO 1 0 l.length cap] (hp [(0,⟨1,m,l.map aE⟩)]) 1
 fun r H' n'=>n'=1∧ ∃o',H'=hp [(0,o')]∧u6 o'∧o'=⟨1,m,l.map aE⟩∧r=dO 1 0 l.length l.length:=by
 refine BY rfl fun Q hQ=> ?_
 unfold kX
 repeat' (first| (with_reducible first| (refine hK _ _ _ ?_;clear hK K)|refine Z1 ?_)| (with_reducible refine Y2 fun K hK=> ?_)<;>(simp only[go_sem])| ((with_reducible refine Y8 ?_);try simp only[AQ.then,AQ.blk,reduceIte,Nat.reduceEqDiff])|refine⟨by omega,?_⟩|fail)
 exact lN hQ (dO 1 0 l.length l.length) _ _ rfl (by repeat' (first| ((with_reducible refine C0 ?_);exact CQ (by omega) rfl rfl (by rfl) rfl)| ((with_reducible refine D0 ?_);refine CJ ?_)|fail)) rfl (iH aJ _) ⟨rfl,rfl⟩
theorem DS {l:List Int} {cap m i:Nat} (hl:l.length<2^20) (hc:l.length≤cap) (hi:i<nx) (ho:H i=some ⟨1,m,l.map aE⟩) (h:K (dO 1 i l.length l.length) (H.set i ⟨1,m,l.map aE⟩) nx):
 aB Tryz.prog iP [dO 1 i l.length cap] H nx K:=
 (DQ l cap m hl hc).PN i rfl (hU ⟨l7 (by omega) rfl rfl rfl rfl,trivial⟩) hi ho (iH aJ _) fun r o' ⟨h1,h2⟩=>by
  subst h1;subst h2;exact h
theorem NF (l:List Int) (hl:l.length<2^20):aB Tryz.prog fF [dS (l.map aE)] (hp []) 0
 fun r H' n'=>∃cap,l.length≤cap∧n'=1∧H'=hp [(0,⟨1,cap,l.map aE⟩)]∧r=dO 1 0 l.length l.length:=by
 refine MR rfl fun Q hQ=> ?_
 unfold sZ
 repeat' (first| (with_reducible first| (refine hK _ _ _ ?_;clear hK K)|refine Z1 ?_)| (first| (with_reducible refine Y2 fun K hK=> ?_)| (refine B0 hl (fun cap hcap=> ?_))| (refine DS hl hcap (by omega) rfl ?_))<;>(simp only[go_sem])| ((with_reducible refine Y8 ?_);try simp only[AQ.then,AQ.blk,reduceIte,Nat.reduceEqDiff])|fail)
 (refine hQ _ _ _ _ _ 1 (dO 1 0 l.length l.length) (hp [(0,⟨1,cap,l.map aE⟩)]) _ _ (.inr rfl) rfl (cV [5] (by omega) (by repeat' (first| ((with_reducible refine C0 ?_);exact CQ (by omega) rfl rfl (by rfl) rfl)| ((with_reducible refine D0 ?_);refine CJ ?_)|fail)) ⟨⟨by simp,by simp[sgL],_,rfl,aO (aC aJ _) rfl rfl⟩,trivial⟩ (by simp[sgL])) ?_)
 exact⟨cap,hcap,rfl,rfl,rfl⟩
theorem lH {l:List Int} (hl:l.length<2^20) (h: ∀m,l.length≤m→K (dO 1 nx l.length l.length) (H.set nx ⟨1,m,l.map aE⟩) (nx+1)):aB Tryz.prog fF [dS (l.map aE)] H nx K:=by
 refine(NF l hl).x4 (l0:=[]) [] rfl ⟨aF rfl,trivial⟩ trivial (by simp) (by simp) (by simp) fun r H' n' _ ⟨cap,q0,q1,q2,q3⟩=> ?_
 have h:=h cap q0
 subst q1;subst q2;subst q3
 have e1:back (tau 0 nx (nth [])) (hp [(0,⟨1,cap,l.map aE⟩)]) 1 H=H.set nx ⟨1,cap,l.map aE⟩:=by
  simp only[back,hp,aA.set,tau,Nat.not_lt_zero,if_true,if_false,Nat.sub_zero,Nat.add_zero,Option.map_some,j8,aA.dK]
 rw[←e1] at h
 exact h
theorem sU {τ:Nat→Nat} {n m:Nat} {l:List Job}:bC.rn τ ⟨n,m,l.map aK⟩=⟨n,m,l.map aK⟩:=by
 refine tC fun r hr x hx=> ?_
 obtain⟨y,_,rfl⟩:=List.mem_map.1 hr
 exact List.all_eq_true.1 (aV y).2 x hx
theorem wK (l:List Job) (hl:l.length<2^20):aB Tryz.prog eQ [dS (l.map aK)] (hp []) 0
 fun r H' n'=>∃cap,l.length≤cap∧n'=1∧H'=hp [(0,⟨5,cap,l.map aK⟩)]∧r=dO 5 0 l.length cap:=by
 refine uV rfl fun Q hQ=> ?_
 unfold gI
 refine aQ.seq (aQ.C6 5 ?_)
 repeat' (first| (with_reducible first| (refine hK _ _ _ ?_;clear hK K)| (refine hA ?_;clear hA hB A B)| (refine hB ?_;clear hA hB A B)|refine Z1 ?_|refine Z2 ?_|refine Z7 (fun h=> ?_) fun h=> ?_|refine fun(cap:Nat) (hcap:_≤cap)=> ?_|refine fun(hcp:_≤cap)=> ?_|refine fun(b:Bool)=> ?_)| (with_reducible first|refine Y2 fun K hK=> ?_|refine Y3 fun A B hA hB=> ?_)<;>(simp only[go_sem])| ((with_reducible refine Y8 ?_);try simp only[AQ.then,AQ.blk,reduceIte,Nat.reduceEqDiff])| ((with_reducible refine Z8 (fun h=> ?_) (fun h=> ?_))<;>try subst h)|refine⟨by omega,?_⟩|fail)
 all_goals first
  | (have hcap':=Nat.le_refl cap
     (refine hQ _ _ _ _ _ 1 (dO 5 0 l.length cap) (hp [(0,⟨5,cap,l.map aK⟩)]) _ _ (.inr rfl) rfl (cV [6] (by omega) (by repeat' (first| ((with_reducible refine C0 ?_);exact CQ (by omega) rfl rfl (by rfl) rfl)| ((with_reducible refine D0 ?_);refine CJ ?_)|fail)) ⟨⟨by simp,by simp[sgL],_,rfl,aO (aC aV _) rfl rfl⟩,trivial⟩ (by simp[sgL])) ?_)
     exact⟨cap,by omega,rfl,rfl,rfl⟩)
  | (have h0:l=[]:=List.eq_nil_of_length_eq_zero (by omega)
     subst h0
     (refine hQ _ _ _ _ _ 1 (dO 5 0 0 0) (hp [(0,⟨5,0,([]:List Job).map aK⟩)]) _ _ (.inr rfl) rfl (cV [0] (by omega) (by repeat' (first| ((with_reducible refine C0 ?_);exact CC)| ((with_reducible refine D0 ?_);refine CJ ?_)|fail)) ⟨⟨by simp,by simp[sgL],_,rfl,aO (aC aV _) rfl rfl⟩,trivial⟩ (by simp[sgL])) ?_)
     exact⟨0,Nat.le_refl _,rfl,rfl,rfl⟩)
theorem vW {l:List Job} (hl:l.length<2^20) (h: ∀cap,l.length≤cap→K (dO 5 nx l.length cap) (H.set nx ⟨5,cap,l.map aK⟩) (nx+1)):aB Tryz.prog eQ [dS (l.map aK)] H nx K:=by
 refine(wK l hl).x4 (l0:=[]) [] rfl ⟨aF rfl,trivial⟩ trivial (by simp) (by simp) (by simp) fun r H' n' _ ⟨cap,q0,q1,q2,q3⟩=> ?_
 have h:=h cap q0
 subst q1;subst q2;subst q3
 have e1:back (tau 0 nx (nth [])) (hp [(0,⟨5,cap,l.map aK⟩)]) 1 H=H.set nx ⟨5,cap,l.map aK⟩:=by
  simp only[back,hp,aA.set,tau,Nat.not_lt_zero,if_true,if_false,Nat.sub_zero,Nat.add_zero,Option.map_some,sU,aA.dK]
 rw[←e1] at h
 exact h
theorem w8 (l:List Job) (cap m:Nat) (hl:l.length<2^20) (hc:l.length≤cap):aB Tryz.prog eW [dO 5 0 l.length cap] (hp [(0,⟨5,m,l.map aK⟩)]) 1
 fun r H' n'=>n'=1∧ ∃o',H'=hp [(0,o')]∧u6 o'∧o'=⟨5,m,l.map aK⟩∧r=dO 5 0 l.length l.length:=by
 refine wN rfl fun Q hQ=> ?_
 unfold gT
 repeat' (first| (with_reducible first| (refine hK _ _ _ ?_;clear hK K)|refine Z1 ?_)| (with_reducible refine Y2 fun K hK=> ?_)<;>(simp only[go_sem])| ((with_reducible refine Y8 ?_);try simp only[AQ.then,AQ.blk,reduceIte,Nat.reduceEqDiff])|refine⟨by omega,?_⟩|fail)
 exact lN hQ (dO 5 0 l.length l.length) _ _ rfl (by repeat' (first| ((with_reducible refine C0 ?_);exact CQ (by omega) rfl rfl (by rfl) rfl)| ((with_reducible refine D0 ?_);refine CJ ?_)|fail)) rfl (iH aV _) ⟨rfl,rfl⟩
theorem wS {l:List Job} {cap m i:Nat} (hl:l.length<2^20) (hc:l.length≤cap) (hi:i<nx) (ho:H i=some ⟨5,m,l.map aK⟩) (h:K (dO 5 i l.length l.length) (H.set i ⟨5,m,l.map aK⟩) nx):
 aB Tryz.prog eW [dO 5 i l.length cap] H nx K:=
 (w8 l cap m hl hc).PN i rfl (hU ⟨l7 (by omega) rfl rfl rfl rfl,trivial⟩) hi ho (iH aV _) fun r o' ⟨h1,h2⟩=>by
  subst h1;subst h2;exact h
theorem BJ (l:List Job) (hl:l.length<2^20):aB Tryz.prog gN [dS (l.map aK)] (hp []) 0
 fun r H' n'=>∃cap,l.length≤cap∧n'=1∧H'=hp [(0,⟨5,cap,l.map aK⟩)]∧r=dO 5 0 l.length l.length:=by
 refine zS rfl fun Q hQ=> ?_
 unfold jM
 repeat' (first| (with_reducible first| (refine hK _ _ _ ?_;clear hK K)|refine Z1 ?_)| (first| (with_reducible refine Y2 fun K hK=> ?_)| (refine vW hl (fun cap hcap=> ?_))| (refine wS hl hcap (by omega) rfl ?_))<;>(simp only[go_sem])| ((with_reducible refine Y8 ?_);try simp only[AQ.then,AQ.blk,reduceIte,Nat.reduceEqDiff])|fail)
 (refine hQ _ _ _ _ _ 1 (dO 5 0 l.length l.length) (hp [(0,⟨5,cap,l.map aK⟩)]) _ _ (.inr rfl) rfl (cV [5] (by omega) (by repeat' (first| ((with_reducible refine C0 ?_);exact CQ (by omega) rfl rfl (by rfl) rfl)| ((with_reducible refine D0 ?_);refine CJ ?_)|fail)) ⟨⟨by simp,by simp[sgL],_,rfl,aO (aC aV _) rfl rfl⟩,trivial⟩ (by simp[sgL])) ?_)
 exact⟨cap,hcap,rfl,rfl,rfl⟩
theorem BC {l:List Job} (hl:l.length<2^20) (h: ∀m,l.length≤m→K (dO 5 nx l.length l.length) (H.set nx ⟨5,m,l.map aK⟩) (nx+1)):aB Tryz.prog gN [dS (l.map aK)] H nx K:=by
 refine(BJ l hl).x4 (l0:=[]) [] rfl ⟨aF rfl,trivial⟩ trivial (by simp) (by simp) (by simp) fun r H' n' _ ⟨cap,q0,q1,q2,q3⟩=> ?_
 have h:=h cap q0
 subst q1;subst q2;subst q3
 have e1:back (tau 0 nx (nth [])) (hp [(0,⟨5,cap,l.map aK⟩)]) 1 H=H.set nx ⟨5,cap,l.map aK⟩:=by
  simp only[back,hp,aA.set,tau,Nat.not_lt_zero,if_true,if_false,Nat.sub_zero,Nat.add_zero,Option.map_some,sU,aA.dK]
 rw[←e1] at h
 exact h
theorem O8 (l:List Job) (hl:l.length<2^20) (hd: ∀j∈l,j.rsp.data.length<2^20):aB Tryz.prog fW [dS (l.map aK)] (hp []) 0
 fun r H' n'=>∃cap,l.length≤cap∧n'=1∧H'=hp [(0,⟨5,cap,l.map aK⟩)]∧r=dO 5 0 l.length l.length:=by
 refine NS rfl fun Q hQ=> ?_
 unfold u7
 repeat' (first| (with_reducible first| (refine hK _ _ _ ?_;clear hK K)|refine Z1 ?_|refine Z3 fun KB hKB=> ?_)| (first| (with_reducible refine Y2 fun K hK=> ?_)| (refine BC hl (fun m0 hm0=> ?_)))<;>(simp only[go_sem])|fail)
 (have hKX:=hKB;clear hKB)
 refine aQ.wI 1 (β:=Nat) (fun b k=>en [(10,dI k),(9,dI l.length),(8,dO 5 b l.length l.length),(3,dO 5 b l.length l.length)])
  (fun b k=>hp [(b,⟨5,m0,l.map aK⟩)]) (fun k=>k≤l.length) (fun k=>l.length-k) 0 (by(refine dH [4] (by omega) (by repeat' (first| (with_reducible first|exact C1|refine C2 ?_ ?_)| ((with_reducible refine C0 ?_);exact CQ (by omega) rfl rfl (by rfl) rfl)| ((with_reducible refine D0 ?_);first|exact CA rfl|refine CJ ?_)|fail)) ⟨⟨by simp,by simp[sgL],_,rfl,aO (aC aV _) rfl rfl⟩,trivial⟩ (by simp[sgL]))) (by omega) ?_
 rintro k hk KL hKL
 by_cases hlt:k<l.length
 ·have hmd:=hd _ (cY hlt)
  repeat' (first| (with_reducible first| (refine hK _ _ _ ?_;clear hK K)| (refine hA ?_;clear hA hB A B)|refine Z1 ?_|refine Z2 ?_|refine Z3 fun KB hKB=> ?_|refine Z4 (by omega) ?_)| (first| (with_reducible first|refine Y2 fun K hK=> ?_|refine Y3 fun A B hA hB=> ?_)| (refine lH hmd (fun m hm=> ?_)))<;>(simp only[go_sem];try simp (disch:=omega) only[Iw])| ((with_reducible refine Y0 ?_);simp only[AQ.then,AQ.blk])|refine⟨by omega,?_⟩| (with_reducible refine hKB _ _ _ ?_)|fail)
  exact hKL _ _ _ (k+1) (by omega) (by(refine dH [8] (by omega) (by repeat' (first| (with_reducible first|exact C1|refine C2 ?_ ?_)| ((with_reducible refine C0 ?_);exact CQ (by omega) rfl rfl (by rfl) rfl)| ((with_reducible refine D0 ?_);first|exact CA rfl|refine CJ ?_)|fail)) ⟨⟨by simp,by simp[sgL],_,rfl,akC (R:=l.map aK) (r':=aK (l.getD k default)) rfl rfl (as1 hlt) (fun r hr=>(aC aV l r hr).2) rfl (aH (bG rfl) (aH (bG rfl) (aH (bG rfl) (aH (bG rfl) (aH (bU aJ rfl rfl (Nat.le_refl _) (by simp)) eR)))))⟩,trivial⟩ (by simp[sgL]))) (by omega) (by omega)
 ·repeat' (first| (with_reducible first| (refine hK _ _ _ ?_;clear hK K)| (refine hB ?_;clear hA hB A B)|refine Z1 ?_|refine Z5 (by omega) ?_|refine hKX _ _ _ ?_)| (with_reducible first|refine Y2 fun K hK=> ?_|refine Y3 fun A B hA hB=> ?_)<;>(simp only[go_sem])| ((with_reducible first|refine Y8 ?_|refine Y9 ?_);try simp only[AQ.then,AQ.blk,reduceIte,Nat.reduceEqDiff])|fail)
  (refine hQ _ _ _ _ _ 1 (dO 5 0 l.length l.length) (hp [(0,⟨5,m0,l.map aK⟩)]) _ _ (.inr rfl) rfl (cV [8] (by omega) (by repeat' (first| ((with_reducible refine C0 ?_);exact CQ (by omega) rfl rfl (by rfl) rfl)| ((with_reducible refine D0 ?_);refine CJ ?_)|fail)) ⟨⟨by simp,by simp[sgL],_,rfl,aO (aC aV _) rfl rfl⟩,trivial⟩ (by simp[sgL])) ?_)
  exact⟨m0,hm0,rfl,rfl,rfl⟩
theorem lX {l:List Job} (hl:l.length<2^20) (hd: ∀j∈l,j.rsp.data.length<2^20) (h: ∀m,l.length≤m→K (dO 5 nx l.length l.length) (H.set nx ⟨5,m,l.map aK⟩) (nx+1)):aB Tryz.prog fW [dS (l.map aK)] H nx K:=by
 refine(O8 l hl hd).x4 (l0:=[]) [] rfl ⟨aF rfl,trivial⟩ trivial (by simp) (by simp) (by simp) fun r H' n' _ ⟨cap,q0,q1,q2,q3⟩=> ?_
 have h:=h cap q0
 subst q1;subst q2;subst q3
 have e1:back (tau 0 nx (nth [])) (hp [(0,⟨5,cap,l.map aK⟩)]) 1 H=H.set nx ⟨5,cap,l.map aK⟩:=by
  simp only[back,hp,aA.set,tau,Nat.not_lt_zero,if_true,if_false,Nat.sub_zero,Nat.add_zero,Option.map_some,sU,aA.dK]
 rw[←e1] at h
 exact h
theorem D6 (w u:List Int) (hw:w.length<2^20) (hu:u.length<2^20):aB Tryz.prog fQ [dA [.isl (w.map aE),.isl (u.map aE)]] (hp []) 0
 fun r H' n'=>∃m0 m1,w.length≤m0∧u.length≤m1∧n'=2∧H'=hp [(0,⟨1,m0,w.map aE⟩),(1,⟨1,m1,u.map aE⟩)]∧r=dA [.osl 1 0 0 w.length w.length,.osl 1 1 0 u.length u.length]:=by
 refine BU rfl fun Q hQ=> ?_
 unfold lG
 repeat' (first| (with_reducible first| (refine hK _ _ _ ?_;clear hK K)|refine Z1 ?_)| (first| (with_reducible refine Y2 fun K hK=> ?_)| (refine lH hw (fun m0 hm0=> ?_))| (refine lH hu (fun m1 hm1=> ?_)))<;>(simp only[go_sem])| ((with_reducible refine Y8 ?_);try simp only[AQ.then,AQ.blk,reduceIte,Nat.reduceEqDiff])|fail)
 (refine hQ _ _ _ _ _ 2 (dA [.osl 1 0 0 w.length w.length,.osl 1 1 0 u.length u.length]) (hp [(0,⟨1,m0,w.map aE⟩),(1,⟨1,m1,u.map aE⟩)]) _ _ (.inr rfl) rfl (cV [12,13] (by omega) (by repeat' (first| ((with_reducible refine C0 ?_);exact CQ (by omega) rfl rfl (by rfl) rfl)| ((with_reducible refine D0 ?_);refine C9 ?_)|exact C3|refine C4 ?_ ?_|fail)) ⟨⟨by simp,by simp[sgL],_,rfl,aO (aC aJ _) rfl rfl⟩,⟨by simp,by simp[sgL],_,rfl,aO (aC aJ _) rfl rfl⟩,trivial⟩ (by simp[sgL])) ?_)
 exact⟨m0,m1,hm0,hm1,rfl,rfl,rfl⟩
theorem s7 {w u:List Int} (hw:w.length<2^20) (hu:u.length<2^20) (h: ∀m0 m1,w.length≤m0→u.length≤m1→K (dA [.osl 1 nx 0 w.length w.length,.osl 1 (nx+1) 0 u.length u.length]) ((H.set nx ⟨1,m0,w.map aE⟩).set (nx+1) ⟨1,m1,u.map aE⟩) (nx+2)):aB Tryz.prog fQ [dA [.isl (w.map aE),.isl (u.map aE)]] H nx K:=by
 refine(D6 w u hw hu).x4 (l0:=[]) [] rfl ⟨aF rfl,trivial⟩ trivial (by simp) (by simp) (by simp) fun r H' n' _ ⟨m0,m1,q0,q0',q1,q2,q3⟩=> ?_
 have h:=h m0 m1 q0 q0'
 subst q1;subst q2;subst q3
 have e1:back (tau 0 nx (nth [])) (hp [(0,⟨1,m0,w.map aE⟩),(1,⟨1,m1,u.map aE⟩)]) 2 H=(H.set nx ⟨1,m0,w.map aE⟩).set (nx+1) ⟨1,m1,u.map aE⟩:=by
  simp[back,hp,aA.set,aA.nil,tau,nth,j8,sU,aA.dK,aA.pU]
 rw[←e1] at h
 exact h
def oIm (i0 i1 i2 i3 i4 i5 c0 c1 c2 c3 c4 c5:Nat) (s:TSt):List D1:=[.osl 1 i0 0 s.words.length c0,.osl 1 i1 0 s.holds.length c1,.osl 1 i2 0 s.asked.length c2,.osl 5 i3 0 s.wait.length c3,.osl 5 i4 0 s.done.length c4,.osl 5 i5 0 s.told.length c5]
theorem EJ (c:Cfg) (s:TSt) (hb:aY c) (hs:rL c s):aB Tryz.prog iO [dA (eSt s)] (hp []) 0
 fun r H' n'=>∃m0 m1 m2 m3 m4 m5,(s.words.length≤m0∧s.holds.length≤m1∧s.asked.length≤m2∧s.wait.length≤m3∧s.done.length≤m4∧s.told.length≤m5)∧n'=6∧H'=hp [(0,⟨1,m0,s.words.map aE⟩),(1,⟨1,m1,s.holds.map aE⟩),(2,⟨1,m2,s.asked.map aE⟩),(3,⟨5,m3,s.wait.map aK⟩),(4,⟨5,m4,s.done.map aK⟩),(5,⟨5,m5,s.told.map aK⟩)]∧
  r=dA (oIm 0 1 2 3 4 5 s.words.length s.holds.length s.asked.length s.wait.length s.done.length s.told.length s):=by
 have hl:=hs.lens hb
 have hwl:=hs.atm.wl
 have hhl:=hs.atm.hl
 have hal:=hs.mF
 have hd:=hs.asK
 refine C7 rfl fun Q hQ=> ?_
 unfold lA
 repeat' (first| (with_reducible first| (refine hK _ _ _ ?_;clear hK K)|refine Z1 ?_)| (first| (with_reducible refine Y2 fun K hK=> ?_)| (refine s7 (w:=s.words) (u:=s.holds) (by omega) (by omega) (fun m0 m1 hm0 hm1=> ?_))| (refine lH (l:=s.asked) (by omega) (fun m2 hm2=> ?_))| (refine lX (l:=s.wait) (by omega) (fun j hj=>hd j (by simp[hj])) (fun m3 hm3=> ?_))| (refine lX (l:=s.done) (by omega) (fun j hj=>hd j (by simp[hj])) (fun m4 hm4=> ?_))| (refine lX (l:=s.told) (by omega) (fun j hj=>hd j (by simp[hj])) (fun m5 hm5=> ?_)))<;>(simp only[go_sem])| ((with_reducible refine Y8 ?_);try simp only[AQ.then,AQ.blk,reduceIte,Nat.reduceEqDiff])|fail)
 (refine hQ _ _ _ _ _ 6 (dA (oIm 0 1 2 3 4 5 s.words.length s.holds.length s.asked.length s.wait.length s.done.length s.told.length s)) (hp [(0,⟨1,m0,s.words.map aE⟩),(1,⟨1,m1,s.holds.map aE⟩),(2,⟨1,m2,s.asked.map aE⟩),(3,⟨5,m3,s.wait.map aK⟩),(4,⟨5,m4,s.done.map aK⟩),(5,⟨5,m5,s.told.map aK⟩)]) _ _ (.inr rfl) rfl (cV [19,20,21,22,23,24] (by omega) (by repeat' (first| ((with_reducible refine C0 ?_);exact CQ (by omega) rfl rfl (by rfl) rfl)| ((with_reducible refine D0 ?_);refine C9 ?_)|exact C3|refine C4 ?_ ?_|fail)) ⟨⟨by simp,by simp[sgL],_,rfl,aO (aC aJ _) rfl rfl⟩,⟨by simp,by simp[sgL],_,rfl,aO (aC aJ _) rfl rfl⟩,⟨by simp,by simp[sgL],_,rfl,aO (aC aJ _) rfl rfl⟩,⟨by simp,by simp[sgL],_,rfl,aO (aC aV _) rfl rfl⟩,⟨by simp,by simp[sgL],_,rfl,aO (aC aV _) rfl rfl⟩,⟨by simp,by simp[sgL],_,rfl,aO (aC aV _) rfl rfl⟩,trivial⟩ (by simp[sgL])) ?_)
 exact⟨m0,m1,m2,m3,m4,m5,⟨hm0,hm1,hm2,hm3,hm4,hm5⟩,rfl,rfl,rfl⟩
theorem D9 {c:Cfg} {s:TSt} (hb:aY c) (hs:rL c s) (h: ∀m0 m1 m2 m3 m4 m5,(s.words.length≤m0∧s.holds.length≤m1∧s.asked.length≤m2∧s.wait.length≤m3∧s.done.length≤m4∧s.told.length≤m5)→K (dA (oIm nx (nx+1) (nx+2) (nx+3) (nx+4) (nx+5) s.words.length s.holds.length s.asked.length s.wait.length s.done.length s.told.length s)) ((((((H.set nx ⟨1,m0,s.words.map aE⟩).set (nx+1) ⟨1,m1,s.holds.map aE⟩).set (nx+2) ⟨1,m2,s.asked.map aE⟩).set (nx+3) ⟨5,m3,s.wait.map aK⟩).set (nx+4) ⟨5,m4,s.done.map aK⟩).set (nx+5) ⟨5,m5,s.told.map aK⟩) (nx+6)):
 aB Tryz.prog iO [dA (eSt s)] H nx K:=by
 refine(EJ c s hb hs).x4 (l0:=[]) [] rfl ⟨aF rfl,trivial⟩ trivial (by simp) (by simp) (by simp) fun r H' n' _ ⟨m0,m1,m2,m3,m4,m5,q0,q1,q2,q3⟩=> ?_
 have h:=h m0 m1 m2 m3 m4 m5 q0
 subst q1;subst q2;subst q3
 have e1:back (tau 0 nx (nth [])) (hp [(0,⟨1,m0,s.words.map aE⟩),(1,⟨1,m1,s.holds.map aE⟩),(2,⟨1,m2,s.asked.map aE⟩),(3,⟨5,m3,s.wait.map aK⟩),(4,⟨5,m4,s.done.map aK⟩),(5,⟨5,m5,s.told.map aK⟩)]) 6 H=((((((H.set nx ⟨1,m0,s.words.map aE⟩).set (nx+1) ⟨1,m1,s.holds.map aE⟩).set (nx+2) ⟨1,m2,s.asked.map aE⟩).set (nx+3) ⟨5,m3,s.wait.map aK⟩).set (nx+4) ⟨5,m4,s.done.map aK⟩).set (nx+5) ⟨5,m5,s.told.map aK⟩):=by
  simp[back,hp,aA.set,aA.nil,tau,nth,j8,sU,aA.dK,aA.pU]
 rw[←e1] at h
 exact h
end
end Go.Proofs.YtegiblhkjfiooaaGreat
end
section
namespace Go.Proofs.YtegiblhkjfiooaaGreat
open Go Go.AM
set_option maxRecDepth 100000
set_option maxHeartbeats 4000000
section
variable {H : aA} {nx : Nat} {K : D → aA → Nat → Prop}
theorem MD (c:Cfg) (s:TSt) (e:Ev) (hc:kC c) (hp:c.dG.length=3) (hs:akW c s):aB Tryz.prog mR [dA (cH c),dA (eSt s),dA (eEv e)] .nil 0 fun rr _ _=>rr.plain=true∧rr=dI (yL c s e):=by
 refine KW rfl fun Q hQ=> ?_
 unfold rD
 have hl:=hs.asked
 by_cases hok:hT c e.who e.n
 ·have hb:=hok.1
  repeat' (first| (with_reducible first| (refine hK _ _ _ ?_;clear hK K)| (refine hA ?_;clear hA hB A B)| (refine hB ?_;clear hA hB A B)|refine Z1 ?_|refine Z2 ?_|refine Z3 fun KB hKB=> ?_|refine Z4 (by omega) ?_|refine Z6 (fun h=> ?_) fun h=> ?_)| (first| (with_reducible first|refine Y2 fun K hK=> ?_|refine Y3 fun A B hA hB=> ?_|refine Y6 (fun h=> ?_) fun h=> ?_)| (with_reducible refine zM hc hp ?_)| (with_reducible refine eG ?_)| (refine yG (l:=s.wait) (Nat.lt_trans hs.wJ (by decide)) (aF rfl) ?_)| (refine yG (l:=s.done) (Nat.lt_trans hs.xW (by decide)) (aF rfl) ?_)| (refine xR (l:=s.wait) (Nat.lt_trans hs.wJ (by decide)) hp hok (fun j hj _ _=>hs.wait j hj) (aF rfl) ?_)| (refine xR (l:=s.done) (Nat.lt_trans hs.xW (by decide)) hp hok (fun j hj _ _=>hs.done j hj) (aF rfl) ?_))<;>(simp only[go_sem])| ((with_reducible refine Y8 ?_);try simp only[AQ.then,AQ.blk,reduceIte,Nat.reduceEqDiff])| ((with_reducible refine Y0 ?_);simp only[AQ.then,AQ.blk])|refine⟨by omega,?_⟩| (with_reducible first|refine hKB _ _ _ ?_| (clear hKB KB;refine hKB _ _ _ ?_))|fail)
  all_goals
   refine bJ hQ _ rfl rfl (nQ ?_)
   unfold yL
   grind
 ·repeat' (first| (with_reducible first| (refine hK _ _ _ ?_;clear hK K)| (refine hA ?_;clear hA hB A B)|refine Z1 ?_)| (first| (with_reducible first|refine Y2 fun K hK=> ?_|refine Y3 fun A B hA hB=> ?_|refine Y4 (by omega) ?_)| (with_reducible refine zM hc hp ?_))<;>(simp only[go_sem])| ((with_reducible refine Y8 ?_);try simp only[AQ.then,AQ.blk,reduceIte,Nat.reduceEqDiff])|fail)
  all_goals
   refine bJ hQ _ rfl rfl (nQ ?_)
   unfold yL
   grind
theorem sP {c:Cfg} {s:TSt} {e:Ev} (hc:kC c) (hp:c.dG.length=3) (hs:akW c s) {d1:D} (hd1:CvD H (fun _=>True) id 0 (dA (eSt s)) d1) (h:K (dI (yL c s e)) H nx):aB Tryz.prog mR [dA (cH c),d1,dA (eEv e)] H nx K:=
 (MD c s e hc hp hs).pure rfl (aI ⟨aF rfl,hd1,aF rfl,trivial⟩) (fun r hr=>hr▸h)
end
end Go.Proofs.YtegiblhkjfiooaaGreat
end
section
namespace Go.Proofs.YtegiblhkjfiooaaGreat
open Go Go.AM
set_option maxRecDepth 100000
set_option maxHeartbeats 8000000
section
variable {H : aA} {nx : Nat} {K : D → aA → Nat → Prop}
abbrev dW (n:Int):D:=.one (.c (.v (.int .u64 n)))
theorem L4:aB Tryz.prog mP [dW 1,dW 6] .nil 0 fun rr _ _=>rr.plain=true∧rr= .tup [.c (.v (.int .u64 0)),.c (.v (.int .u64 6))]:=by
 refine KQ rfl fun Q hQ=> ?_
 unfold qK
 repeat' (first| (with_reducible first| (refine hK _ _ _ ?_;clear hK K)|refine Z1 ?_)| (with_reducible refine Y2 fun K hK=> ?_)<;>(simp only[go_sem])| ((with_reducible refine Y8 ?_);try simp only[AQ.then,AQ.blk,reduceIte,Nat.reduceEqDiff])|fail)
 exact bJ hQ (.tup [.c (.v (.int .u64 0)),.c (.v (.int .u64 6))]) (by rfl) rfl rfl
theorem LU (h:K (.tup [.c (.v (.int .u64 0)),.c (.v (.int .u64 6))]) H nx):aB Tryz.prog mP [dW 1,dW 6] H nx K:=
 (L4).pure rfl (aI ⟨aF rfl,aF rfl,trivial⟩) (fun r hr=>hr▸h)
theorem PH:aB Tryz.prog pZ [dW 1,dW 6] .nil 0 fun rr _ _=>rr.plain=true∧rr= .tup [.c (.v (.int .u64 0)),.c (.v (.int .u64 6))]:=by
 refine NN rfl fun Q hQ=> ?_
 unfold uK
 repeat' (first| (with_reducible first| (refine hK _ _ _ ?_;clear hK K)| (refine hB ?_;clear hA hB A B)|refine Z1 ?_|refine Z2 ?_)| (first| (with_reducible first|refine Y2 fun K hK=> ?_|refine Y3 fun A B hA hB=> ?_)| (with_reducible refine LU ?_))<;>(simp only[go_sem])| ((with_reducible refine Y8 ?_);try simp only[AQ.then,AQ.blk,reduceIte,Nat.reduceEqDiff])|fail)
 all_goals first|with_reducible refine bJ hQ _ rfl rfl ?_|skip
 all_goals rfl
theorem O2 (h:K (.tup [.c (.v (.int .u64 0)),.c (.v (.int .u64 6))]) H nx):aB Tryz.prog pZ [dW 1,dW 6] H nx K:=
 (PH).pure rfl (aI ⟨aF rfl,aF rfl,trivial⟩) (fun r hr=>hr▸h)
theorem A5:aB Tryz.prog eV [dO 1 0 1 1,dI 6] (hp [(0,⟨1,1,[(-1:Int)].map aE⟩)]) 1
 fun r H' n'=>n'=2∧H'=hp [(1,⟨1,6,(List.replicate 6 (-1:Int)).map aE⟩)]∧r=dO 1 1 6 6:=by
 refine zZ rfl fun Q hQ=> ?_
 unfold jN
 have w1:IntKind.u64.wrap 1=1:=by decide
 have w6:IntKind.u64.wrap 6=6:=by decide
 have m16:min 1 6=1:=rfl
 have h11:((1:Nat):Int)=1:=rfl
 generalize hl0:[(-1:Int)]=l0 at*
 have hlen:l0.length=1:=by subst hl0;rfl
 repeat' (first| (with_reducible first| (refine hK _ _ _ ?_;clear hK K)| (refine hB ?_;clear hA hB A B)|refine Z1 ?_|refine Z2 ?_|refine Z3 fun KB hKB=> ?_)| (first| (with_reducible first|refine Y2 fun K hK=> ?_|refine Y3 fun A B hA hB=> ?_)| (with_reducible refine O2 ?_))<;>(simp only[go_sem,hlen,w1,w6,h11,m16];try simp (disch:=omega) only[Iw])|refine⟨by omega,?_⟩|fail)
 (have hKX:=hKB;clear hKB)
 obtain⟨R,hR⟩: ∃R:Nat→List Int,R=fun n=>List.replicate n (-1:Int)++List.replicate (6-n) 0:=⟨_,rfl⟩
 refine aQ.wI 1 (β:=Nat) (fun b n=>en [(8,dI n),(7,dO 1 b 6 6)]) (fun b n=>hp [(b,⟨1,6,(R n).map aE⟩)]) (fun n=>n=1∨n=2∨n=4∨n=6) (fun n=>6-n) 1
  (by(refine dH [23] (by omega) (by repeat' (first| (with_reducible first|exact C1|refine C2 ?_ ?_)| ((with_reducible refine C0 ?_);exact CQ (by omega) rfl rfl (by rfl) rfl)| ((with_reducible refine D0 ?_);first|exact CA rfl|refine CJ ?_)|fail)) ⟨⟨by simp,by simp[sgL],_,rfl,aO (aC aJ _) (by subst hR;subst hl0;rfl) rfl⟩,trivial⟩ (by simp[sgL]))) (.inl rfl) ?_
 intro n hn KL hKL
 have m15:min 1 5=1:=rfl
 have m24:min 2 4=2:=rfl
 have m42:min 4 2=2:=rfl
 have hRl: ∀n,n≤6→(R n).length=6:=fun n hn=>by subst hR;simp;omega
 have r1:=hRl 1 (by decide)
 have r2:=hRl 2 (by decide)
 have r4:=hRl 4 (by decide)
 rcases hn with rfl|rfl|rfl|rfl
 ·repeat' (first| (with_reducible first| (refine hK _ _ _ ?_;clear hK K)| (refine hA ?_;clear hA hB A B)|refine Z1 ?_|refine Z2 ?_|refine Z3 fun KB hKB=> ?_|refine Z4 (by omega) ?_)| (with_reducible first|refine Y2 fun K hK=> ?_|refine Y3 fun A B hA hB=> ?_)<;>(simp only[go_sem,r1,m15];try simp (disch:=omega) only[Iw])| ((with_reducible refine Y0 ?_);simp only[AQ.then,AQ.blk])|refine⟨by omega,?_⟩| (with_reducible refine hKB _ _ _ ?_)|fail)
  exact hKL _ _ _ 2 (by omega) (by(refine dH [29] (by omega) (by repeat' (first| (with_reducible first|exact C1|refine C2 ?_ ?_)| ((with_reducible refine C0 ?_);exact CQ (by omega) rfl rfl (by rfl) rfl)| ((with_reducible refine D0 ?_);first|exact CA rfl|refine CJ ?_)|fail)) ⟨⟨by simp,by simp[sgL],_,rfl,aO (aC aJ _) (by subst hR;rfl) rfl⟩,trivial⟩ (by simp[sgL]))) (by omega) (by omega)
 ·repeat' (first| (with_reducible first| (refine hK _ _ _ ?_;clear hK K)| (refine hA ?_;clear hA hB A B)|refine Z1 ?_|refine Z2 ?_|refine Z3 fun KB hKB=> ?_|refine Z4 (by omega) ?_)| (with_reducible first|refine Y2 fun K hK=> ?_|refine Y3 fun A B hA hB=> ?_)<;>(simp only[go_sem,r2,m24];try simp (disch:=omega) only[Iw])| ((with_reducible refine Y0 ?_);simp only[AQ.then,AQ.blk])|refine⟨by omega,?_⟩| (with_reducible refine hKB _ _ _ ?_)|fail)
  exact hKL _ _ _ 4 (by omega) (by(refine dH [29] (by omega) (by repeat' (first| (with_reducible first|exact C1|refine C2 ?_ ?_)| ((with_reducible refine C0 ?_);exact CQ (by omega) rfl rfl (by rfl) rfl)| ((with_reducible refine D0 ?_);first|exact CA rfl|refine CJ ?_)|fail)) ⟨⟨by simp,by simp[sgL],_,rfl,aO (aC aJ _) (by subst hR;rfl) rfl⟩,trivial⟩ (by simp[sgL]))) (by omega) (by omega)
 ·repeat' (first| (with_reducible first| (refine hK _ _ _ ?_;clear hK K)| (refine hA ?_;clear hA hB A B)|refine Z1 ?_|refine Z2 ?_|refine Z3 fun KB hKB=> ?_|refine Z4 (by omega) ?_)| (with_reducible first|refine Y2 fun K hK=> ?_|refine Y3 fun A B hA hB=> ?_)<;>(simp only[go_sem,r4,m42];try simp (disch:=omega) only[Iw])| ((with_reducible refine Y0 ?_);simp only[AQ.then,AQ.blk])|refine⟨by omega,?_⟩| (with_reducible refine hKB _ _ _ ?_)|fail)
  exact hKL _ _ _ 6 (by omega) (by(refine dH [29] (by omega) (by repeat' (first| (with_reducible first|exact C1|refine C2 ?_ ?_)| ((with_reducible refine C0 ?_);exact CQ (by omega) rfl rfl (by rfl) rfl)| ((with_reducible refine D0 ?_);first|exact CA rfl|refine CJ ?_)|fail)) ⟨⟨by simp,by simp[sgL],_,rfl,aO (aC aJ _) (by subst hR;rfl) rfl⟩,trivial⟩ (by simp[sgL]))) (by omega) (by omega)
 ·repeat' (first| (with_reducible first| (refine hK _ _ _ ?_;clear hK K)| (refine hB ?_;clear hA hB A B)|refine Z1 ?_|refine Z5 (by omega) ?_|refine hKX _ _ _ ?_)| (with_reducible first|refine Y2 fun K hK=> ?_|refine Y3 fun A B hA hB=> ?_)<;>(simp only[go_sem])| ((with_reducible first|refine Y8 ?_|refine Y9 ?_);try simp only[AQ.then,AQ.blk,reduceIte,Nat.reduceEqDiff])|fail)
  (refine hQ _ _ _ _ _ 2 (dO 1 1 6 6) (hp [(1,⟨1,6,(List.replicate 6 (-1:Int)).map aE⟩)]) _ _ (.inr rfl) rfl (cV [29] (by omega) (by repeat' (first| ((with_reducible refine C0 ?_);exact CQ (by omega) rfl rfl (by rfl) rfl)| ((with_reducible refine D0 ?_);refine CJ ?_)|fail)) ⟨⟨by simp,by simp[sgL],_,rfl,aO (aC aJ _) (by subst hR;rfl) rfl⟩,trivial⟩ (by simp[sgL])) ?_)
  exact⟨rfl,rfl,rfl⟩
theorem AV {i0:Nat} (h0:i0<nx) (o0:H i0=some ⟨1,1,[[cI (-1)]]⟩) (h:K (dO 1 nx 6 6) ((H.del i0).set nx ⟨1,6,(List.replicate 6 (-1:Int)).map aE⟩) (nx+1)):aB Tryz.prog eV [dO 1 i0 1 1,dI 6] H nx K:=by
 refine A5.x4 [i0] rfl ⟨l7 (by simp) rfl rfl rfl rfl,aF rfl,trivial⟩ ⟨⟨by simp,id,_,o0,aO (aC aJ _) rfl rfl⟩,trivial⟩ (by simp) (by simp;omega) (by simp) fun r H' n' _ ⟨q1,q2,q3⟩=> ?_
 subst q1;subst q2;subst q3
 generalize List.replicate 6 (-1:Int)=w0 at*
 have e1:back (tau 1 nx (nth [i0])) (hp [(1,⟨1,6,w0.map aE⟩)]) 2 H=(H.del i0).set nx ⟨1,6,w0.map aE⟩:=by
  simp[back,hp,aA.set,aA.nil,tau,nth,j8,aA.dK,aA.pU]
 rw[←e1] at h
 exact h
end
end Go.Proofs.YtegiblhkjfiooaaGreat
end
section
namespace Go.Proofs.YtegiblhkjfiooaaGreat
open Go Go.AM
set_option maxRecDepth 100000
set_option maxHeartbeats 8000000
section
variable {H : aA} {nx : Nat} {K : D → aA → Nat → Prop}
theorem TO:aB Tryz.prog pS [] (hp []) 0
 fun r H' n'=>n'=1∧H'=hp [(0,⟨1,64,(List.replicate 64 (0:Int)).map aE⟩)]∧r=dA [.osl 1 0 0 64 64]:=by
 refine Q8 rfl fun Q hQ=> ?_
 unfold zL
 repeat' (first| (with_reducible first| (refine hK _ _ _ ?_;clear hK K)|refine Z1 ?_)| (with_reducible refine Y2 fun K hK=> ?_)<;>(simp only[go_sem])| ((with_reducible refine Y8 ?_);try simp only[AQ.then,AQ.blk,reduceIte,Nat.reduceEqDiff])|fail)
 (refine hQ _ _ _ _ _ 1 (dA [.osl 1 0 0 64 64]) (hp [(0,⟨1,64,(List.replicate 64 (0:Int)).map aE⟩)]) _ _ (.inr rfl) rfl (cV [1] (by omega) (by repeat' (first| ((with_reducible refine C0 ?_);exact CQ (by omega) rfl rfl (by rfl) rfl)| ((with_reducible refine D0 ?_);refine C9 ?_)|exact C3|refine C4 ?_ ?_|fail)) ⟨⟨by simp,by simp[sgL],_,rfl,aO (aC aJ _) rfl rfl⟩,trivial⟩ (by simp[sgL])) ?_)
 exact⟨rfl,rfl,rfl⟩
theorem TW (h:K (dA [.osl 1 nx 0 64 64]) (H.set nx ⟨1,64,(List.replicate 64 (0:Int)).map aE⟩) (nx+1)):aB Tryz.prog pS [] H nx K:=by
 refine TO.x4 (l0:=[]) [] rfl trivial trivial (by simp) (by simp) (by simp) fun r H' n' _ ⟨q1,q2,q3⟩=> ?_
 subst q1;subst q2;subst q3
 have e1:back (tau 0 nx (nth [])) (hp [(0,⟨1,64,(List.replicate 64 (0:Int)).map aE⟩)]) 1 H=H.set nx ⟨1,64,(List.replicate 64 (0:Int)).map aE⟩:=by
  simp only[back,hp,aA.set,tau,Nat.not_lt_zero,if_true,if_false,Nat.sub_zero,Nat.add_zero,Option.map_some,j8,aA.dK]
 rw[←e1] at h
 exact h
theorem T0:aB Tryz.prog kB [] (hp []) 0
 fun r H' n'=>n'=2∧H'=hp [(0,⟨1,64,(List.replicate 64 (0:Int)).map aE⟩),(1,⟨1,6,(List.replicate 6 (-1:Int)).map aE⟩)]∧r=dA [.osl 1 0 0 64 64,.osl 1 1 0 6 6]:=by
 refine SM rfl fun Q hQ=> ?_
 unfold zO
 generalize hw0:List.replicate 64 (0:Int)=w0 at*
 have hmn: ∀{H:aA} {nx:Nat} {K:D→aA→Nat→Prop},K (dA [.osl 1 nx 0 64 64]) (H.set nx ⟨1,64,w0.map aE⟩) (nx+1)→aB Tryz.prog pS [] H nx K:=fun h=>by subst hw0;exact TW h
 generalize hw1:List.replicate 6 (-1:Int)=w1 at*
 have hl1:w1.length=6:=by subst hw1;rfl
 have hrp: ∀{H:aA} {nx i0:Nat} {K:D→aA→Nat→Prop},i0<nx→H i0=some ⟨1,1,[[cI (-1)]]⟩→K (dO 1 nx 6 6) ((H.del i0).set nx ⟨1,6,w1.map aE⟩) (nx+1)→aB Tryz.prog eV [dO 1 i0 1 1,dI 6] H nx K:=fun h0 o0 h=>by subst hw1;exact AV h0 o0 h
 repeat' (first| (with_reducible first| (refine hK _ _ _ ?_;clear hK K)|refine Z1 ?_)| (first| (with_reducible refine Y2 fun K hK=> ?_)| (refine hmn ?_)| (refine hrp (by omega) rfl ?_))<;>(simp only[go_sem])| ((with_reducible refine Y8 ?_);try simp only[AQ.then,AQ.blk,reduceIte,Nat.reduceEqDiff])|fail)
 (refine hQ _ _ _ _ _ 2 (dA [.osl 1 0 0 64 64,.osl 1 1 0 6 6]) (hp [(0,⟨1,64,w0.map aE⟩),(1,⟨1,6,w1.map aE⟩)]) _ _ (.inr rfl) rfl (cV [6,7] (by omega) (by repeat' (first| ((with_reducible refine C0 ?_);exact CQ (by omega) rfl rfl (by rfl) rfl)| ((with_reducible refine D0 ?_);refine C9 ?_)|exact C3|refine C4 ?_ ?_|fail)) ⟨⟨by simp,by simp[sgL],_,rfl,aO (aC aJ _) rfl rfl⟩,⟨by simp,by simp[sgL],_,rfl,aO (aC aJ _) rfl rfl⟩,trivial⟩ (by simp[sgL])) ?_)
 exact⟨rfl,rfl,rfl⟩
theorem F7 (h:K (dA [.osl 1 nx 0 64 64,.osl 1 (nx+1) 0 6 6]) ((H.set nx ⟨1,64,(List.replicate 64 (0:Int)).map aE⟩).set (nx+1) ⟨1,6,(List.replicate 6 (-1:Int)).map aE⟩) (nx+2)):aB Tryz.prog kB [] H nx K:=by
 refine T0.x4 (l0:=[]) [] rfl trivial trivial (by simp) (by simp) (by simp) fun r H' n' _ ⟨q1,q2,q3⟩=> ?_
 subst q1;subst q2;subst q3
 generalize List.replicate 64 (0:Int)=w0 at*
 generalize List.replicate 6 (-1:Int)=w1 at*
 have e1:back (tau 0 nx (nth [])) (hp [(0,⟨1,64,w0.map aE⟩),(1,⟨1,6,w1.map aE⟩)]) 2 H=(H.set nx ⟨1,64,w0.map aE⟩).set (nx+1) ⟨1,6,w1.map aE⟩:=by
  simp only[asM,hp,aA.set,tau,Nat.not_lt_zero,if_true,if_false,Nat.sub_zero,Nat.add_zero,Option.map_some,j8,aA.dK,Nat.zero_ne_one,Nat.one_ne_zero]
 rw[←e1] at h
 exact h
end
end Go.Proofs.YtegiblhkjfiooaaGreat
end
section
namespace Go.Proofs.YtegiblhkjfiooaaGreat
open Go Go.AM
set_option maxRecDepth 100000
set_option maxHeartbeats 4000000
section
variable {H : aA} {nx : Nat} {K : D → aA → Nat → Prop}
theorem aoB: ∀w,(Go.sizeOf (Tryz.f235.targs.getD 0 0)).run Tryz.prog w= .ok (Tryz.prog.cellsOf (Tryz.f235.targs.getD 0 0)) w:=fun w=>by
 have h:(Tryz.prog.info? (Tryz.f235.targs.getD 0 0)).isSome=true:=by kernel_rfl
 exact run_sizeOf w (i:=(Tryz.prog.info? (Tryz.f235.targs.getD 0 0)).get h) (by simp)
theorem BS {i j off off' len len' cap cap':Nat} {oi oj:bC} (hi:H i=some oi) (hj:H j=some oj) (hij:i≠j) (h1:0<oi.ext) (h2:0<oj.ext) (hn:0<oj.n) (hc:0<cap) (hc':0<cap') (hoff:off*5<oi.ext*oi.n)
 (h:K (dB false) H nx):aoX Tryz.prog pV [.one (.c (.osl 5 i off len cap)),.one (.c (.osl 5 j off' len' cap'))] H nx K:=
 acS (fn:=Tryz.f235) Tryz.func235 (by kernel_rfl) (by kernel_rfl) (by kernel_rfl) (tS:=Tryz.f235.params.getD 0 0) (tR:=Tryz.f235.resultTypes.getD 0 0) (el:=Tryz.f235.targs.getD 0 0) (by kernel_rfl) (by kernel_rfl) aoB hi hj hij h1 h2 hn hc hc' hoff h
theorem anF {l:List Job} {j:Job} (hs:gQ l) (hn:key j∉l.map key) {k:Nat} (hk:k<l.length):aa0 (l.getD k default) j<0↔k<l.findIdx (nA j):=by
 rw[B1]
 have hg:l.getD k default=l[k]:=by simp[List.getD,hk]
 have hne:key l[k]≠key j:=fun he=>hn (he▸List.mem_map_of_mem (List.getElem_mem hk))
 rw[hg]
 constructor
 ·intro hb
  refine Classical.byContradiction fun hc=> ?_
  have hf:l.findIdx (nA j)<l.length:=by omega
  have h1:nA j l[l.findIdx (nA j)]=true:=List.findIdx_getElem (w:=hf)
  rcases Nat.lt_or_eq_of_le (Nat.le_of_not_lt hc) with hlt|he
  ·have h2:=List.pairwise_iff_getElem.1 hs _ _ hf hk hlt
   rw[nN] at h1 h2 hb
   omega
  ·simp only[he] at h1
   rw[nN] at h1 hb
   omega
 ·intro hlt
  have hb:=List.not_of_lt_findIdx hlt
  simp only[key,ne_eq,Prod.mk.injEq] at hne
  simp only[nA,decide_eq_true_eq,decide_eq_false_iff_not] at hb ⊢
  omega
theorem jX (l:List Job) (j:Job) (hl:l.length<2^20) (hs:gQ l) (hn:key j∉l.map key):aB Tryz.prog bO [dS (l.map aK),dA (aK j),.one (.c (.clo aX []))] .nil 0
 fun rr _ _=>rr.plain=true∧ ∃b,rr= .tup [.c (cI (l.findIdx (nA j):Nat)),.c (cB b)]:=by
 have hf:=List.findIdx_le_length (p:=nA j) (xs:=l)
 have hbl:=fun k hk=>anF hs hn (k:=k) hk
 generalize l.findIdx (nA j)=f at*
 refine jL rfl fun Q hQ=> ?_
 unfold cC
 repeat' (first| (with_reducible first| (refine hK _ _ _ ?_;clear hK K)|refine Z1 ?_|refine Z3 fun KB hKB=> ?_)| (with_reducible refine Y2 fun K hK=> ?_)<;>(simp only[go_sem])|fail)
 (have hKX:=hKB;clear hKB)
 refine aQ.wI 0 (β:=Nat×Nat) (fun b u=>en [(10,dI u.2),(9,dI u.1),(8,dI l.length),(4,.one (.c (.dN (aK j)))),(2,.one (.c (.clo aX []))),(0,dS (l.map aK))])
  (fun b u=>hp []) (fun u=>u.1≤f∧f≤u.2∧u.2≤l.length) (fun u=>u.2-u.1) (0,l.length) ?_ ⟨by omega,by dsimp only;omega,by dsimp only;omega⟩ ?_
 ·exact dL (Nat.le_refl _) (by repeat' (first| (with_reducible first|exact C1|refine C2 ?_ ?_)| ((with_reducible refine C0 ?_);exact CH (by rfl))| ((with_reducible refine D0 ?_);first|exact CA rfl|exact CI rfl (by simp) rfl rfl rfl|refine CJ ?_)|fail))
 rintro⟨a,b⟩ ⟨g1,g2,g3⟩ KL hKL
 dsimp only at g1 g2 g3
 by_cases hlt:a<b
 ·have hm:IntKind.i64.wrap ((IntKind.u64.wrap ((a:Int)+b)).fdiv (2^min 1 64))=((a+b)/2:Nat):=by
   rw[IntWalk.u64_in _ (by omega),Int.fdiv_eq_ediv_of_nonneg _ (by decide),IntWalk.i64_in _ (by simp;omega)]
   simp
  generalize hmm:(a+b)/2=mid at hm
  have hb:=hbl mid (by omega)
  repeat' (first| (with_reducible first| (refine hK _ _ _ ?_;clear hK K)| (refine hA ?_;clear hA hB A B)| (refine hB ?_;clear hA hB A B)|refine Z1 ?_|refine Z2 ?_|refine Z3 fun KB hKB=> ?_|refine Z4 (by omega) ?_|refine Z6 (fun h=> ?_) fun h=> ?_)| (first| (with_reducible first|refine Y2 fun K hK=> ?_|refine Y3 fun A B hA hB=> ?_)| (refine lS ?_))<;>(simp only[go_sem,hm];try simp (disch:=omega) only[Iw])| ((with_reducible refine Y0 ?_);simp only[AQ.then,AQ.blk])|refine⟨by omega,?_⟩| (with_reducible refine hKB _ _ _ ?_)|fail)
  ·exact hKL _ _ _ (mid+1,b) (by omega) (dL (Nat.le_refl _) (by repeat' (first| (with_reducible first|exact C1|refine C2 ?_ ?_)| ((with_reducible refine C0 ?_);exact CH (by rfl))| ((with_reducible refine D0 ?_);first|exact CA rfl|refine CJ ?_)|fail))) ⟨by dsimp only;omega,by dsimp only;omega,by dsimp only;omega⟩ (by dsimp only;omega)
  ·exact hKL _ _ _ (a,mid) (by omega) (dL (Nat.le_refl _) (by repeat' (first| (with_reducible first|exact C1|refine C2 ?_ ?_)| ((with_reducible refine C0 ?_);exact CH (by rfl))| ((with_reducible refine D0 ?_);first|exact CA rfl|refine CJ ?_)|fail))) ⟨by dsimp only;omega,by dsimp only;omega,by dsimp only;omega⟩ (by dsimp only;omega)
 ·repeat' (first| (with_reducible first| (refine hK _ _ _ ?_;clear hK K)| (refine hB ?_;clear hA hB A B)|refine Z1 ?_|refine Z5 (by omega) ?_|refine hKX _ _ _ ?_)| (first| (with_reducible first|refine Y2 fun K hK=> ?_|refine Y3 fun A B hA hB=> ?_|refine Y6 (fun h=> ?_) fun h=> ?_)| (refine lS ?_))<;>(simp only[go_sem])| ((with_reducible first|refine Y8 ?_|refine Y9 ?_);try simp only[AQ.then,AQ.blk,reduceIte,Nat.reduceEqDiff])|refine⟨by omega,?_⟩|fail)
  all_goals
   have ha:a=f:=by omega
   subst ha
   exact hQ _ _ _ _ _ 0 (.tup [.c (cI _),.c (cB _)]) .nil _ _ (.inr rfl) rfl (W4 (aF rfl)) ⟨rfl,_,rfl⟩
theorem j7 {l:List Job} {j:Job} {d:D} (hl:l.length<2^20) (hs:gQ l) (hn:key j∉l.map key) (hd:CvD H (fun _=>True) id 0 (dS (l.map aK)) d) (h: ∀b,K (.tup [.c (cI (l.findIdx (nA j):Nat)),.c (cB b)]) H nx):
 aB Tryz.prog bO [d,dA (aK j),.one (.c (.clo aX []))] H nx K:=
 (jX l j hl hs hn).pure rfl (aI ⟨hd,aF rfl,iV rfl,trivial⟩) fun r ⟨b,hr⟩=>hr▸h b
theorem anN {l:List Job} {j:Job} {i:Nat} {z:List D1} (hi:i≤l.length):wr (wr ((l.take i).map aK++List.replicate (l.length+1-i) z) i [aK j]) (i+1) (((l.drop i).take (l.length-i)).map aK)=(l.take i++j::l.drop i).map aK:=by
 have h1:((l.take i).map aK).length=i:=by simp;omega
 have h2:(l.drop i).take (l.length-i)=l.drop i:=List.take_of_length_le (by simp)
 have h3:wr ((l.take i).map aK++List.replicate (l.length+1-i) z) i [aK j]=(l.take i).map aK++[aK j]++List.replicate (l.length-i) z:=by
  unfold wr
  rw[List.take_append_of_le_length (by omega),List.take_of_length_le (by omega),List.drop_append,List.drop_of_length_le (by simp;omega),h1]
  simp only[List.length_cons,List.length_nil,List.nil_append,List.drop_replicate]
  congr 2;omega
 rw[h3,h2]
 have h4:((l.take i).map aK++[aK j]).length=i+1:=by simp;omega
 unfold wr
 have h5:List.drop (i+1+((l.drop i).map aK).length) ((l.take i).map aK++[aK j]++List.replicate (l.length-i) z)=[]:=List.drop_of_length_le (by simp;omega)
 rw[h5,List.take_append_of_le_length (by omega),List.take_of_length_le (by omega)]
 simp
theorem anU {l:List Job} {j:Job} {i:Nat} (hi:i<l.length):wr (wr (l.map aK) (i+1) (((l.drop i).take (l.length-i)).map aK)) i [aK j]=(l.take i++j::l.drop i).map aK:=by
 have h2:(l.drop i).take (l.length-i)=l.drop i:=List.take_of_length_le (by simp)
 rw[h2]
 have h3:wr (l.map aK) (i+1) ((l.drop i).map aK)=(l.take (i+1)).map aK++(l.drop i).map aK:=by
  unfold wr
  have h5:List.drop (i+1+((l.drop i).map aK).length) (l.map aK)=[]:=List.drop_of_length_le (by simp;omega)
  rw[h5,List.append_nil,List.map_take]
 rw[h3]
 have h4:((l.take (i+1)).map aK).length=i+1:=by simp;omega
 unfold wr
 have h6:List.drop (i+[aK j].length) ((l.take (i+1)).map aK)=[]:=List.drop_of_length_le (by simp;omega)
 rw[List.take_append_of_le_length (by omega),List.drop_append_of_le_length (by simp;omega),h6,←List.map_take,List.take_take]
 simp
theorem uW (l:List Job) (j:Job) (i cap m:Nat) (hl:l.length<2^20) (hi:i≤l.length) (hc:l.length≤cap) (hcm:cap≤m):
 aB Tryz.prog eE [dO 5 0 l.length cap,dI i,dO 5 1 1 1] (hp [(0,⟨5,m,l.map aK⟩),(1,⟨5,1,[aK j]⟩)]) 2
 fun r H' n'=>∃cap' m',l.length+1≤cap'∧cap'≤m'∧n'=3∧H'=hp [(2,⟨5,m',(l.take i++j::l.drop i).map aK⟩)]∧r=dO 5 2 (l.length+1) cap':=by
 refine tO rfl fun Q hQ=> ?_
 unfold fY
 have e1:((l.length:Int)+((1:Nat):Int)-(i:Int)).toNat=l.length+1-i:=by omega
 have e2:((i:Int)+((1:Nat):Int)).toNat=i+1:=by omega
 have e3:((l.length:Int)+((1:Nat):Int)).toNat=l.length+1:=by omega
 have e4:i+(l.length+1-i)=l.length+1:=by omega
 have e5:l.length+1-(i+1)=l.length-i:=by omega
 have e6:min 1 (l.length+1-i)=1:=by omega
 have e7:(i+(l.length-i)≤l.length)=True:=eq_true (by omega)
 have e8:min (l.length+1-i) (l.length-i)=l.length-i:=by omega
 have e9:IntKind.i64.wrap ((i:Int)+((1:Nat):Int))=(i:Int)+((1:Nat):Int):=IntWalk.i64_in _ (by omega)
 have e10:List.take 1 [aK j]=[aK j]:=rfl
 repeat' (first| (with_reducible first| (refine hK _ _ _ ?_;clear hK K)| (refine hA ?_;clear hA hB A B)| (refine hB ?_;clear hA hB A B)|refine Z1 ?_|refine Z2 ?_|refine Z5 (by omega) ?_|refine Z6 (fun h=> ?_) fun h=> ?_|refine fun(cap:Nat) (hcap:_≤cap)=> ?_|refine fun(hcp:_≤cap)=> ?_)| (first| (with_reducible first|refine Y2 fun K hK=> ?_|refine Y3 fun A B hA hB=> ?_)| (refine BS rfl rfl (by omega) (by simp) (by dsimp only;omega) (by simp) (by omega) (by omega) (by simp) ?_))<;>(simp only[go_sem,e1,e2,e3,e4,e5,e6,e7,e8,e9,e10,Nat.min_self];try simp (disch:=omega) only[Iw])| ((with_reducible refine Y8 ?_);try simp only[AQ.then,AQ.blk,reduceIte,Nat.reduceEqDiff])|refine⟨by omega,?_⟩| (refine⟨by(rw[List.length_take];omega),?_⟩)|fail)
 · (refine hQ _ _ _ _ _ 3 (dO 5 2 (l.length+1) cap) (hp [(2,⟨5,cap,(l.take i++j::l.drop i).map aK⟩)]) _ _ (.inr rfl) rfl (cV [19] (by omega) (by repeat' (first| ((with_reducible refine C0 ?_);exact CQ (by omega) rfl rfl (by rfl) rfl)| ((with_reducible refine D0 ?_);refine CJ ?_)|fail)) ⟨⟨by simp,by simp[sgL],_,rfl,aO (aC aV _) (by rw[List.take_of_length_le (by omega),List.drop_of_length_le (by omega)]) rfl⟩,trivial⟩ (by simp[sgL])) ?_)
   exact⟨cap,cap,by omega,Nat.le_refl _,rfl,rfl,rfl⟩
 ·refine⟨⟨by omega,by omega,by simp[wr];omega,by omega⟩,?_⟩
  rw[anN hi]
  repeat' (first| (with_reducible first| (refine hK _ _ _ ?_;clear hK K)|refine Z1 ?_)| (with_reducible refine Y2 fun K hK=> ?_)<;>(simp only[go_sem])| ((with_reducible refine Y8 ?_);try simp only[AQ.then,AQ.blk,reduceIte,Nat.reduceEqDiff])|fail)
  (refine hQ _ _ _ _ _ 3 (dO 5 2 (l.length+1) cap) (hp [(2,⟨5,cap,(l.take i++j::l.drop i).map aK⟩)]) _ _ (.inr rfl) rfl (cV [31] (by omega) (by repeat' (first| ((with_reducible refine C0 ?_);exact CQ (by omega) rfl rfl (by rfl) rfl)| ((with_reducible refine D0 ?_);refine CJ ?_)|fail)) ⟨⟨by simp,by simp[sgL],_,rfl,aO (aC aV _) rfl rfl⟩,trivial⟩ (by simp[sgL])) ?_)
  exact⟨cap,cap,by omega,Nat.le_refl _,rfl,rfl,rfl⟩
 ·refine⟨⟨by omega,by omega,by simp[wr];omega,by omega⟩,?_⟩
  rw[anU (by omega)]
  repeat' (first| (with_reducible first| (refine hK _ _ _ ?_;clear hK K)|refine Z1 ?_)| (with_reducible refine Y2 fun K hK=> ?_)<;>(simp only[go_sem])| ((with_reducible refine Y8 ?_);try simp only[AQ.then,AQ.blk,reduceIte,Nat.reduceEqDiff])|fail)
  (refine hQ _ _ _ _ _ 3 (dO 5 2 (l.length+1) cap) (hp [(2,⟨5,m,(l.take i++j::l.drop i).map aK⟩)]) _ _ (.inr rfl) rfl (cV [0] (by omega) (by repeat' (first| ((with_reducible refine C0 ?_);exact CQ (by omega) rfl rfl (by rfl) rfl)| ((with_reducible refine D0 ?_);refine CJ ?_)|fail)) ⟨⟨by simp,by simp[sgL],_,rfl,aO (aC aV _) rfl rfl⟩,trivial⟩ (by simp[sgL])) ?_)
  exact⟨cap,m,by omega,hcm,rfl,rfl,rfl⟩
theorem u2 {l:List Job} {j:Job} {i cap m i0 i1:Nat} (hl:l.length<2^20) (hi:i≤l.length) (hc:l.length≤cap) (hcm:cap≤m)
 (h0:i0<nx) (h1:i1<nx) (hne:i0≠i1) (o0:H i0=some ⟨5,m,l.map aK⟩) (o1:H i1=some ⟨5,1,[aK j]⟩)
 (h: ∀cap' m',l.length+1≤cap'→cap'≤m'→K (dO 5 nx (l.length+1) cap') (((H.del i0).del i1).set nx ⟨5,m',(l.take i++j::l.drop i).map aK⟩) (nx+1)):
 aB Tryz.prog eE [dO 5 i0 l.length cap,dI i,dO 5 i1 1 1] H nx K:=by
 refine(uW l j i cap m hl hi hc hcm).x4 [i0,i1] rfl ⟨l7 (by simp) rfl rfl rfl rfl,aF rfl,l7 (by simp) rfl rfl rfl rfl,trivial⟩
  ⟨⟨by simp,id,_,o0,aO (aC aV _) rfl rfl⟩,⟨by simp,id,_,o1,aO (aC (l:=[j]) aV) rfl rfl⟩,trivial⟩ (by simpa [nth] using hne) (by simp;omega) (by simpa using hne) fun r H' n' _ ⟨cap',m',q0,q1,q2,q3,q4⟩=> ?_
 have h:=h cap' m' q0 q1
 subst q2;subst q3;subst q4
 generalize l.take i++j::l.drop i=l' at*
 have e1:back (tau 2 nx (nth [i0,i1])) (hp [(2,⟨5,m',l'.map aK⟩)]) 3 H=((H.del i0).del i1).set nx ⟨5,m',l'.map aK⟩:=by
  simp[back,hp,aA.set,aA.nil,tau,nth,j8,sU,aA.dK,aA.pU]
 rw[←e1] at h
 exact h
theorem alA {l:List Job} {a:Nat} {z:List D1} (ha:a<l.length):wr ((l.take a).map aK++(l.drop (a+1)).map aK) (l.length-1) (List.replicate (l.length-(l.length-1)) z)=(iJ l a).map aK++[z]:=by
 have h1:(l.take a).map aK++(l.drop (a+1)).map aK=(iJ l a).map aK:=by simp[iJ]
 have h2:((iJ l a).map aK).length=l.length-1:=by have:=LD ha;simp;omega
 have h3:l.length-(l.length-1)=1:=by omega
 rw[h1,h3,List.replicate_one]
 unfold wr
 have h4:List.drop (l.length-1+[z].length) ((iJ l a).map aK)=[]:=List.drop_of_length_le (by simp at h2 ⊢;omega)
 rw[h4,List.take_of_length_le (by omega),List.append_nil]
theorem uF (l:List Job) (a cap m:Nat) (hl:l.length<2^20) (ha:a<l.length) (hc:l.length≤cap) (hcm:cap≤m):
 aB Tryz.prog cQ [dO 5 0 l.length cap,dI a,dI (a+1)] (hp [(0,⟨5,m,l.map aK⟩)]) 1
 fun r H' n'=>∃cap' m',(iJ l a).length≤cap'∧cap'≤m'∧n'=2∧H'=hp [(1,⟨5,m',(iJ l a).map aK⟩)]∧r=dO 5 1 (iJ l a).length cap':=by
 refine tI rfl fun Q hQ=> ?_
 unfold fZ
 have e2:((a:Int)+1).toNat=a+1:=by omega
 have e3:a+(l.length-(a+1))=l.length-1:=by omega
 have e7:(a+1+(l.length-(a+1))≤l.length)=True:=eq_true (by omega)
 have e8:List.take (l.length-(a+1)) (List.drop (a+1) l)=List.drop (a+1) l:=List.take_of_length_le (by simp)
 have e9:(List.drop (a+1) l).length=l.length-(a+1):=List.length_drop
 have hol:=LD ha
 repeat' (first| (with_reducible first| (refine hK _ _ _ ?_;clear hK K)| (refine hB ?_;clear hA hB A B)|refine Z1 ?_|refine Z2 ?_|refine Z5 (by omega) ?_|refine fun(cap:Nat) (hcap:_≤cap)=> ?_|refine fun(hcp:_≤cap)=> ?_)| (with_reducible first|refine Y2 fun K hK=> ?_|refine Y3 fun A B hA hB=> ?_)<;>(simp only[go_sem,e2,e3,e7,e8,e9])| ((with_reducible refine Y8 ?_);try simp only[AQ.then,AQ.blk,reduceIte,Nat.reduceEqDiff])|refine⟨by omega,?_⟩| (refine⟨by(rw[List.length_take];omega),?_⟩)|fail)
 (refine hQ _ _ _ _ _ 2 (dO 5 1 (iJ l a).length cap) (hp [(1,⟨5,cap,(iJ l a).map aK⟩)]) _ _ (.inr rfl) rfl (cV [20,0] (by omega) (by repeat' (first| ((with_reducible refine C0 ?_);exact CQ (by omega) rfl rfl (by omega) rfl)| ((with_reducible refine D0 ?_);refine CJ ?_)|fail)) ⟨⟨by simp,by simp[sgL],_,rfl,afS (junk:=[[cI 0,cI 0,cI 0,cI 0,.osl 0 0 0 0 0]]) (fun r hr=>(aC aV _ r hr).2) (alA ha) rfl (by decide)⟩,trivial⟩ (by simp[sgL])) ?_)
 exact⟨cap,cap,by omega,Nat.le_refl _,rfl,rfl,rfl⟩
theorem lB {l:List Job} {z:Int} {cap m i0:Nat} (hl:l.length<2^20) (hz: ¬z<0) (ha:z.toNat<l.length) (hc:l.length≤cap) (hcm:cap≤m) (h0:i0<nx) (o0:H i0=some ⟨5,m,l.map aK⟩)
 (h: ∀cap' m',(iJ l z.toNat).length≤cap'→cap'≤m'→K (dO 5 nx (iJ l z.toNat).length cap') ((H.del i0).set nx ⟨5,m',(iJ l z.toNat).map aK⟩) (nx+1)):
 aB Tryz.prog cQ [dO 5 i0 l.length cap,dI z,dI (z+1)] H nx K:=by
 obtain⟨a,rfl⟩: ∃a:Nat,z=a:=⟨z.toNat,by omega⟩
 refine(uF l a cap m hl ha hc hcm).x4 [i0] rfl ⟨l7 (by simp) rfl rfl rfl rfl,aF rfl,aF rfl,trivial⟩
  ⟨⟨by simp,id,_,o0,aO (aC aV _) rfl rfl⟩,trivial⟩ (by simp) (by simp;omega) (by simp) fun r H' n' _ ⟨cap',m',q0,q1,q2,q3,q4⟩=> ?_
 simp only[Int.toNat_natCast] at h
 have h:=h cap' m' q0 q1
 subst q2;subst q3;subst q4
 generalize iJ l a=l' at*
 have e1:back (tau 1 nx (nth [i0])) (hp [(1,⟨5,m',l'.map aK⟩)]) 2 H=(H.del i0).set nx ⟨5,m',l'.map aK⟩:=by
  simp[back,hp,aA.set,aA.nil,tau,nth,j8,sU,aA.dK,aA.pU]
 rw[←e1] at h
 exact h
theorem UW (l:List Job) (j:Job) (cap m:Nat) (hl:l.length<2^20) (hs:gQ l) (hn:key j∉l.map key) (hc:l.length≤cap) (hcm:cap≤m):
 aB Tryz.prog kF [dO 5 0 l.length cap,dA (aK j)] (hp [(0,⟨5,m,l.map aK⟩)]) 1
 fun r H' n'=>∃cap' m',(gL l j).length≤cap'∧cap'≤m'∧n'=2∧H'=hp [(1,⟨5,m',(gL l j).map aK⟩)]∧r=dO 5 1 (gL l j).length cap':=by
 have hf:=List.findIdx_le_length (p:=nA j) (xs:=l)
 have hpl:=GM (l:=l) (j:=j)
 refine Q7 rfl fun Q hQ=> ?_
 unfold zC
 repeat' (first| (with_reducible first| (refine hK _ _ _ ?_;clear hK K)|refine Z1 ?_)| (first| (with_reducible refine Y2 fun K hK=> ?_)| (refine j7 hl hs hn (vQ aV rfl rfl hc trivial) (fun b=> ?_))| (refine u2 hl hf hc hcm (by omega) (by omega) (by omega) rfl rfl (fun cap' m' h1 h2=> ?_)))<;>(simp only[go_sem])| ((with_reducible refine Y8 ?_);try simp only[AQ.then,AQ.blk,reduceIte,Nat.reduceEqDiff])|fail)
 (refine hQ _ _ _ _ _ 2 (dO 5 1 (gL l j).length cap') (hp [(1,⟨5,m',(gL l j).map aK⟩)]) _ _ (.inr rfl) rfl (cV [17,0] (by omega) (by repeat' (first| ((with_reducible refine C0 ?_);exact CQ (by omega) rfl rfl (by omega) rfl)| ((with_reducible refine D0 ?_);refine CJ ?_)|fail)) ⟨⟨by simp,by simp[sgL],_,rfl,aO (aC aV _) rfl rfl⟩,trivial⟩ (by simp[sgL])) ?_)
 exact⟨cap',m',by omega,h2,rfl,rfl,rfl⟩
theorem FZ {l:List Job} {j:Job} {cs:List D1} {cap m i0:Nat} (hcs:CvL H (fun _=>False) (nth [i0]) 1 (aK j) cs) (hl:l.length<2^20) (hs:gQ l) (hn:key j∉l.map key) (hc:l.length≤cap) (hcm:cap≤m) (h0:i0<nx) (o0:H i0=some ⟨5,m,l.map aK⟩)
 (h: ∀cap' m',(gL l j).length≤cap'→cap'≤m'→K (dO 5 nx (gL l j).length cap') ((H.del i0).set nx ⟨5,m',(gL l j).map aK⟩) (nx+1)):
 aB Tryz.prog kF [dO 5 i0 l.length cap,dA cs] H nx K:=by
 refine(UW l j cap m hl hs hn hc hcm).x4 [i0] rfl ⟨l7 (by simp) rfl rfl rfl rfl,hcs,trivial⟩
  ⟨⟨by simp,id,_,o0,aO (aC aV _) rfl rfl⟩,trivial⟩ (by simp) (by simp;omega) (by simp) fun r H' n' _ ⟨cap',m',q0,q1,q2,q3,q4⟩=> ?_
 have h:=h cap' m' q0 q1
 subst q2;subst q3;subst q4
 generalize gL l j=l' at*
 have e1:back (tau 1 nx (nth [i0])) (hp [(1,⟨5,m',l'.map aK⟩)]) 2 H=(H.del i0).set nx ⟨5,m',l'.map aK⟩:=by
  simp[back,hp,aA.set,aA.nil,tau,nth,j8,sU,aA.dK,aA.pU]
 rw[←e1] at h
 exact h
theorem S5 {l:List Job} {a b:Int} {cap m i0:Nat} (hl:l.length<2^20) (hs:gQ l) (hn:(a,b)∉l.map key) (hc:l.length≤cap) (hcm:cap≤m) (h0:i0<nx) (o0:H i0=some ⟨5,m,l.map aK⟩)
 (h: ∀cap' m',(gL l ⟨a,b,kO⟩).length≤cap'→cap'≤m'→K (dO 5 nx (gL l ⟨a,b,kO⟩).length cap') ((H.del i0).set nx ⟨5,m',(gL l ⟨a,b,kO⟩).map aK⟩) (nx+1)):
 aB Tryz.prog kF [dO 5 i0 l.length cap,dA [cI a,cI b,cI 0,cI 0,.osl 0 0 0 0 0]] H nx K:=
 FZ (j:=⟨a,b,kO⟩) (aH (bG rfl) (aH (bG rfl) (aH (bG rfl) (aH (bG rfl) (aH GI eR))))) hl hs hn hc hcm h0 o0 h
theorem QW {l:List Job} {a b:Int} {r:Rsp} {cap m i0:Nat} (hl:l.length<2^20) (hs:gQ l) (hn:(a,b)∉l.map key) (hc:l.length≤cap) (hcm:cap≤m) (h0:i0<nx) (o0:H i0=some ⟨5,m,l.map aK⟩)
 (h: ∀cap' m',(gL l ⟨a,b,r⟩).length≤cap'→cap'≤m'→K (dO 5 nx (gL l ⟨a,b,r⟩).length cap') ((H.del i0).set nx ⟨5,m',(gL l ⟨a,b,r⟩).map aK⟩) (nx+1)):
 aB Tryz.prog kF [dO 5 i0 l.length cap,dA (cI a::cI b::qY r)] H nx K:=
 FZ (j:=⟨a,b,r⟩) (r8 fun x hx=>List.all_eq_true.1 (aV ⟨a,b,r⟩).2 x hx) hl hs hn hc hcm h0 o0 h
end
end Go.Proofs.YtegiblhkjfiooaaGreat
end
