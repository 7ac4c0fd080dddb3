/- Texts laid together by a program: rules, contracts and the walk that leads to the law. -/
import Derived.Test.YtdkfhdmagdaceaaGreatPJ7
import Derived.Test.YtdkfhdmagdaceaaGreatPJ4
import Derived.Test.YtdkfhdmagdaceaaGreatPJ3
import Derived.Test.YtdkfhdmagdaceaaGreatPJ5
import Derived.Test.YtdkfhdmagdaceaaGreatPJ8
import Derived.Test.YtdkfhdmagdaceaaGreatPJ6
set_option linter.unusedVariables false
set_option linter.unusedSimpArgs false
set_option linter.unusedSectionVars false
set_option maxRecDepth 100000
set_option maxHeartbeats 8000000
namespace Go.Proofs.YtdkfhdmagdaceaaGreat
open Go Go.AM
attribute [local irreducible] aM wv aB vd wvH
attribute [go_sem] Y5
section
variable {H : aA} {nx : Nat} {K : D → aA → Nat → Prop}
theorem PG{a:Int} (h:K (dB false) H nx):aB Tryz.prog lG [boP a] H nx K:=by
 refine aB.pure (args0:=[boP a]) (R:=fun b=>b=dB false) ?_ rfl (aI ⟨aE rfl,trivial⟩) (fun r hr=>hr▸h);clear h;refine MP rfl fun Q c=> ?_;unfold sW;repeat' first|apply bn1<;>(simp only[go_sem])|fail
 all_goals first|with_reducible refine aZ c _ rfl rfl ?_|skip
 all_goals first|rfl|simp
def UI (a b:Int):Int:=if a<b then-1 else if a>b then 1 else 0
theorem KI{a:Int}{b:Int} (h:K (boP (UI a b)) H nx):aB Tryz.prog jC [boP a,boP b] H nx K:=by
 refine aB.pure (args0:=[boP a,boP b]) (R:=fun c=>c=boP (UI a b)) ?_ rfl (aI ⟨aE rfl,aE rfl,trivial⟩) (fun r hr=>hr▸h);clear h;refine JR rfl fun Q d=> ?_;unfold pI;repeat' first| (first|apply bn1|apply PG)<;>(simp only[go_sem])|refine bnE (fun h=> ?_) fun h=> ?_|fail
 all_goals first|with_reducible refine aZ d _ rfl rfl ?_|skip
 all_goals exact qA (by unfold UI;grind)
def orI (a b:Int):Int:=if a≠0 then a else b
theorem WX{a:Int}{b:Int}{e:D} (c:CvD H (fun _=>True) id 0 (dS [aJ a,aJ b]) e) (h:K (boP (orI a b)) H nx):aB Tryz.prog wC [e] H nx K:=by
 refine aB.pure (args0:=[dS [aJ a,aJ b]]) (R:=fun j=>j=boP (orI a b)) ?_ rfl (aI ⟨c,trivial⟩) (fun r hr=>hr▸h);clear h;refine T8 rfl fun Q f=> ?_;unfold z6;obtain⟨l,hl⟩: ∃l,l=[a,b]:=⟨_,rfl⟩
 have he:[aJ a,aJ b]=l.map aJ:=by rw[hl];rfl
 have hlen:l.length=2:=by rw[hl];rfl
 rw[he];repeat' first|apply bn1<;>(simp only[go_sem])|fail
 (refine aM.loop (α:={k:Nat//k≤2∧(∀i,i<k→l.getD i default=0)}) (fun u=>en [(8,boP u.1),(7,boP 2),(6,dS (l.map aJ)),(3,boP 0)]) (fun _=>.nil) _ (fun u=>2-u.1) ⟨0,by omega,(by intros;first|trivial|omega)⟩ (bU (m5 _) (by repeat' first|exact bo2|refine xqI rfl rfl ?_|refine xqV rfl (by omega) ?_|fail)) ?_);(rintro⟨k,g,hinv⟩ bpQ d);by_cases m:k<2
 ·repeat' first|apply bn1<;>(simp only[go_sem];try simp (disch:=omega) only[Iw])|apply bn2 (by omega)|refine bnE (fun h=> ?_) fun h=> ?_|refine⟨by omega,?_⟩|fail
  ·refine aZ f (boP _) rfl rfl (qA ?_);have g:k=0∨k=1:=(by omega);have n:=hinv 0;rcases g with rfl|rfl<;>simp[hl,List.getD] at* <;>simp_all [orI]
  · (refine d _ _ _ ⟨k+1,by omega,iS hinv (by omega)⟩ (by omega) (by(try dsimp only);omega) (bU (m5 _) (by repeat' first|exact bo2|refine xqI rfl rfl ?_|fail)))
 ·repeat' first|apply bn1<;>(simp only[go_sem])|apply bn3 (by omega)|fail
  refine aZ f (boP _) rfl rfl (qA ?_);have n:=hinv 0 (by omega);have o:=hinv 1 (by omega);simp[hl,List.getD] at* <;>simp_all [orI]
def ad5 (a b:Job):Int:=orI (UI a.who b.who) (UI a.n b.n)
theorem E7{a b:Job}:ad5 a b<0↔uL a b=true:=by rw[qL];unfold ad5 orI UI;grind
theorem xM{a:Job}{b:Job} (h:K (boP (ad5 a b)) H nx):aB Tryz.prog bJ [boR (aS a),boR (aS b)] H nx K:=by
 refine aB.pure (args0:=[boR (aS a),boR (aS b)]) (R:=fun c=>c=boP (ad5 a b)) ?_ rfl (aI ⟨aE rfl,aE rfl,trivial⟩) (fun r hr=>hr▸h);clear h;refine HI rfl fun Q d=> ?_;unfold nP;repeat' first| (first|apply bn1|apply KI|refine WX (DJ (rows:=[aJ (UI a.who b.who),aJ (UI a.n b.n)]) (aG bF [UI a.who b.who,UI a.n b.n]) rfl trivial rfl rfl rfl (m5 2)) ?_)<;>(simp only[go_sem])|fail
 all_goals first|with_reducible refine aZ d _ rfl rfl ?_|skip
 all_goals first|rfl|exact qA (by omega)
theorem BI (l:List Int) (hl:l.length<2^21):aB Tryz.prog gO [dS (l.map aJ)] (hp []) 0
 fun r H' e=>∃cap,l.length≤cap∧e=1∧H'=hp [(0,⟨1,cap,l.map aJ⟩)]∧r=boQ 1 0 l.length cap:=by
 refine zU rfl fun Q c=> ?_
 unfold jL
 refine aM.seq (aM.EJ 1 ?_)
 repeat' first|apply bn1<;>(simp only[go_sem])|refine bpI (fun h=> ?_) fun h=> ?_| (with_reducible first|refine fun(cap:Nat) (d:_≤cap)=> ?_|refine fun(f:_≤cap)=> ?_|refine fun(b:Bool)=> ?_)| ((refine bnF (fun h=> ?_) (fun h=> ?_))<;>try subst h)|refine⟨by omega,?_⟩|fail
 all_goals first
  | (have a:=m5 cap
     (refine c _ _ _ _ _ 1 (boQ 1 0 l.length cap) (hp [(0,⟨1,cap,l.map aJ⟩)]) _ _ (.inr rfl) rfl (fU [6] (by omega) (by repeat' first|exact bo2| ((with_reducible apply bo0);exact bpB (by omega) rfl rfl (by rfl) rfl)| ((with_reducible apply bo1);apply bo7)|fail) ⟨⟨by simp,by simp[sgL],_,rfl,bP (aG bF _) rfl rfl⟩,trivial⟩ (by simp[sgL])) ?_)
     exact⟨cap,by omega,rfl,rfl,rfl⟩)
  | (have g:l=[]:=CE (by omega)
     subst g
     (refine c _ _ _ _ _ 1 (boQ 1 0 0 0) (hp [(0,⟨1,0,([]:List Int).map aJ⟩)]) _ _ (.inr rfl) rfl (fU [0] (by omega) (by repeat' first|exact bo2| ((with_reducible apply bo0);exact bpA)| ((with_reducible apply bo1);apply bo7)|fail) ⟨⟨by simp,by simp[sgL],_,rfl,bP (aG bF _) rfl rfl⟩,trivial⟩ (by simp[sgL])) ?_)
     exact⟨0,m5 _,rfl,rfl,rfl⟩)
theorem A1{l:List Int} (hl:l.length<2^21) (h: ∀cap,l.length≤cap→K (boQ 1 nx l.length cap) (H.set nx ⟨1,cap,l.map aJ⟩) (nx+1)):aB Tryz.prog gO [dS (l.map aJ)] H nx K:=by
 refine(BI l hl).AF (l0:=[]) [] rfl ⟨aE rfl,trivial⟩ trivial (by simp) (by simp) (by simp) fun r H' e _ ⟨cap,bqB,a,b,c⟩=> ?_;have h:=h cap bqB;subst a;subst b;subst c;have d:back (tau 0 nx (nth [])) (hp [(0,⟨1,cap,l.map aJ⟩)]) 1 H=H.set nx ⟨1,cap,l.map aJ⟩:=by simp only[back,hp,aA.set,tau,bq2,if_true,if_false,Nat.sub_zero,Nat.add_zero,Option.map_some,uB,aA.eL]
 rw[←d] at h;exact h
theorem B2 (l:List Int) (cap m:Nat) (hl:l.length<2^21) (d:l.length≤cap):aB Tryz.prog iD [boQ 1 0 l.length cap] (hp [(0,⟨1,m,l.map aJ⟩)]) 1
 fun r H' b=>b=1∧ ∃a,H'=hp [(0,a)]∧C7 a∧a=⟨1,m,l.map aJ⟩∧r=boQ 1 0 l.length l.length:=by
 refine BK rfl fun Q c=> ?_
 unfold kB
 repeat' first|apply bn1<;>(simp only[go_sem])|refine⟨by omega,?_⟩|fail
 exact lA c (boQ 1 0 l.length l.length) _ _ rfl (by repeat' first|exact bo2| ((with_reducible apply bo0);exact bpB (by omega) rfl rfl (by rfl) rfl)| ((with_reducible apply bo1);apply bo7)|fail) rfl (oB bF _) ⟨rfl,rfl⟩
variable{cap m i:Nat}
theorem BY{l:List Int} (hl:l.length<2^21) (a:l.length≤cap) (hi:i<nx) (b:H i=some ⟨1,m,l.map aJ⟩) (h:K (boQ 1 i l.length l.length) (H.set i ⟨1,m,l.map aJ⟩) nx):
 aB Tryz.prog iD [boQ 1 i l.length cap] H nx K:=
 (B2 l cap m hl a).OU i rfl (gW ⟨qS (by omega) rfl rfl rfl rfl,trivial⟩) hi b (oB bF _) fun r e ⟨c,d⟩=>by subst c;subst d;exact h
theorem NI (l:List Int) (hl:l.length<2^21):aB Tryz.prog eX [dS (l.map aJ)] (hp []) 0
 fun r H' b=>∃cap,l.length≤cap∧b=1∧H'=hp [(0,⟨1,cap,l.map aJ⟩)]∧r=boQ 1 0 l.length l.length:=by
 refine LI rfl fun Q c=> ?_
 unfold rI
 repeat' first| (first|apply bn1|refine A1 hl (fun cap a=> ?_)|refine BY hl a (by omega) rfl ?_)<;>(simp only[go_sem])|fail
 (refine c _ _ _ _ _ 1 (boQ 1 0 l.length l.length) (hp [(0,⟨1,cap,l.map aJ⟩)]) _ _ (.inr rfl) rfl (fU [5] (by omega) (by repeat' first|exact bo2| ((with_reducible apply bo0);exact bpB (by omega) rfl rfl (by rfl) rfl)| ((with_reducible apply bo1);apply bo7)|fail) ⟨⟨by simp,by simp[sgL],_,rfl,bP (aG bF _) rfl rfl⟩,trivial⟩ (by simp[sgL])) ?_)
 exact⟨cap,a,rfl,rfl,rfl⟩
theorem kH{l:List Int} (hl:l.length<2^21) (h: ∀m,l.length≤m→K (boQ 1 nx l.length l.length) (H.set nx ⟨1,m,l.map aJ⟩) (nx+1)):aB Tryz.prog eX [dS (l.map aJ)] H nx K:=by
 refine(NI l hl).AF (l0:=[]) [] rfl ⟨aE rfl,trivial⟩ trivial (by simp) (by simp) (by simp) fun r H' e _ ⟨cap,bqB,a,b,c⟩=> ?_;have h:=h cap bqB;subst a;subst b;subst c;have d:back (tau 0 nx (nth [])) (hp [(0,⟨1,cap,l.map aJ⟩)]) 1 H=H.set nx ⟨1,cap,l.map aJ⟩:=by simp only[back,hp,aA.set,tau,bq2,if_true,if_false,Nat.sub_zero,Nat.add_zero,Option.map_some,uB,aA.eL]
 rw[←d] at h;exact h
variable{l:List Job}
theorem BB{τ:Nat→Nat}{n:Nat}:bA.rn τ ⟨n,m,l.map aS⟩=⟨n,m,l.map aS⟩:=by refine rF fun r hr x a=> ?_;obtain⟨y,_,rfl⟩:=CF.1 hr;exact w2.1 (dZ y).2 x a
theorem uW (l:List Job) (hl:l.length<2^21):aB Tryz.prog eG [dS (l.map aS)] (hp []) 0
 fun r H' e=>∃cap,l.length≤cap∧e=1∧H'=hp [(0,⟨5,cap,l.map aS⟩)]∧r=boQ 5 0 l.length cap:=by
 refine s9 rfl fun Q c=> ?_
 unfold gC
 refine aM.seq (aM.EJ 5 ?_)
 repeat' first|apply bn1<;>(simp only[go_sem])|refine bpI (fun h=> ?_) fun h=> ?_| (with_reducible first|refine fun(cap:Nat) (d:_≤cap)=> ?_|refine fun(f:_≤cap)=> ?_|refine fun(b:Bool)=> ?_)| ((refine bnF (fun h=> ?_) (fun h=> ?_))<;>try subst h)|refine⟨by omega,?_⟩|fail
 all_goals first
  | (have a:=m5 cap
     (refine c _ _ _ _ _ 1 (boQ 5 0 l.length cap) (hp [(0,⟨5,cap,l.map aS⟩)]) _ _ (.inr rfl) rfl (fU [6] (by omega) (by repeat' first|exact bo2| ((with_reducible apply bo0);exact bpB (by omega) rfl rfl (by rfl) rfl)| ((with_reducible apply bo1);apply bo7)|fail) ⟨⟨by simp,by simp[sgL],_,rfl,bP (aG dZ _) rfl rfl⟩,trivial⟩ (by simp[sgL])) ?_)
     exact⟨cap,by omega,rfl,rfl,rfl⟩)
  | (have g:l=[]:=CE (by omega)
     subst g
     (refine c _ _ _ _ _ 1 (boQ 5 0 0 0) (hp [(0,⟨5,0,([]:List Job).map aS⟩)]) _ _ (.inr rfl) rfl (fU [0] (by omega) (by repeat' first|exact bo2| ((with_reducible apply bo0);exact bpA)| ((with_reducible apply bo1);apply bo7)|fail) ⟨⟨by simp,by simp[sgL],_,rfl,bP (aG dZ _) rfl rfl⟩,trivial⟩ (by simp[sgL])) ?_)
     exact⟨0,m5 _,rfl,rfl,rfl⟩)
theorem t0 (hl:l.length<2^21) (h: ∀cap,l.length≤cap→K (boQ 5 nx l.length cap) (H.set nx ⟨5,cap,l.map aS⟩) (nx+1)):aB Tryz.prog eG [dS (l.map aS)] H nx K:=by
 refine(uW l hl).AF (l0:=[]) [] rfl ⟨aE rfl,trivial⟩ trivial (by simp) (by simp) (by simp) fun r H' e _ ⟨cap,bqB,a,b,c⟩=> ?_;have h:=h cap bqB;subst a;subst b;subst c;have d:back (tau 0 nx (nth [])) (hp [(0,⟨5,cap,l.map aS⟩)]) 1 H=H.set nx ⟨5,cap,l.map aS⟩:=by simp only[back,hp,aA.set,tau,bq2,if_true,if_false,Nat.sub_zero,Nat.add_zero,Option.map_some,BB,aA.eL]
 rw[←d] at h;exact h
theorem vP (l:List Job) (cap m:Nat) (hl:l.length<2^21) (d:l.length≤cap):aB Tryz.prog eS [boQ 5 0 l.length cap] (hp [(0,⟨5,m,l.map aS⟩)]) 1
 fun r H' b=>b=1∧ ∃a,H'=hp [(0,a)]∧C7 a∧a=⟨5,m,l.map aS⟩∧r=boQ 5 0 l.length l.length:=by
 refine uU rfl fun Q c=> ?_
 unfold gI
 repeat' first|apply bn1<;>(simp only[go_sem])|refine⟨by omega,?_⟩|fail
 exact lA c (boQ 5 0 l.length l.length) _ _ rfl (by repeat' first|exact bo2| ((with_reducible apply bo0);exact bpB (by omega) rfl rfl (by rfl) rfl)| ((with_reducible apply bo1);apply bo7)|fail) rfl (oB dZ _) ⟨rfl,rfl⟩
theorem vN (hl:l.length<2^21) (a:l.length≤cap) (hi:i<nx) (b:H i=some ⟨5,m,l.map aS⟩) (h:K (boQ 5 i l.length l.length) (H.set i ⟨5,m,l.map aS⟩) nx):
 aB Tryz.prog eS [boQ 5 i l.length cap] H nx K:=
 (vP l cap m hl a).OU i rfl (gW ⟨qS (by omega) rfl rfl rfl rfl,trivial⟩) hi b (oB dZ _) fun r e ⟨c,d⟩=>by subst c;subst d;exact h
theorem zN (l:List Job) (hl:l.length<2^21):aB Tryz.prog gG [dS (l.map aS)] (hp []) 0
 fun r H' b=>∃cap,l.length≤cap∧b=1∧H'=hp [(0,⟨5,cap,l.map aS⟩)]∧r=boQ 5 0 l.length l.length:=by
 refine yQ rfl fun Q c=> ?_
 unfold i6
 repeat' first| (first|apply bn1|refine t0 hl (fun cap a=> ?_)|refine vN hl a (by omega) rfl ?_)<;>(simp only[go_sem])|fail
 (refine c _ _ _ _ _ 1 (boQ 5 0 l.length l.length) (hp [(0,⟨5,cap,l.map aS⟩)]) _ _ (.inr rfl) rfl (fU [5] (by omega) (by repeat' first|exact bo2| ((with_reducible apply bo0);exact bpB (by omega) rfl rfl (by rfl) rfl)| ((with_reducible apply bo1);apply bo7)|fail) ⟨⟨by simp,by simp[sgL],_,rfl,bP (aG dZ _) rfl rfl⟩,trivial⟩ (by simp[sgL])) ?_)
 exact⟨cap,a,rfl,rfl,rfl⟩
theorem z7 (hl:l.length<2^21) (h: ∀m,l.length≤m→K (boQ 5 nx l.length l.length) (H.set nx ⟨5,m,l.map aS⟩) (nx+1)):aB Tryz.prog gG [dS (l.map aS)] H nx K:=by
 refine(zN l hl).AF (l0:=[]) [] rfl ⟨aE rfl,trivial⟩ trivial (by simp) (by simp) (by simp) fun r H' e _ ⟨cap,bqB,a,b,c⟩=> ?_;have h:=h cap bqB;subst a;subst b;subst c;have d:back (tau 0 nx (nth [])) (hp [(0,⟨5,cap,l.map aS⟩)]) 1 H=H.set nx ⟨5,cap,l.map aS⟩:=by simp only[back,hp,aA.set,tau,bq2,if_true,if_false,Nat.sub_zero,Nat.add_zero,Option.map_some,BB,aA.eL]
 rw[←d] at h;exact h
theorem O0 (l:List Job) (hl:l.length<2^21) (g: ∀j∈l,j.rsp.data.length<2^21):aB Tryz.prog eO [dS (l.map aS)] (hp []) 0
 fun r H' h=>∃cap,l.length≤cap∧h=1∧H'=hp [(0,⟨5,cap,l.map aS⟩)]∧r=boQ 5 0 l.length l.length:=by
 refine MD rfl fun Q i=> ?_
 unfold tD
 repeat' first| (first|apply bn1|refine z7 hl (fun c d=> ?_))<;>(simp only[go_sem])|fail
 refine aM.sG 1 (β:=Nat) (fun b k=>en [(10,boP k),(9,boP l.length),(8,boQ 5 b l.length l.length),(3,boQ 5 b l.length l.length)])
  (fun b k=>hp [(b,⟨5,c,l.map aS⟩)]) (fun k=>k≤l.length) (fun k=>l.length-k) 0 (by(refine cR [4] (by omega) (by repeat' first|exact bo2|refine xqI rfl rfl ?_|refine xqO (by omega) rfl rfl (by rfl) ?_|fail) ⟨⟨by simp,by simp[sgL],_,rfl,bP (aG dZ _) rfl rfl⟩,trivial⟩ (by simp[sgL]))) (by omega) ?_
 rintro k n bpQ e
 by_cases a:k<l.length
 ·have f:=g _ (cC a);repeat' first| (first|apply bn1|refine kH f (fun m hm=> ?_))<;>(simp only[go_sem];try simp (disch:=omega) only[Iw])|apply bn2 (by omega)|refine⟨by omega,?_⟩|fail
  exact e _ _ _ (k+1) (by omega) (by(refine cR [8] (by omega) (by repeat' first|exact bo2|refine xqI rfl rfl ?_|refine xqO (by omega) rfl rfl (by rfl) ?_|fail) ⟨⟨by simp,by simp[sgL],_,rfl,ak7 (R:=l.map aS) (r':=aS (l.getD k default)) rfl rfl (atN a) (fun r hr=>(aG dZ l r hr).2) rfl (aH (bB rfl) (aH (bB rfl) (aH (bB rfl) (aH (bB rfl) (aH (bW bF rfl rfl (m5 _) (by simp)) eP)))))⟩,trivial⟩ (by simp[sgL]))) (by omega) (by omega)
 ·repeat' first|apply bn1<;>(simp only[go_sem])|apply bn3 (by omega)|fail
  (refine i _ _ _ _ _ 1 (boQ 5 0 l.length l.length) (hp [(0,⟨5,c,l.map aS⟩)]) _ _ (.inr rfl) rfl (fU [8] (by omega) (by repeat' first|exact bo2| ((with_reducible apply bo0);exact bpB (by omega) rfl rfl (by rfl) rfl)| ((with_reducible apply bo1);apply bo7)|fail) ⟨⟨by simp,by simp[sgL],_,rfl,bP (aG dZ _) rfl rfl⟩,trivial⟩ (by simp[sgL])) ?_);exact⟨c,d,rfl,rfl,rfl⟩
theorem gY (hl:l.length<2^21) (a: ∀j∈l,j.rsp.data.length<2^21) (h: ∀m,l.length≤m→K (boQ 5 nx l.length l.length) (H.set nx ⟨5,m,l.map aS⟩) (nx+1)):aB Tryz.prog eO [dS (l.map aS)] H nx K:=by
 refine(O0 l hl a).AF (l0:=[]) [] rfl ⟨aE rfl,trivial⟩ trivial (by simp) (by simp) (by simp) fun r H' f _ ⟨cap,bqB,b,c,d⟩=> ?_;have h:=h cap bqB;subst b;subst c;subst d;have e:back (tau 0 nx (nth [])) (hp [(0,⟨5,cap,l.map aS⟩)]) 1 H=H.set nx ⟨5,cap,l.map aS⟩:=by simp only[back,hp,aA.set,tau,bq2,if_true,if_false,Nat.sub_zero,Nat.add_zero,Option.map_some,BB,aA.eL]
 rw[←e] at h;exact h
theorem B1 (w u:List Int) (hw:w.length<2^21) (hu:u.length<2^21):aB Tryz.prog fL [boR [.isl (w.map aJ),.isl (u.map aJ)]] (hp []) 0
 fun r H' d=>∃a m1,w.length≤a∧u.length≤m1∧d=2∧H'=hp [(0,⟨1,a,w.map aJ⟩),(1,⟨1,m1,u.map aJ⟩)]∧r=boR [.osl 1 0 0 w.length w.length,.osl 1 1 0 u.length u.length]:=by
 refine A9 rfl fun Q e=> ?_
 unfold kI
 repeat' first| (first|apply bn1|refine kH hw (fun a b=> ?_)|refine kH hu (fun m1 c=> ?_))<;>(simp only[go_sem])|fail
 (refine e _ _ _ _ _ 2 (boR [.osl 1 0 0 w.length w.length,.osl 1 1 0 u.length u.length]) (hp [(0,⟨1,a,w.map aJ⟩),(1,⟨1,m1,u.map aJ⟩)]) _ _ (.inr rfl) rfl (fU [12,13] (by omega) (by repeat' first|exact bo2| ((with_reducible apply bo0);exact bpB (by omega) rfl rfl (by rfl) rfl)| ((with_reducible apply bo1);apply bo6)|exact bo4|apply bo5|fail) ⟨⟨by simp,by simp[sgL],_,rfl,bP (aG bF _) rfl rfl⟩,⟨by simp,by simp[sgL],_,rfl,bP (aG bF _) rfl rfl⟩,trivial⟩ (by simp[sgL])) ?_)
 exact⟨a,m1,b,c,rfl,rfl,rfl⟩
theorem qN{w u:List Int} (hw:w.length<2^21) (hu:u.length<2^21) (h: ∀a m1,w.length≤a→u.length≤m1→K (boR [.osl 1 nx 0 w.length w.length,.osl 1 (nx+1) 0 u.length u.length]) ((H.set nx ⟨1,a,w.map aJ⟩).set (nx+1) ⟨1,m1,u.map aJ⟩) (nx+2)):aB Tryz.prog fL [boR [.isl (w.map aJ),.isl (u.map aJ)]] H nx K:=by
 refine(B1 w u hw hu).AF (l0:=[]) [] rfl ⟨aE rfl,trivial⟩ trivial (by simp) (by simp) (by simp) fun r H' g _ ⟨a,m1,bqB,b,c,d,e⟩=> ?_;have h:=h a m1 bqB b;subst c;subst d;subst e;have f:back (tau 0 nx (nth [])) (hp [(0,⟨1,a,w.map aJ⟩),(1,⟨1,m1,u.map aJ⟩)]) 2 H=(H.set nx ⟨1,a,w.map aJ⟩).set (nx+1) ⟨1,m1,u.map aJ⟩:=by simp[back,hp,aA.set,aA.nil,tau,nth,uB,BB,aA.eL,aA.yI]
 rw[←f] at h;exact h
def oIm (i0 i1 a b c d c0 c1 c2 c3 c4 c5:Nat) (s:TSt):List D1:=[.osl 1 i0 0 s.words.length c0,.osl 1 i1 0 s.holds.length c1,.osl 1 a 0 s.asked.length c2,.osl 5 b 0 s.wait.length c3,.osl 5 c 0 s.done.length c4,.osl 5 d 0 s.told.length c5]
theorem C8 (c:Cfg) (s:TSt) (n:aQ c) (a:BA c s):aB Tryz.prog iG [boR (eSt s)] (hp []) 0
 fun r H' o=>∃b m1 bp3 bqM bqN bqQ,(s.words.length≤b∧s.holds.length≤m1∧s.asked.length≤bp3∧s.wait.length≤bqM∧s.done.length≤bqN∧s.told.length≤bqQ)∧o=6∧H'=hp [(0,⟨1,b,s.words.map aJ⟩),(1,⟨1,m1,s.holds.map aJ⟩),(2,⟨1,bp3,s.asked.map aJ⟩),(3,⟨5,bqM,s.wait.map aS⟩),(4,⟨5,bqN,s.done.map aS⟩),(5,⟨5,bqQ,s.told.map aS⟩)]∧
  r=boR (oIm 0 1 2 3 4 5 s.words.length s.holds.length s.asked.length s.wait.length s.done.length s.told.length s):=by
 have hl:=a.lens n
 have p:=a.atm.wl
 have q:=a.atm.hl
 have t:=a.JI
 have e:=a.ar7
 refine AY rfl fun Q v=> ?_
 unfold kD
 repeat' first| (first|apply bn1|refine qN (w:=s.words) (u:=s.holds) (by omega) (by omega) (fun b m1 f g=> ?_)|refine kH (l:=s.asked) (by omega) (fun bp3 h=> ?_)|refine gY (l:=s.wait) (by omega) (fun j d=>e j (by simp[d])) (fun bqM i=> ?_)|refine gY (l:=s.done) (by omega) (fun j d=>e j (by simp[d])) (fun bqN k=> ?_)|refine gY (l:=s.told) (by omega) (fun j d=>e j (by simp[d])) (fun bqQ m=> ?_))<;>(simp only[go_sem])|fail
 (refine v _ _ _ _ _ 6 (boR (oIm 0 1 2 3 4 5 s.words.length s.holds.length s.asked.length s.wait.length s.done.length s.told.length s)) (hp [(0,⟨1,b,s.words.map aJ⟩),(1,⟨1,m1,s.holds.map aJ⟩),(2,⟨1,bp3,s.asked.map aJ⟩),(3,⟨5,bqM,s.wait.map aS⟩),(4,⟨5,bqN,s.done.map aS⟩),(5,⟨5,bqQ,s.told.map aS⟩)]) _ _ (.inr rfl) rfl (fU [19,20,21,22,23,24] (by omega) (by repeat' first|exact bo2| ((with_reducible apply bo0);exact bpB (by omega) rfl rfl (by rfl) rfl)| ((with_reducible apply bo1);apply bo6)|exact bo4|apply bo5|fail) ⟨⟨by simp,by simp[sgL],_,rfl,bP (aG bF _) rfl rfl⟩,⟨by simp,by simp[sgL],_,rfl,bP (aG bF _) rfl rfl⟩,⟨by simp,by simp[sgL],_,rfl,bP (aG bF _) rfl rfl⟩,⟨by simp,by simp[sgL],_,rfl,bP (aG dZ _) rfl rfl⟩,⟨by simp,by simp[sgL],_,rfl,bP (aG dZ _) rfl rfl⟩,⟨by simp,by simp[sgL],_,rfl,bP (aG dZ _) rfl rfl⟩,trivial⟩ (by simp[sgL])) ?_)
 exact⟨b,m1,bp3,bqM,bqN,bqQ,⟨f,g,h,i,k,m⟩,rfl,rfl,rfl⟩
theorem CM{c:Cfg}{s:TSt} (b:aQ c) (d:BA c s) (h: ∀a m1 bp3 bqM bqN bqQ,(s.words.length≤a∧s.holds.length≤m1∧s.asked.length≤bp3∧s.wait.length≤bqM∧s.done.length≤bqN∧s.told.length≤bqQ)→K (boR (oIm nx (nx+1) (nx+2) (nx+3) (nx+4) (nx+5) s.words.length s.holds.length s.asked.length s.wait.length s.done.length s.told.length s)) ((((((H.set nx ⟨1,a,s.words.map aJ⟩).set (nx+1) ⟨1,m1,s.holds.map aJ⟩).set (nx+2) ⟨1,bp3,s.asked.map aJ⟩).set (nx+3) ⟨5,bqM,s.wait.map aS⟩).set (nx+4) ⟨5,bqN,s.done.map aS⟩).set (nx+5) ⟨5,bqQ,s.told.map aS⟩) (nx+6)):
 aB Tryz.prog iG [boR (eSt s)] H nx K:=by
 refine(C8 c s b d).AF (l0:=[]) [] rfl ⟨aE rfl,trivial⟩ trivial (by simp) (by simp) (by simp) fun r H' j _ ⟨a,m1,bp3,bqM,bqN,bqQ,bqB,e,f,g⟩=> ?_
 have h:=h a m1 bp3 bqM bqN bqQ bqB
 subst e;subst f;subst g
 have i:back (tau 0 nx (nth [])) (hp [(0,⟨1,a,s.words.map aJ⟩),(1,⟨1,m1,s.holds.map aJ⟩),(2,⟨1,bp3,s.asked.map aJ⟩),(3,⟨5,bqM,s.wait.map aS⟩),(4,⟨5,bqN,s.done.map aS⟩),(5,⟨5,bqQ,s.told.map aS⟩)]) 6 H=((((((H.set nx ⟨1,a,s.words.map aJ⟩).set (nx+1) ⟨1,m1,s.holds.map aJ⟩).set (nx+2) ⟨1,bp3,s.asked.map aJ⟩).set (nx+3) ⟨5,bqM,s.wait.map aS⟩).set (nx+4) ⟨5,bqN,s.done.map aS⟩).set (nx+5) ⟨5,bqQ,s.told.map aS⟩):=by simp[back,hp,aA.set,aA.nil,tau,nth,uB,BB,aA.eL,aA.yI]
 rw[←i] at h
 exact h
theorem azO: ∀w,(Go.sizeOf (Tryz.f297.targs.getD 0 0)).run Tryz.prog w= .ok (Tryz.prog.cellsOf (Tryz.f297.targs.getD 0 0)) w:=fun w=>by
 have h:(Tryz.prog.info? (Tryz.f297.targs.getD 0 0)).isSome=true:=by kernel_rfl
 exact run_sizeOf w (i:=(Tryz.prog.info? (Tryz.f297.targs.getD 0 0)).get h) (by simp)
theorem av1{j off b len d a:Nat}{f g:bA} (hi:H i=some f) (m:H j=some g) (k:i≠j) (o:0<f.ext) (p:0<g.ext) (q:0<g.n) (r:0<cap) (l:0<a) (e:off*5<f.ext*f.n)
 (h:K (dB false) H nx):asG Tryz.prog auV [.one (.c (.osl 5 i off len cap)),.one (.c (.osl 5 j b d a))] H nx K:=
 ay9 (fn:=Tryz.f297) Tryz.func297 (by kernel_rfl) (by kernel_rfl) (by kernel_rfl) (az3:=Tryz.f297.params.getD 0 0) (az4:=Tryz.f297.resultTypes.getD 0 0) (el:=Tryz.f297.targs.getD 0 0) (by kernel_rfl) (by kernel_rfl) azO hi m k o p q r l e h
variable{j:Job}
theorem azW (g:kW l) (h:key j∉l.map key){k:Nat} (c:k<l.length):ad5 (l.getD k default) j<0↔k<l.findIdx (uL j):=by
 rw[E7];have i:l.getD k default=l[k]:=by simp[List.getD,c]
 have d:key l[k]≠key j:=fun he=>h (he▸brI (Z5 c));rw[i];constructor
 ·intro b;refine Classical.byContradiction fun m=> ?_;have f:l.findIdx (uL j)<l.length:=by omega
  have e:uL j l[l.findIdx (uL j)]=true:=bsA (w:=f);rcases Nat.lt_or_eq_of_le (Nat.le_of_not_lt m) with a|he;·have n:=Z6.1 g _ _ f c a;rw[qL] at e n b;omega
  ·simp only[he] at e;rw[qL] at e b;omega
 ·intro a;have b:=br9 a;simp only[key,ne_eq,Prod.mk.injEq] at d;simp only[uL,decide_eq_true_eq,decide_eq_false_iff_not] at b ⊢;omega
theorem auC (l:List Job) (j:Job) (hl:l.length<2^21) (m:kW l) (n:key j∉l.map key):aB Tryz.prog eR [dS (l.map aS),boR (aS j),.one (.c (.clo bJ []))] .nil 0
 fun i _ _=>i.plain=true∧ ∃b,i= .tup [.c (cI (l.findIdx (uL j):Nat)),.c (cB b)]:=by
 have y:=byE (p:=uL j) (xs:=l)
 have g:=fun k o=>azW m n (k:=k) o
 generalize l.findIdx (uL j)=f at*
 refine auA rfl fun Q q=> ?_
 unfold rB
 repeat' first|apply bn1<;>(simp only[go_sem])|fail
 refine aM.sG 0 (β:=Nat×Nat) (fun b u=>en [(10,boP u.2),(9,boP u.1),(8,boP l.length),(4,.one (.c (.fQ (aS j)))),(2,.one (.c (.clo bJ []))),(0,dS (l.map aS))])
  (fun b u=>hp []) (fun u=>u.1≤f∧f≤u.2∧u.2≤l.length) (fun u=>u.2-u.1) (0,l.length) ?_ ⟨by omega,by dsimp only;omega,by dsimp only;omega⟩ ?_
 ·exact bU (m5 _) (by repeat' first|exact bo2|refine xqI rfl rfl ?_| (with_reducible apply bo3)| ((with_reducible apply bo0);exact bpG (by rfl))| ((with_reducible apply bo1);first|exact bpH rfl (by simp) rfl rfl rfl|apply bo7)|fail)
 rintro⟨a,b⟩ ⟨r,s,t⟩ bpQ e
 dsimp only at r s t
 by_cases v:a<b
 ·have hm:IntKind.i64.wrap ((IntKind.u64.wrap ((a:Int)+b)).fdiv (2^min 1 64))=((a+b)/2:Nat):=by
   rw[IntWalk.u64_in _ (by omega),Int.fdiv_eq_ediv_of_nonneg _ (by decide),IntWalk.i64_in _ (by simp;omega)]
   simp
  generalize w:(a+b)/2=d at hm
  have z:=g d (by omega)
  repeat' first| (first|apply bn1|apply xM)<;>(simp only[go_sem,hm];try simp (disch:=omega) only[Iw])|apply bn2 (by omega)|refine bnE (fun h=> ?_) fun h=> ?_|refine⟨by omega,?_⟩|fail
  ·exact e _ _ _ (d+1,b) (by omega) (bU (m5 _) (by repeat' first|exact bo2|refine xqI rfl rfl ?_| (with_reducible apply bo3)| ((with_reducible apply bo0);exact bpG (by rfl))| ((with_reducible apply bo1);apply bo7)|fail)) ⟨by dsimp only;omega,by dsimp only;omega,by dsimp only;omega⟩ (by dsimp only;omega)
  ·exact e _ _ _ (a,d) (by omega) (bU (m5 _) (by repeat' first|exact bo2|refine xqI rfl rfl ?_| (with_reducible apply bo3)| ((with_reducible apply bo0);exact bpG (by rfl))| ((with_reducible apply bo1);apply bo7)|fail)) ⟨by dsimp only;omega,by dsimp only;omega,by dsimp only;omega⟩ (by dsimp only;omega)
 ·repeat' first| (first|apply bn1|refine bpL (fun h=> ?_) fun h=> ?_|apply xM)<;>(simp only[go_sem])|apply bn3 (by omega)|refine⟨by omega,?_⟩|fail
  all_goals
   have x:a=f:=by omega
   subst x
   exact q _ _ _ _ _ 0 (.tup [.c (cI _),.c (cB _)]) .nil _ _ (.inr rfl) rfl (agI (aE rfl)) ⟨rfl,_,rfl⟩
theorem auB{d:D} (hl:l.length<2^21) (a:kW l) (e:key j∉l.map key) (f:CvD H (fun _=>True) id 0 (dS (l.map aS)) d) (h: ∀b,K (.tup [.c (cI (l.findIdx (uL j):Nat)),.c (cB b)]) H nx):
 aB Tryz.prog eR [d,boR (aS j),.one (.c (.clo bJ []))] H nx K:=
 (auC l j hl a e).pure rfl (aI ⟨f,aE rfl,kC rfl,trivial⟩) fun r ⟨b,hr⟩=>hr▸h b
theorem azV{z:List D1} (hi:i≤l.length):wr (wr ((l.take i).map aS++List.replicate (l.length+1-i) z) i [aS j]) (i+1) (((l.drop i).take (l.length-i)).map aS)=(l.take i++j::l.drop i).map aS:=by
 have a:((l.take i).map aS).length=i:=by simp;omega
 have b:(l.drop i).take (l.length-i)=l.drop i:=boL (by simp);have c:wr ((l.take i).map aS++List.replicate (l.length+1-i) z) i [aS j]=(l.take i).map aS++[aS j]++List.replicate (l.length-i) z:=by unfold wr;rw[byH (by omega),boL (by omega),List.drop_append,brZ (by simp;omega),a];simp only[List.length_cons,List.length_nil,List.nil_append,List.drop_replicate];congr 2;omega
 rw[c,b];have e:((l.take i).map aS++[aS j]).length=i+1:=by simp;omega
 unfold wr;have d:List.drop (i+1+((l.drop i).map aS).length) ((l.take i).map aS++[aS j]++List.replicate (l.length-i) z)=[]:=brZ (by simp;omega);rw[d,byH (by omega),boL (by omega)];simp
theorem azU (hi:i<l.length):wr (wr (l.map aS) (i+1) (((l.drop i).take (l.length-i)).map aS)) i [aS j]=(l.take i++j::l.drop i).map aS:=by
 have a:(l.drop i).take (l.length-i)=l.drop i:=boL (by simp);rw[a];have b:wr (l.map aS) (i+1) ((l.drop i).map aS)=(l.take (i+1)).map aS++(l.drop i).map aS:=by unfold wr;have c:List.drop (i+1+((l.drop i).map aS).length) (l.map aS)=[]:=brZ (by simp;omega);rw[c,bq6,br7]
 rw[b];have e:((l.take (i+1)).map aS).length=i+1:=by simp;omega
 unfold wr;have d:List.drop (i+[aS j].length) ((l.take (i+1)).map aS)=[]:=brZ (by simp;omega);rw[byH (by omega),bsJ (by simp;omega),d,←br7,byB];simp
theorem avI (l:List Job) (j:Job) (i cap m:Nat) (hl:l.length<2^21) (hi:i≤l.length) (w:l.length≤cap) (b:cap≤m):
 aB Tryz.prog atU [boQ 5 0 l.length cap,boP i,boQ 5 1 1 1] (hp [(0,⟨5,m,l.map aS⟩),(1,⟨5,1,[aS j]⟩)]) 2
 fun r H' g=>∃a e,l.length+1≤a∧a≤e∧g=3∧H'=hp [(2,⟨5,e,(l.take i++j::l.drop i).map aS⟩)]∧r=boQ 5 2 (l.length+1) a:=by
 refine avE rfl fun Q c=> ?_
 unfold atZ
 have k:((l.length:Int)+((1:Nat):Int)-(i:Int)).toNat=l.length+1-i:=by omega
 have n:((i:Int)+((1:Nat):Int)).toNat=i+1:=by omega
 have o:((l.length:Int)+((1:Nat):Int)).toNat=l.length+1:=by omega
 have p:i+(l.length+1-i)=l.length+1:=by omega
 have q:l.length+1-(i+1)=l.length-i:=by omega
 have s:min 1 (l.length+1-i)=1:=by omega
 have t:(i+(l.length-i)≤l.length)=True:=eq_true (by omega)
 have u:min (l.length+1-i) (l.length-i)=l.length-i:=by omega
 have bm9:IntKind.i64.wrap ((i:Int)+((1:Nat):Int))=(i:Int)+((1:Nat):Int):=IntWalk.i64_in _ (by omega)
 have d:List.take 1 [aS j]=[aS j]:=rfl
 repeat' first| (first|apply bn1| (refine av1 rfl rfl (by omega) (by simp) (by dsimp only;omega) (by simp) (by omega) (by omega) (by simp) ?_))<;>(simp only[go_sem,k,n,o,p,q,s,t,u,bm9,d,Nat.min_self];try simp (disch:=omega) only[Iw])|apply bn3 (by omega)|refine bnE (fun h=> ?_) fun h=> ?_| (with_reducible first|refine fun(cap:Nat) (f:_≤cap)=> ?_|refine fun(v:_≤cap)=> ?_)|refine⟨by omega,?_⟩| (refine⟨by(rw[CG];omega),?_⟩)|fail
 · (refine c _ _ _ _ _ 3 (boQ 5 2 (l.length+1) cap) (hp [(2,⟨5,cap,(l.take i++j::l.drop i).map aS⟩)]) _ _ (.inr rfl) rfl (fU [19] (by omega) (by repeat' first|exact bo2| ((with_reducible apply bo0);exact bpB (by omega) rfl rfl (by rfl) rfl)| ((with_reducible apply bo1);apply bo7)|fail) ⟨⟨by simp,by simp[sgL],_,rfl,bP (aG dZ _) (by rw[boL (by omega),brZ (by omega)]) rfl⟩,trivial⟩ (by simp[sgL])) ?_)
   exact⟨cap,cap,by omega,m5 _,rfl,rfl,rfl⟩
 ·refine⟨⟨by omega,by simp[wr];omega,by omega⟩,?_⟩;rw[azV hi];repeat' first|apply bn1<;>(simp only[go_sem])|fail
  (refine c _ _ _ _ _ 3 (boQ 5 2 (l.length+1) cap) (hp [(2,⟨5,cap,(l.take i++j::l.drop i).map aS⟩)]) _ _ (.inr rfl) rfl (fU [31] (by omega) (by repeat' first|exact bo2| ((with_reducible apply bo0);exact bpB (by omega) rfl rfl (by rfl) rfl)| ((with_reducible apply bo1);apply bo7)|fail) ⟨⟨by simp,by simp[sgL],_,rfl,bP (aG dZ _) rfl rfl⟩,trivial⟩ (by simp[sgL])) ?_);exact⟨cap,cap,by omega,m5 _,rfl,rfl,rfl⟩
 ·refine⟨⟨by omega,by simp[wr];omega,by omega⟩,?_⟩;rw[azU (by omega)];repeat' first|apply bn1<;>(simp only[go_sem])|fail
  (refine c _ _ _ _ _ 3 (boQ 5 2 (l.length+1) cap) (hp [(2,⟨5,m,(l.take i++j::l.drop i).map aS⟩)]) _ _ (.inr rfl) rfl (fU [0] (by omega) (by repeat' first|exact bo2| ((with_reducible apply bo0);exact bpB (by omega) rfl rfl (by rfl) rfl)| ((with_reducible apply bo1);apply bo7)|fail) ⟨⟨by simp,by simp[sgL],_,rfl,bP (aG dZ _) rfl rfl⟩,trivial⟩ (by simp[sgL])) ?_);exact⟨cap,m,by omega,b,rfl,rfl,rfl⟩
variable{i0:Nat}
theorem avK{i1:Nat} (hl:l.length<2^21) (hi:i≤l.length) (f:l.length≤cap) (d:cap≤m)
 (t:i0<nx) (u:i1<nx) (c:i0≠i1) (g:H i0=some ⟨5,m,l.map aS⟩) (k:H i1=some ⟨5,1,[aS j]⟩)
 (h: ∀a b,l.length+1≤a→a≤b→K (boQ 5 nx (l.length+1) a) (((H.del i0).del i1).set nx ⟨5,b,(l.take i++j::l.drop i).map aS⟩) (nx+1)):
 aB Tryz.prog atU [boQ 5 i0 l.length cap,boP i,boQ 5 i1 1 1] H nx K:=by
 refine(avI l j i cap m hl hi f d).AF [i0,i1] rfl ⟨qS (by simp) rfl rfl rfl rfl,aE rfl,qS (by simp) rfl rfl rfl rfl,trivial⟩
  ⟨⟨by simp,id,_,g,bP (aG dZ _) rfl rfl⟩,⟨by simp,id,_,k,bP (aG (l:=[j]) dZ) rfl rfl⟩,trivial⟩ (by simpa [nth] using c) (by simp;omega) (by simpa using c) fun r H' v _ ⟨a,b,bqB,n,o,p,q⟩=> ?_
 have h:=h a b bqB n
 subst o;subst p;subst q
 generalize l.take i++j::l.drop i=e at*
 have s:back (tau 2 nx (nth [i0,i1])) (hp [(2,⟨5,b,e.map aS⟩)]) 3 H=((H.del i0).del i1).set nx ⟨5,b,e.map aS⟩:=by simp[back,hp,aA.set,aA.nil,tau,nth,uB,BB,aA.eL,aA.yI]
 rw[←s] at h
 exact h
theorem azL{a:Nat}{z:List D1} (b:a<l.length):wr ((l.take a).map aS++(l.drop (a+1)).map aS) (l.length-1) (List.replicate (l.length-(l.length-1)) z)=(MT l a).map aS++[z]:=by
 have c:(l.take a).map aS++(l.drop (a+1)).map aS=(MT l a).map aS:=by simp[MT]
 have d:((MT l a).map aS).length=l.length-1:=by have:=abN b;simp;omega
 have e:l.length-(l.length-1)=1:=by omega
 rw[c,e,List.replicate_one];unfold wr;have f:List.drop (l.length-1+[z].length) ((MT l a).map aS)=[]:=brZ (by simp at d ⊢;omega);rw[f,boL (by omega),bq6]
theorem avM (l:List Job) (a cap m:Nat) (hl:l.length<2^21) (c:a<l.length) (q:l.length≤cap) (f:cap≤m):
 aB Tryz.prog x4 [boQ 5 0 l.length cap,boP a,boP (a+1)] (hp [(0,⟨5,m,l.map aS⟩)]) 1
 fun r H' g=>∃b d,(MT l a).length≤b∧b≤d∧g=2∧H'=hp [(1,⟨5,d,(MT l a).map aS⟩)]∧r=boQ 5 1 (MT l a).length b:=by
 refine avF rfl fun Q h=> ?_
 unfold at0
 have i:((a:Int)+1).toNat=a+1:=by omega
 have j:a+(l.length-(a+1))=l.length-1:=by omega
 have k:(a+1+(l.length-(a+1))≤l.length)=True:=eq_true (by omega)
 have n:List.take (l.length-(a+1)) (List.drop (a+1) l)=List.drop (a+1) l:=boL (by simp)
 have bm9:(List.drop (a+1) l).length=l.length-(a+1):=CI
 have o:=abN c
 repeat' first|apply bn1<;>(simp only[go_sem,i,j,k,n,bm9])|apply bn3 (by omega)| (with_reducible first|refine fun(cap:Nat) (e:_≤cap)=> ?_|refine fun(p:_≤cap)=> ?_)|refine⟨by omega,?_⟩| (refine⟨by(rw[CG];omega),?_⟩)|fail
 (refine h _ _ _ _ _ 2 (boQ 5 1 (MT l a).length cap) (hp [(1,⟨5,cap,(MT l a).map aS⟩)]) _ _ (.inr rfl) rfl (fU [20,0] (by omega) (by repeat' first|exact bo2| ((with_reducible apply bo0);exact bpB (by omega) rfl rfl (by first|rfl|omega) rfl)| ((with_reducible apply bo1);apply bo7)|fail) ⟨⟨by simp,by simp[sgL],_,rfl,anJ (junk:=[[cI 0,cI 0,cI 0,cI 0,.osl 0 0 0 0 0]]) (fun r hr=>(aG dZ _ r hr).2) (azL c) rfl (by decide)⟩,trivial⟩ (by simp[sgL])) ?_)
 exact⟨cap,cap,by omega,m5 _,rfl,rfl,rfl⟩
theorem auH{z:Int} (hl:l.length<2^21) (q: ¬z<0) (f:z.toNat<l.length) (g:l.length≤cap) (d:cap≤m) (s:i0<nx) (i:H i0=some ⟨5,m,l.map aS⟩)
 (h: ∀b c,(MT l z.toNat).length≤b→b≤c→K (boQ 5 nx (MT l z.toNat).length b) ((H.del i0).set nx ⟨5,c,(MT l z.toNat).map aS⟩) (nx+1)):
 aB Tryz.prog x4 [boQ 5 i0 l.length cap,boP z,boP (z+1)] H nx K:=by
 obtain⟨a,rfl⟩: ∃a:Nat,z=a:=⟨z.toNat,by omega⟩
 refine(avM l a cap m hl f g d).AF [i0] rfl ⟨qS (by simp) rfl rfl rfl rfl,aE rfl,aE rfl,trivial⟩
  ⟨⟨by simp,id,_,i,bP (aG dZ _) rfl rfl⟩,trivial⟩ (by simp) (by simp;omega) (by simp) fun r H' t _ ⟨b,c,bqB,j,k,n,o⟩=> ?_
 simp only[Int.toNat_natCast] at h
 have h:=h b c bqB j
 subst k;subst n;subst o
 generalize MT l a=e at*
 have p:back (tau 1 nx (nth [i0])) (hp [(1,⟨5,c,e.map aS⟩)]) 2 H=(H.del i0).set nx ⟨5,c,e.map aS⟩:=by simp[back,hp,aA.set,aA.nil,tau,nth,uB,BB,aA.eL,aA.yI]
 rw[←p] at h
 exact h
theorem ayH (l:List Job) (j:Job) (cap m:Nat) (hl:l.length<2^21) (f:kW l) (g:key j∉l.map key) (e:l.length≤cap) (d:cap≤m):
 aB Tryz.prog auE [boQ 5 0 l.length cap,boR (aS j)] (hp [(0,⟨5,m,l.map aS⟩)]) 1
 fun r H' h=>∃a c,(BM l j).length≤a∧a≤c∧h=2∧H'=hp [(1,⟨5,c,(BM l j).map aS⟩)]∧r=boQ 5 1 (BM l j).length a:=by
 have i:=byE (p:=uL j) (xs:=l)
 have k:=ZE (l:=l) (j:=j)
 refine ax5 rfl fun Q n=> ?_
 unfold avZ
 repeat' first| (first|apply bn1|refine auB hl f g (yP dZ rfl rfl e trivial) (fun b=> ?_)|refine avK hl i e d (by omega) (by omega) (by omega) rfl rfl (fun a c q o=> ?_))<;>(simp only[go_sem])|fail
 (refine n _ _ _ _ _ 2 (boQ 5 1 (BM l j).length a) (hp [(1,⟨5,c,(BM l j).map aS⟩)]) _ _ (.inr rfl) rfl (fU [17,0] (by omega) (by repeat' first|exact bo2| ((with_reducible apply bo0);exact bpB (by omega) rfl rfl (by first|rfl|omega) rfl)| ((with_reducible apply bo1);apply bo7)|fail) ⟨⟨by simp,by simp[sgL],_,rfl,bP (aG dZ _) rfl rfl⟩,trivial⟩ (by simp[sgL])) ?_)
 exact⟨a,c,by omega,o,rfl,rfl,rfl⟩
theorem awM{cs:List D1} (c:CvL H (fun _=>False) (nth [i0]) 1 (aS j) cs) (hl:l.length<2^21) (f:kW l) (g:key j∉l.map key) (i:l.length≤cap) (d:cap≤m) (t:i0<nx) (k:H i0=some ⟨5,m,l.map aS⟩)
 (h: ∀a b,(BM l j).length≤a→a≤b→K (boQ 5 nx (BM l j).length a) ((H.del i0).set nx ⟨5,b,(BM l j).map aS⟩) (nx+1)):
 aB Tryz.prog auE [boQ 5 i0 l.length cap,boR cs] H nx K:=by
 refine(ayH l j cap m hl f g i d).AF [i0] rfl ⟨qS (by simp) rfl rfl rfl rfl,c,trivial⟩
  ⟨⟨by simp,id,_,k,bP (aG dZ _) rfl rfl⟩,trivial⟩ (by simp) (by simp;omega) (by simp) fun r H' u _ ⟨a,b,bqB,n,o,p,q⟩=> ?_
 have h:=h a b bqB n
 subst o;subst p;subst q
 generalize BM l j=e at*
 have s:back (tau 1 nx (nth [i0])) (hp [(1,⟨5,b,e.map aS⟩)]) 2 H=(H.del i0).set nx ⟨5,b,e.map aS⟩:=by simp[back,hp,aA.set,aA.nil,tau,nth,uB,BB,aA.eL,aA.yI]
 rw[←s] at h
 exact h
theorem ax1{a b:Int} (hl:l.length<2^21) (f:kW l) (g:(a,b)∉l.map key) (i:l.length≤cap) (d:cap≤m) (k:i0<nx) (n:H i0=some ⟨5,m,l.map aS⟩)
 (h: ∀c e,(BM l ⟨a,b,oW⟩).length≤c→c≤e→K (boQ 5 nx (BM l ⟨a,b,oW⟩).length c) ((H.del i0).set nx ⟨5,e,(BM l ⟨a,b,oW⟩).map aS⟩) (nx+1)):
 aB Tryz.prog auE [boQ 5 i0 l.length cap,boR [cI a,cI b,cI 0,cI 0,.osl 0 0 0 0 0]] H nx K:=
 awM (j:=⟨a,b,oW⟩) (aH (bB rfl) (aH (bB rfl) (aH (bB rfl) (aH (bB rfl) (aH xG eP))))) hl f g i d k n h
theorem ax7{a b:Int}{r:Rsp} (hl:l.length<2^21) (f:kW l) (g:(a,b)∉l.map key) (i:l.length≤cap) (d:cap≤m) (k:i0<nx) (n:H i0=some ⟨5,m,l.map aS⟩)
 (h: ∀c e,(BM l ⟨a,b,r⟩).length≤c→c≤e→K (boQ 5 nx (BM l ⟨a,b,r⟩).length c) ((H.del i0).set nx ⟨5,e,(BM l ⟨a,b,r⟩).map aS⟩) (nx+1)):
 aB Tryz.prog auE [boQ 5 i0 l.length cap,boR (cI a::cI b::tG r)] H nx K:=
 awM (j:=⟨a,b,r⟩) (GW fun x o=>w2.1 (dZ ⟨a,b,r⟩).2 x o) hl f g i d k n h
theorem BG{l:List Int}{x:Int} (hl:l.length<2^40){c:D} (a:CvD H (fun _=>True) id 0 (dS (l.map aJ)) c) (h:K (boP (bK (fun y=>decide (x=y)) l)) H nx):aB Tryz.prog gN [c,boP x] H nx K:=by
 refine aB.pure (args0:=[dS (l.map aJ),boP x]) (R:=fun e=>e=boP (bK (fun y=>decide (x=y)) l)) ?_ rfl (aI ⟨a,aE rfl,trivial⟩) (fun r hr=>hr▸h);clear h;refine AD rfl fun Q d=> ?_;unfold jQ;repeat' first|apply bn1<;>(simp only[go_sem])|fail
 (refine aM.loop (α:={k:Nat//k≤l.length∧(∀i,i<k→(fun y=>decide (x=y)) (l.getD i default)=false)}) (fun u=>en [(8,boP u.1),(7,boP l.length),(1,boP x),(0,dS (l.map aJ))]) (fun _=>.nil) _ (fun u=>l.length-u.1) ⟨0,by omega,(by intros;first|trivial|omega)⟩ (bU (m5 _) (by repeat' first|exact bo2|refine xqI rfl rfl ?_|fail)) ?_);(rintro⟨k,g,hinv⟩ bpQ b);by_cases f:k<l.length
 ·repeat' first|apply bn1<;>(simp only[go_sem];try simp (disch:=omega) only[Iw])|apply bn2 (by omega)|refine bnE (fun h=> ?_) fun h=> ?_|refine⟨by omega,?_⟩|fail
  ·refine aZ d _ rfl rfl (qA (bq3 (CU (by omega) (decide_eq_true (by assumption)) hinv)))
  · (refine b _ _ _ ⟨k+1,by omega,iS hinv (decide_eq_false (by assumption))⟩ (by omega) (by(try dsimp only);omega) (bU (m5 _) (by repeat' first|exact bo2|refine xqI rfl rfl ?_|fail)))
 ·repeat' first|apply bn1<;>(simp only[go_sem])|apply bn3 (by omega)|fail
  refine aZ d (boP _) rfl rfl (qA (bq3 (tI fun i hi=>hinv i (by omega))))
theorem x8{l:List Int}{x:Int} (hl:l.length<2^40){b:D} (a:CvD H (fun _=>True) id 0 (dS (l.map aJ)) b) (h:K (dB (decide (x∈l))) H nx):aB Tryz.prog fK [b,boP x] H nx K:=by
 refine aB.pure (args0:=[dS (l.map aJ),boP x]) (R:=fun c=>c=dB (decide (x∈l))) ?_ rfl (aI ⟨a,aE rfl,trivial⟩) (fun r hr=>hr▸h);clear h;refine wG rfl fun Q d=> ?_;unfold iC;repeat' first| (first|apply bn1|refine BG hl (aE rfl) ?_)<;>(simp only[go_sem])|fail
 all_goals first|with_reducible refine aZ d _ rfl rfl ?_|skip
 all_goals refine pD (cH.trans ⟨fun⟨y,e,he⟩=> ?_,fun h=>⟨x,h,by simp⟩⟩)
 all_goals have:=of_decide_eq_true he;subst this;exact e
theorem XT{f:Nat→Int}{n k:Nat}{x:Int} (c:k<n) (a:x=f k):((List.range k).map f++List.replicate (n-k) (0:Int)).set k x=(List.range (k+1)).map f++List.replicate (n-(k+1)) 0:=by
 have e:n-k=(n-(k+1))+1:=by omega
 have b:((List.range k).map f).length=k:=by simp
 rw[bsB,b,if_neg (br6 k),brJ,e,List.replicate_succ,List.set_cons_zero,List.range_succ,bqX,C0,a];rfl
theorem OQ{addr:Int}{many:Int}{wrap:Bool} (h:K (dS ((bE addr many wrap).map aJ)) H nx):aB Tryz.prog oS [boP addr,boP many,dB wrap] H nx K:=by
 refine aB.fresh (R:=fun i=>i=dS ((bE addr many wrap).map aJ)) ?_ rfl (fun r hr=>hr▸h);clear h;refine M3 rfl fun Q g=> ?_;unfold s6;by_cases a:o7 addr many wrap
 ·obtain⟨bpR,j,bpS,bpT,bpU,bpV,bpW,bpX⟩:=aaA a;repeat' first| (first|apply bn1|apply wS)<;>(simp only[go_sem,bpV,eq_true a])|refine⟨by omega,?_⟩|fail
  refine aM.sG 1 (β:=Nat) (fun b k=>en [(18,boP k),(17,boP many),(7,boQ 1 b many.toNat many.toNat),(2,dB wrap),(1,boP many),(0,boP addr)])
   (fun b k=>hp [(b,⟨1,many.toNat,((List.range k).map (bAt addr many wrap)++List.replicate (many.toNat-k) (0:Int)).map aJ⟩)]) (fun k=>k≤many.toNat) (fun k=>many.toNat-k) 0 ?_ (by omega) ?_
  · (refine cR [7] (by omega) (by repeat' first|exact bo2|refine xqI rfl rfl ?_|refine xqO (by omega) rfl rfl (by rfl) ?_|refine xqV rfl (by omega) ?_|fail) ⟨⟨by simp,by simp[sgL],_,rfl,bP (aG bF _) (by simp[aJ]) rfl⟩,trivial⟩ (by simp[sgL]))
  intro k o bpQ d;have hlen:((List.range k).map (bAt addr many wrap)++List.replicate (many.toNat-k) (0:Int)).length=many.toNat:=by simp;omega
  by_cases c:k<many.toNat
  ·obtain⟨p,q,s⟩:=agW a k c;have e:(addr+k).tmod many=(addr+k)%many:=brF (by omega);have m:=Int.emod_lt_of_pos (addr+k) j;have n:=Int.emod_nonneg (addr+k) bpR;repeat' first|apply bn1<;>(simp only[go_sem,bpV,e,List.set_set,hlen];try simp (disch:=omega) only[Iw])|apply bn2 (by omega)| ((refine bnF (fun h=> ?_) (fun h=> ?_))<;>try subst h)|refine⟨by omega,?_⟩|fail
   ·exact d _ _ _ (k+1) (by omega) (by(refine cR [12] (by omega) (by repeat' first|exact bo2|refine xqI rfl rfl ?_|refine xqO (by omega) rfl rfl (by rfl) ?_|fail) ⟨⟨by simp,by simp[sgL],_,rfl,bP (aG bF _) (congrArg _ (XT c (by simp only[bAt,if_true])).symm) rfl⟩,trivial⟩ (by simp[sgL]))) (by omega) (by omega)
   ·exact d _ _ _ (k+1) (by omega) (by(refine cR [12] (by omega) (by repeat' first|exact bo2|refine xqI rfl rfl ?_|refine xqO (by omega) rfl rfl (by rfl) ?_|fail) ⟨⟨by simp,by simp[sgL],_,rfl,bP (aG bF _) (congrArg _ (XT c (by simp[bAt])).symm) rfl⟩,trivial⟩ (by simp[sgL]))) (by omega) (by omega)
  ·repeat' first|apply bn1<;>(simp only[go_sem])|apply bn3 (by omega)|fail
   have f:k=many.toNat:=(by omega);subst f;exact V4 g (dS ((bE addr many wrap).map aJ)) _ rfl (yP (l:=bE addr many wrap) bF (by simp[bE,a];rfl) (DF a).symm (by rw[DF a];omega) trivial) rfl rfl
 ·repeat' first| (first|apply bn1|apply wS)<;>(simp only[go_sem,eq_false a])|fail
  exact V4 g (dS []) _ rfl xG rfl (by simp[bE,a])
theorem vY{q:Req} (h:K (dS ((bE q.addr q.many q.wrap).map aJ)) H nx):aB Tryz.prog fP [boR (eB q)] H nx K:=by
 refine aB.fresh (R:=fun a=>a=dS ((bE q.addr q.many q.wrap).map aJ)) ?_ rfl (fun r hr=>hr▸h);clear h;refine GL rfl fun Q b=> ?_;unfold mQ;repeat' first| (first|apply bn1|apply OQ)<;>(simp only[go_sem])|fail
 all_goals exact V4 b (dS _) _ rfl (aE rfl) rfl rfl
theorem KD{l:List Rng}{q:Req} (hl:l.length<2^40) (h:K (boP (bV l (bE q.addr q.many q.wrap))) H nx):aB Tryz.prog mZ [dS (l.map eN),boR (eB q)] H nx K:=by
 refine aB.pure (args0:=[dS (l.map eN),boR (eB q)]) (R:=fun g=>g=boP (bV l (bE q.addr q.many q.wrap))) ?_ rfl (aI ⟨aE rfl,aE rfl,trivial⟩) (fun r hr=>hr▸h);clear h;refine TU rfl fun Q c=> ?_;unfold zZ;have j:=MK (addr:=q.addr) (many:=q.many) (wrap:=q.wrap);repeat' first| (first|apply bn1|apply vY)<;>(simp only[go_sem])|fail
 generalize bE q.addr q.many q.wrap=all at*;(refine aM.loop (α:={k:Nat//k≤all.length∧(∀i,i<k→¬bK (inR · (all.getD i default)) l<0∧bK (inR · (all.getD i default)) l=bK (inR · (all.getD 0 default)) l)}) (fun u=>en [(12,boP u.1),(11,boP all.length),(10,dS (all.map aJ)),(5,boP (if u.1=0 then-1 else bK (inR · (all.getD 0 default)) l)),(0,dS (l.map eN))]) (fun _=>.nil) _ (fun u=>all.length-u.1) ⟨0,by omega,(by intros;first|trivial|omega)⟩ (bU (m5 _) (by repeat' first|exact bo2|refine xqI rfl rfl ?_|fail)) ?_);(rintro⟨k,n,hinv⟩ bpQ d);by_cases b:k<all.length
 ·repeat' first| (first|apply bn1|refine bpL (fun h=> ?_) fun h=> ?_|apply SX hl)<;>(simp only[go_sem];try simp (disch:=omega) only[Iw])|apply bn2 (by omega)|refine bnE (fun h=> ?_) fun h=> ?_|refine⟨by omega,?_⟩|fail
  ·refine aZ c (boP _) rfl rfl (qA ?_);rcases CR k with a|a
   ·subst a;have o:=aoF (p:=(inR · (all.getD 0 default))) (l:=l);by_cases f: ∀i,i<all.length→1≤i→bK (inR · (all.getD i default)) l=bK (inR · (all.getD 0 default)) l;·rw[RH (by omega) f];omega
    ·have: ∃i,i<all.length∧ ¬bK (inR · (all.getD i default)) l=bK (inR · (all.getD 0 default)) l:=Classical.byContradiction fun m=>f fun i hi _=>Classical.byContradiction fun e=>m ⟨i,hi,e⟩;obtain⟨i,hi,e⟩:=this;rw[L8 hi e]
   ·have:=(hinv 0 a).1;exact(L8 b (by omega)).symm
  ·refine aZ c (boP _) rfl rfl (qA (L8 b (fun he=> ?_)).symm);grind
  all_goals
   have heq:bK (inR · (all.getD k default)) l=bK (inR · (all.getD 0 default)) l:=by grind
   refine d _ _ _ ⟨k+1,by omega,iS hinv ⟨by omega,heq⟩⟩ (by omega) (by dsimp only;omega) (bU (m5 _) ?_)
   dsimp only
   rw[if_neg (Nat.succ_ne_zero k),←heq]
   repeat' first|exact bo2|refine xqI rfl rfl ?_|fail
 ·repeat' first|apply bn1<;>(simp only[go_sem])|apply bn3 (by omega)|fail
  refine aZ c (boP _) rfl rfl (qA ?_);by_cases a:k=0;·rw[if_pos a,adL (by omega)]
  ·rw[if_neg a,RH (by omega) (fun i hi _=>(hinv i (by omega)).2)]
end
end Go.Proofs.YtdkfhdmagdaceaaGreat
namespace Go.AM
end Go.AM
namespace Go.Proofs.YtdkfhdmagdaceaaGreat
open Go Go.AM
attribute [local irreducible] aM wv aB vd wvH
section
variable {H : aA} {nx : Nat} {K : D → aA → Nat → Prop}
end
end Go.Proofs.YtdkfhdmagdaceaaGreat
namespace Go.AM
end Go.AM
namespace Go.Proofs.YtdkfhdmagdaceaaGreat
open Go Go.AM
attribute [local irreducible] aM wv aB vd wvH
section
variable {H : aA} {nx : Nat} {K : D → aA → Nat → Prop}
end
end Go.Proofs.YtdkfhdmagdaceaaGreat
