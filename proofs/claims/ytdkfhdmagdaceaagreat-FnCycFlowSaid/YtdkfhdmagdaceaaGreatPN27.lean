/- Texts laid together by a program: rules, contracts and the walk that leads to the law. -/
import Derived.Test.YtdkfhdmagdaceaaGreatPN9
import Derived.Test.YtdkfhdmagdaceaaGreatPN14
import Derived.Test.YtdkfhdmagdaceaaGreatPN22
import Derived.Test.YtdkfhdmagdaceaaGreatPN24
import Derived.Test.YtdkfhdmagdaceaaGreatPN23
import Derived.Test.YtdkfhdmagdaceaaGreatPN11
import Derived.Test.YtdkfhdmagdaceaaGreatPN15
import Derived.Test.YtdkfhdmagdaceaaGreatPN21
set_option linter.unusedVariables false
set_option linter.unusedSimpArgs false
set_option linter.unusedSectionVars false
set_option maxRecDepth 100000
set_option maxHeartbeats 8000000
namespace Go.Proofs.YtdkfhdmagdaceaaGreat
open Go Go.AM
attribute [local irreducible] aM wv aB vd wvH
section
variable {H : aA} {nx : Nat} {K : D → aA → Nat → Prop}
variable{l:List Int}{p:Nat}
theorem aXC{Q:AQ} (i: ∀ex e H2 c d nh d2 g F σ,ex=AEx.normal∨ex=AEx.ret→yT H2 e aVF=some d→CvR 1 d H2 nh d2 g F σ→(nh=1∧ ∃o',g=hp [(0,o')]∧C7 o'∧ ∃(a:Nat) (x:Rsp),o'=rdO l a∧p≤a∧a≤p+12∧d2=boR (tG x)∧(x.data.length≤8))→Q ex e H2 c)
 {e:Env} {H2:aA} {c b bp0 c1 m1 a:Nat} {id code:Int} {D:List Int} (j:yT H2 e aVF=some (boR [cI id,cI code,.osl 1 b 0 bp0 c1])) (k:H2 0=some (rdO l a)) (m:H2 b=some ⟨1,m1,D.map aJ⟩)
 (h:p≤a∧a≤p+12) (n:bp0=D.length) (f:bp0≤c1∧b≠0∧bp0≤8):Q .ret e H2 c:=by
 obtain⟨f,o,q⟩:=f
 subst n
 exact lA i (boR (tG ⟨id,code,D⟩)) _ _ j (aH (bB rfl) (aH (bB rfl) (aH (bW bF m rfl f (by simpa using o)) eP))) k (aV _ _) ⟨a,_,rfl,h.1,h.2,rfl,q⟩
theorem aW6 (l:List Int) (p:Nat) (n:Int) (s:0<n∧n<9000) (hl:kZ l) (m:p+12<2^50):aB Tryz.prog aVA [bkP 2 0,boP n] (hp [(0,rdO l p)]) 1
 fun t H' w=>w=1∧ ∃o',H'=hp [(0,o')]∧C7 o'∧ ∃(e:Nat) (x:Rsp),o'=rdO l e∧p≤e∧e≤p+12∧t=boR (tG x)∧(x.data.length≤8):=by
 refine aW2 rfl fun Q f=> ?_
 unfold aVP
 repeat' first| (first|apply bn1|refine aX hl (by omega) (by omega) (by omega) rfl (fun x c o=> ?_))<;>(simp only[go_sem];try simp (disch:=omega) only[Iw])|fail
 rename_i id q r code y z
 apply aM.EJ 1
 refine aM.sG 3 (β:=Nat×Nat×List Int×Nat)
  (fun b u=>en [(6,boP u.1),(5,bkP 3 (b+1)),(4,bkP 3 b),(1,boP n),(0,bkP 2 0)])
  (fun b u=>hp [(0,rdO l u.2.1),(b,⟨3,1,[[cI 0,cI 0,.osl 0 0 0 0 0]]⟩),(b+1,⟨3,1,[[cI id,cI (1+code),.osl 1 (b+2) 0 u.2.2.1.length u.2.2.2]]⟩),(b+2,⟨1,u.2.2.2,u.2.2.1.map aJ⟩)])
  (fun u=>u.1+u.2.2.1.length≤4∧p≤u.2.1∧u.2.1+u.1≤p+7∧u.2.2.1.length≤u.2.2.2)
  (fun u=>u.1) (x.toNat,p+3,[],0) ?_ ⟨by simp;omega,by dsimp only;omega,by dsimp only;omega,m5 _⟩ ?_
 · (refine cR [1,8,13,0] (by omega) (by repeat' first|exact bo2|refine xqI rfl rfl ?_|refine xqP (by omega) rfl rfl ?_|refine xqV rfl (by omega) ?_|fail) ⟨⟨by simp,by simp[sgL],_,rfl,bS (aV _ _)⟩,⟨by simp,by simp[sgL],_,rfl,aP (by repeat' first|exact bo2| (with_reducible first|exact bo4|apply bo5)| ((with_reducible apply bo0);first|exact bo9 rfl|exact bpA)|fail)⟩,⟨by simp,by simp[sgL],_,rfl,aP (by repeat' first|exact bo2| (with_reducible first|exact bo4|apply bo5)| ((with_reducible apply bo0);first|exact bo9 rfl|exact bpA)|fail)⟩,⟨by simp,by simp[sgL],_,rfl,bP (aG bF _) rfl rfl⟩,trivial⟩ (by simp[sgL]))
 rintro⟨k,A,d,G⟩ ⟨bpR,B,bpS,bpT⟩ bpQ g
 dsimp only at bpR B bpS bpT
 have i:d.take d.length=d:=bq4
 by_cases H:0<k
 ·repeat' first| (first|apply bn1|refine aX hl (by omega) (by omega) (by omega) rfl (fun x c o=> ?_))<;>(simp only[go_sem,i];try simp (disch:=omega) only[Iw])|apply bn2 (by omega)| (with_reducible first|refine fun(cap:Nat) (a:_≤cap)=> ?_|refine fun(C:_≤cap)=> ?_)|refine⟨by omega,?_⟩|fail
  exact g _ _ _ (k-1,A+1,d++[x],cap) (by omega) (by dsimp only;rw[t2,List.length_singleton];(refine cR [14,15,24,0] (by omega) (by repeat' first|exact bo2|refine xqI rfl rfl ?_|refine xqP (by omega) rfl rfl ?_|refine xqV rfl (by omega) ?_|fail) ⟨⟨by simp,by simp[sgL],_,rfl,bS (aV _ _)⟩,⟨by simp,by simp[sgL],_,rfl,aP (by repeat' first|exact bo2| (with_reducible first|exact bo4|apply bo5)| ((with_reducible apply bo0);first|exact bo9 rfl|exact bpA)|fail)⟩,⟨by simp,by simp[sgL],_,rfl,aP (by repeat' first|exact bo2| (with_reducible first|exact bo4|apply bo5)| ((with_reducible apply bo0);first|exact bo9 rfl|exact bpB (by omega) rfl rfl (by rfl) rfl)|fail)⟩,⟨by simp,by simp[sgL],_,rfl,bP (aG bF _) rfl rfl⟩,trivial⟩ (by simp[sgL]))) ⟨by simp;omega,by dsimp only;omega,by dsimp only;omega,by simpa using a⟩ (by dsimp only;omega)
 ·repeat' first| (first|apply bn1|refine d6 s hl (by omega) (by omega) rfl (fun I J E F _=> ?_)|refine aX hl (by omega) (by omega) (by omega) rfl (fun x c o=> ?_))<;>(simp only[go_sem])|apply bn3 (by omega)|refine bnE (fun h=> ?_) fun h=> ?_| ((refine bnF (fun h=> ?_) (fun h=> ?_))<;>try subst h)|refine⟨by omega,?_⟩|fail
  all_goals first
   | (obtain⟨v,j⟩:=aN1 (L:=[[.v (.int .i64 (-1))],[.v (.int .i64 2)]]) (by simp) c (by simp;omega);simp only[j];simp only[go_sem];repeat' first|apply bn1<;>(simp only[go_sem])|fail)
   | (obtain⟨v,j⟩:=aN1 (L:=[[.v (.int .i64 0)],[.v (.int .i64 5)]]) (by simp) c (by simp;omega);simp only[j];simp only[go_sem];repeat' first|apply bn1<;>(simp only[go_sem])|fail)
   |skip
  all_goals first
   |exact aXC f rfl rfl rfl (by omega) rfl (by omega)
   |exact aXC f (D:=[-1]) rfl rfl rfl (by omega) rfl (by omega)
   |exact aXC f (D:=[1,2,3,4,5]) rfl rfl rfl (by omega) rfl (by omega)
theorem aV4{i:Nat}{n:Int} (c:0<n∧n<9000) (hl:kZ l) (b:p+12<2^50) (hi:i<nx) (e:H i=some (rdO l p)) (h: ∀(a:Nat) (x:Rsp),p≤a→a≤p+12→(x.data.length≤8)→K (boR (tG x)) (H.set i (rdO l a)) nx):
 aB Tryz.prog aVA [bkP 2 i,boP n] H nx K:=
 (aW6 l p n c hl b).OU i rfl (gW ⟨DG (by omega) rfl,aE rfl,trivial⟩) hi e (aV l p) fun r o' ⟨a,x,f,g,j,k,m⟩=>by subst f;subst k;exact EW (A:=fun d=>K d (H.set i (rdO l a)) nx) rfl (h a x g j m)
theorem aW1{Q:AQ} (j: ∀ex e H2 c d nh d2 g F σ,ex=AEx.normal∨ex=AEx.ret→yT H2 e aVH=some d→CvR 1 d H2 nh d2 g F σ→(nh=1∧ ∃o',g=hp [(0,o')]∧C7 o'∧ ∃(a:Nat) (w:List Int),o'=rdO l a∧p≤a∧a≤p+70∧d2=boR [.isl (w.map aJ)]∧(w.length≤65))→Q ex e H2 c)
 {e:Env} {H2:aA} {c b bp0 c1 m1 a off:Nat} {W D:List Int} (k:yT H2 e aVH=some (boR [.osl 1 b off bp0 c1])) (m:H2 0=some (rdO l a)) (n:H2 b=some ⟨1,m1,W.map aJ⟩)
 (o:(W.drop off).take bp0=D) (h:p≤a∧a≤p+70) (f:bp0=D.length∧off+bp0≤W.length) (i:bp0≤c1∧b≠0∧bp0≤65):Q .ret e H2 c:=by
 obtain⟨i,q,s⟩:=i
 obtain⟨f,r⟩:=f
 exact lA j (boR [.isl (D.map aJ)]) _ _ k (aH (aTY (aG bF _) (by rw[bqW];exact f) (by simpa using q) n rfl (by simp;omega) (by rw[bqW,←f,←brE,←br7,o]) (by rw[bqW];omega)) eP) m (aV _ _) ⟨a,_,rfl,h.1,h.2,rfl,by omega⟩
theorem aW8 (l:List Int) (p:Nat) (n:Int) (c:n=99999∨(0<n∧n<9000)) (hl:kZ l) (j:p+70<2^50):aB Tryz.prog aU9 [bkP 2 0,boP n] (hp [(0,rdO l p)]) 1
 fun q H' r=>r=1∧ ∃o',H'=hp [(0,o')]∧C7 o'∧ ∃(d:Nat) (w:List Int),o'=rdO l d∧p≤d∧d≤p+70∧q=boR [.isl (w.map aJ)]∧(w.length≤65):=by
 refine aWR rfl fun Q a=> ?_
 unfold aVN
 have e:(List.replicate 64 (0:Int)).length=64:=rfl
 have f: ∀{H:aA} {nx:Nat} {K:D→aA→Nat→Prop},K (boR [.osl 1 nx 0 64 64]) (H.set nx ⟨1,64,(List.replicate 64 (0:Int)).map aJ⟩) (nx+1)→aB Tryz.prog v8 [] H nx K:=fun h=>aSB h
 generalize List.replicate 64 (0:Int)=bk1 at*
 repeat' first| (first|apply bn1|apply f|refine aX hl (by omega) (by omega) (by omega) rfl (fun x g m=> ?_))<;>(simp only[go_sem])|fail
 refine aM.sG 3 (β:=Nat×Nat×List Int)
  (fun b u=>en [(6,boP u.1),(5,bkP 1 (b+1)),(4,bkP 1 b),(1,boP n),(0,bkP 2 0)])
  (fun b u=>hp [(0,rdO l u.2.1),(b,⟨1,1,[[.osl 0 0 0 0 0]]⟩),(b+1,⟨1,1,[[.osl 1 (b+2) 0 64 64]]⟩),(b+2,⟨1,64,u.2.2.map aJ⟩)])
  (fun u=>u.1≤7∧p≤u.2.1∧u.2.1+8*u.1≤p+57∧u.2.2.length=64)
  (fun u=>u.1) (x.toNat,p+1,bk1) ?_ ⟨by dsimp only;omega,by dsimp only;omega,by dsimp only;omega,e⟩ ?_
 · (refine cR [1,3,5,0] (by omega) (by repeat' first|exact bo2|refine xqI rfl rfl ?_|refine xqP (by omega) rfl rfl ?_|refine xqV rfl (by omega) ?_|fail) ⟨⟨by simp,by simp[sgL],_,rfl,bS (aV _ _)⟩,⟨by simp,by simp[sgL],_,rfl,aP (by repeat' first|exact bo2| (with_reducible first|exact bo4|apply bo5)| ((with_reducible apply bo0);exact bpA)|fail)⟩,⟨by simp,by simp[sgL],_,rfl,aP (by repeat' first|exact bo2| (with_reducible first|exact bo4|apply bo5)| ((with_reducible apply bo0);exact bpB (by omega) rfl rfl (by rfl) rfl)|fail)⟩,⟨by simp,by simp[sgL],_,rfl,bP (aG bF _) rfl rfl⟩,trivial⟩ (by simp[sgL]))
 rintro⟨k,I,w⟩ ⟨bpR,s,bpS,bpT⟩ bpQ i
 dsimp only at bpR s bpS bpT
 by_cases J:0<k
 ·repeat' first| (first|apply bn1|refine SE hl (by omega) (by omega) rfl (fun t y z A B=> ?_)|refine aX hl (by omega) (by omega) (by omega) rfl (fun x g m=> ?_))<;>(simp only[go_sem];try simp (disch:=omega) only[Iw])|apply bn2 (by omega)|refine⟨by omega,?_⟩|fail
  exact i _ _ _ (k-1,t+1,w.set y.toNat (x*257)) (by omega) (by(refine cR [9,10,11,0] (by omega) (by repeat' first|exact bo2|refine xqI rfl rfl ?_|refine xqP (by omega) rfl rfl ?_|refine xqV rfl (by omega) ?_|fail) ⟨⟨by simp,by simp[sgL],_,rfl,bS (aV _ _)⟩,⟨by simp,by simp[sgL],_,rfl,aP (by repeat' first|exact bo2| (with_reducible first|exact bo4|apply bo5)| ((with_reducible apply bo0);exact bpA)|fail)⟩,⟨by simp,by simp[sgL],_,rfl,aP (by repeat' first|exact bo2| (with_reducible first|exact bo4|apply bo5)| ((with_reducible apply bo0);exact bpB (by omega) rfl rfl (by rfl) rfl)|fail)⟩,⟨by simp,by simp[sgL],_,rfl,bP (aG bF _) rfl rfl⟩,trivial⟩ (by simp[sgL]))) ⟨by dsimp only;omega,by dsimp only;omega,by dsimp only;omega,by simp;omega⟩ (by dsimp only;omega)
 ·rcases c with rfl|c
  ·repeat' first| (first|apply bn1|refine uA (by omega) rfl ?_)<;>(simp only[go_sem])|apply bn3 (by omega)|fail
   exact aW1 a (D:=w) rfl rfl rfl (boL (by simp;omega)) (by omega) (by omega) (by omega)
  ·repeat' first| (first|apply bn1|refine d6 c hl (by omega) (by omega) rfl (fun M N C E _=> ?_)|refine aX hl (by omega) (by omega) (by omega) rfl (fun x g m=> ?_))<;>(simp only[go_sem])|apply bn3 (by omega)|refine bnE (fun h=> ?_) fun h=> ?_| (with_reducible first|refine fun(cap:Nat) (o:_≤cap)=> ?_|refine fun(F:_≤cap)=> ?_)| ((refine bnF (fun h=> ?_) (fun h=> ?_))<;>try subst h)|refine⟨by omega,?_⟩|fail
   all_goals first
    | (obtain⟨v,G⟩:=aN1 (L:=[[.v (.int .i64 (-1))],[.v (.int .i64 65536)]]) (by simp) g (by simp;omega);simp only[G];simp only[go_sem];repeat' first|apply bn1<;>(simp only[go_sem])|refine⟨by omega,?_⟩|fail)
    |skip
   all_goals first
    |exact aW1 a (D:=w.drop 1) rfl rfl rfl (boL (by simp;omega)) (by omega) (by simp;omega) (by omega)
    |exact aW1 a (D:=w.set _ _) rfl rfl rfl (boL (by simp;omega)) (by omega) (by simp;omega) (by omega)
    |exact aW1 a (D:=w.take 64++[0]) rfl rfl rfl (boL (by simp;omega)) (by omega) (by simp;omega) (by omega)
    |exact aW1 a (D:=w) rfl rfl rfl (boL (by simp;omega)) (by omega) (by omega) (by omega)
    |fail
theorem aV3{i:Nat}{n:Int} (c:n=99999∨(0<n∧n<9000)) (hl:kZ l) (b:p+70<2^50) (hi:i<nx) (e:H i=some (rdO l p)) (h: ∀(a:Nat) (w:List Int),p≤a→a≤p+70→(w.length≤65)→K (boR [.isl (w.map aJ)]) (H.set i (rdO l a)) nx):
 aB Tryz.prog aU9 [bkP 2 i,boP n] H nx K:=
 (aW8 l p n c hl b).OU i rfl (gW ⟨DG (by omega) rfl,aE rfl,trivial⟩) hi e (aV l p) fun r o' ⟨a,w,f,g,j,k,m⟩=>by subst f;subst k;exact EW (A:=fun d=>K d (H.set i (rdO l a)) nx) rfl (h a w g j m)
theorem aXA{Q:AQ} (k: ∀ex e H2 c d nh d2 h F σ,ex=AEx.normal∨ex=AEx.ret→yT H2 e aVE=some d→CvR 1 d H2 nh d2 h F σ→(nh=1∧ ∃o',h=hp [(0,o')]∧C7 o'∧ ∃(a:Nat) (w u:List Int),o'=rdO l a∧p≤a∧a≤p+200∧d2=boR [.isl (w.map aJ),.isl (u.map aJ)]∧(w.length≤65∧u.length≤6))→Q ex e H2 c)
 {e:Env} {H2:aA} {c b bp0 c1 m1 a off:Nat} {w W D:List Int} (m:yT H2 e aVE=some (boR [.isl (w.map aJ),.osl 1 b off bp0 c1])) (n:H2 0=some (rdO l a)) (o:H2 b=some ⟨1,m1,W.map aJ⟩)
 (q:(W.drop off).take bp0=D) (i:p≤a∧a≤p+200) (f:bp0=D.length∧off+bp0≤W.length) (j:bp0≤c1∧b≠0∧bp0≤6∧w.length≤65):Q .ret e H2 c:=by
 obtain⟨j,r,t,g⟩:=j
 obtain⟨f,s⟩:=f
 exact lA k (boR [.isl (w.map aJ),.isl (D.map aJ)]) _ _ m (aH (bB rfl) (aH (aTY (aG bF _) (by rw[bqW];exact f) (by simpa using r) o rfl (by simp;omega) (by rw[bqW,←f,←brE,←br7,q]) (by rw[bqW];omega)) eP)) n (aV _ _) ⟨a,_,_,rfl,i.1,i.2,rfl,g,by omega⟩
theorem aW7 (l:List Int) (p:Nat) (n:Int) (r:0<n∧n<9000) (hl:kZ l) (q:p+200<2^50):aB Tryz.prog aVK [bkP 2 0,boP n] (hp [(0,rdO l p)]) 1
 fun s H' t=>t=1∧ ∃o',H'=hp [(0,o')]∧C7 o'∧ ∃(a:Nat) (w:List Int) (u:List Int),o'=rdO l a∧p≤a∧a≤p+200∧s=boR [.isl (w.map aJ),.isl (u.map aJ)]∧(w.length≤65∧u.length≤6):=by
 refine aWW rfl fun Q c=> ?_
 unfold aVO
 have d:(List.replicate 6 (-1:Int)).length=6:=rfl
 have e: ∀{H:aA} {nx:Nat} {K:D→aA→Nat→Prop},(∀hc,6≤hc→K (boR [.osl 1 nx 0 64 64,.osl 1 (nx+1) 0 6 hc]) ((H.set nx ⟨1,64,(List.replicate 64 (0:Int)).map aJ⟩).set (nx+1) ⟨1,hc,(List.replicate 6 (-1:Int)).map aJ⟩) (nx+2))→aB Tryz.prog v7 [] H nx K:=fun h=>aR5 h
 generalize List.replicate 64 (0:Int)=bk1 at*
 generalize List.replicate 6 (-1:Int)=aXL at*
 repeat' first| (first|apply bn1|refine e fun hc y=> ?_|refine aV3 (n:=99999) (.inl rfl) hl (by omega) (by omega) rfl (fun pm w f g i=> ?_))<;>(simp only[go_sem])|fail
 refine aM.sG 3 (β:=Nat×Nat×List Int)
  (fun b u=>en [(6,boP u.1),(5,bkP 2 (b+1)),(4,bkP 2 b),(1,boP n),(0,bkP 2 0)])
  (fun b u=>hp [(0,rdO l u.2.1),(b,⟨2,1,[[.osl 0 0 0 0 0,.osl 0 0 0 0 0]]⟩),(b+1,⟨2,1,[[.isl (w.map aJ),.osl 1 (b+2) 0 6 hc]]⟩),(b+2,⟨1,hc,u.2.2.map aJ⟩)])
  (fun u=>u.1≤6∧p≤u.2.1∧u.2.1≤p+70+u.1∧u.2.2.length=6)
  (fun u=>6-u.1) (0,pm,aXL) ?_ ⟨by dsimp only;omega,by dsimp only;omega,by dsimp only;omega,d⟩ ?_
 · (refine cR [1,3,6,0] (by omega) (by repeat' first|exact bo2|refine xqI rfl rfl ?_|refine xqP (by omega) rfl rfl ?_|fail) ⟨⟨by simp,by simp[sgL],_,rfl,bS (aV _ _)⟩,⟨by simp,by simp[sgL],_,rfl,aP (by repeat' first|exact bo2| (with_reducible first|exact bo4|apply bo5)| ((with_reducible apply bo0);exact bpA)|fail)⟩,⟨by simp,by simp[sgL],_,rfl,aP (by repeat' first|exact bo2| (with_reducible first|exact bo4|apply bo5)| ((with_reducible apply bo0);first|exact bo9 rfl|exact bpB (by omega) rfl rfl (by rfl) rfl)|fail)⟩,⟨by simp,by simp[sgL],_,rfl,bP (aG bF _) rfl rfl⟩,trivial⟩ (by simp[sgL]))
 rintro⟨k,z,u⟩ ⟨bpR,A,bpS,bpT⟩ bpQ j
 dsimp only at bpR A bpS bpT
 by_cases F:k<6
 ·repeat' first| (first|apply bn1|refine aX hl (by omega) (by omega) (by omega) rfl (fun x m B=> ?_))<;>(simp only[go_sem])|apply bn2 (by omega)|refine⟨by omega,?_⟩|fail
  obtain⟨v,o⟩:=aN1 (L:=[[.v (.int .i64 (-1))],[.v (.int .i64 0)],[.v (.int .i64 1)],[.v (.int .i64 16)],[.v (.int .i64 32)]]) (by simp) m (by simp;omega);simp only[go_sem,o];repeat' first|apply bn1<;>(simp only[go_sem];try simp (disch:=omega) only[Iw])|refine⟨by omega,?_⟩|fail
  exact j _ _ _ (k+1,z+1,u.set k v) (by omega) (by(refine cR [12,13,14,0] (by omega) (by repeat' first|exact bo2|refine xqI rfl rfl ?_|refine xqP (by omega) rfl rfl ?_|fail) ⟨⟨by simp,by simp[sgL],_,rfl,bS (aV _ _)⟩,⟨by simp,by simp[sgL],_,rfl,aP (by repeat' first|exact bo2| (with_reducible first|exact bo4|apply bo5)| ((with_reducible apply bo0);exact bpA)|fail)⟩,⟨by simp,by simp[sgL],_,rfl,aP (by repeat' first|exact bo2| (with_reducible first|exact bo4|apply bo5)| ((with_reducible apply bo0);first|exact bo9 rfl|exact bpB (by omega) rfl rfl (by rfl) rfl)|fail)⟩,⟨by simp,by simp[sgL],_,rfl,bP (aG bF _) rfl rfl⟩,trivial⟩ (by simp[sgL]))) ⟨by dsimp only;omega,by dsimp only;omega,by dsimp only;omega,by simp;omega⟩ (by dsimp only;omega)
 ·repeat' first| (first|apply bn1|refine d6 r hl (by omega) (by omega) rfl (fun G I C E _=> ?_)|refine aX hl (by omega) (by omega) (by omega) rfl (fun x m B=> ?_)|refine aV3 (n:=1) (.inr (by omega)) hl (by omega) (by omega) rfl (fun J bqI f g i=> ?_))<;>(simp only[go_sem])|apply bn3 (by omega)|refine bnE (fun h=> ?_) fun h=> ?_| ((refine bnF (fun h=> ?_) (fun h=> ?_))<;>try subst h)|refine⟨by omega,?_⟩|fail
  all_goals first
   | (obtain⟨v,o⟩:=aN1 (L:=[[.v (.int .i64 (-2))],[.v (.int .i64 64)]]) (by simp) m (by simp;omega);simp only[o];simp only[go_sem];repeat' first|apply bn1<;>(simp only[go_sem])|refine⟨by omega,?_⟩|fail)
   |skip
  all_goals first
   |exact aXA c (D:=u.drop 1) rfl rfl rfl (boL (by simp;omega)) (by omega) (by simp;omega) (by omega)
   |exact aXA c (D:=u.set _ _) rfl rfl rfl (boL (by simp;omega)) (by omega) (by simp;omega) (by omega)
   |exact aXA c (D:=u) rfl rfl rfl (boL (by simp;omega)) (by omega) (by omega) (by omega)
   |fail
theorem aW5{i:Nat}{n:Int} (c:0<n∧n<9000) (hl:kZ l) (b:p+200<2^50) (hi:i<nx) (e:H i=some (rdO l p)) (h: ∀(a:Nat) (w:List Int) (u:List Int),p≤a→a≤p+200→(w.length≤65∧u.length≤6)→K (boR [.isl (w.map aJ),.isl (u.map aJ)]) (H.set i (rdO l a)) nx):
 aB Tryz.prog aVK [bkP 2 i,boP n] H nx K:=
 (aW7 l p n c hl b).OU i rfl (gW ⟨DG (by omega) rfl,aE rfl,trivial⟩) hi e (aV l p) fun r o' ⟨a,w,u,f,g,j,k,m⟩=>by subst f;subst k;exact EW (A:=fun d=>K d (H.set i (rdO l a)) nx) rfl (h a w u g j m)
end
theorem aTP {l:List Job} (h: ∀i,i<l.length→key (l.getD i default)∉(l.take i).map key):(l.map key).Nodup:=by refine brY.2 (Z6.2 fun i j hi a b he=> ?_);apply h j a;rw[show l.getD j default=l[j] by simp[List.getD,a],←he];exact brI (bqY.2 ⟨i,by simp;omega,by simp⟩)
theorem aTN {l:List Job} (h:(l.map key).Nodup) {i:Nat} (hi:i<l.length):key (l.getD i default)∉(l.take i).map key:=by
 intro hm;obtain⟨x,b,he⟩:=CF.1 hm;obtain⟨j,c,rfl⟩:=bqY.1 b;have a:j<i:=by simp at c;omega
 have d:=Z6.1 (brY.1 h) j i (by omega) hi a;rw[show l.getD i default=l[i] by simp[List.getD,hi]] at he;simp only[brU] at he;exact d he
section
variable {H : aA} {nx : Nat} {K : D → aA → Nat → Prop}
theorem aMG {c:Cfg} {s:TSt} (G:aQ c) (p:s.asked.length=3) (w:aTF c s.asked) (hl:s.told.length<2^21) (I: ∀j∈s.told,j.rsp.data.length<2^21) (h:K (dB (aRF c s)) H nx):aB Tryz.prog aIX [boR (cU c),boR (eSt s)] H nx K:=by
 refine aB.pure (args0:=[boR (cU c),boR (eSt s)]) (R:=fun J=>J=dB (aRF c s)) ?_ rfl (aI ⟨aE rfl,aE rfl,trivial⟩) (fun r hr=>hr▸h);clear h;refine aK7 rfl fun Q m=> ?_;unfold aJD;obtain⟨d,q⟩:=hC G;repeat' first|apply bn1<;>(simp only[go_sem])|fail
 (refine aM.loop (α:={k:Nat//k≤s.told.length∧(∀i,i<k→InA s.asked (s.told.getD i default)∧as5 c (s.told.getD i default)∧key (s.told.getD i default)∉(s.told.take i).map key)}) (fun u=>en [(5,boP u.1),(3,.one (.c (.fQ (eSt s)))),(2,.one (.c (.fQ (cU c))))]) (fun _=>.nil) _ (fun u=>s.told.length-u.1) ⟨0,by omega,(by intros;first|trivial|omega)⟩ (bU (m5 _) (by repeat' first|exact bo2|refine xqI rfl rfl ?_| (with_reducible apply bo3)| ((with_reducible apply bo1);exact bpH rfl (by simp) rfl rfl rfl)|fail)) ?_);(rintro⟨k,O,hinv⟩ bpQ y);by_cases t:k<s.told.length
 ·obtain⟨j,z⟩: ∃j,j=s.told.getD k default:=⟨_,rfl⟩
  have b:=z.symm;have hm:j∈s.told:=by rw[z];exact cC t
  have L:=I j hm;have f:InA s.asked j→as5 c j→key j∉(s.told.take k).map key→∀i,i<k+1→InA s.asked (s.told.getD i default)∧as5 c (s.told.getD i default)∧key (s.told.getD i default)∉(s.told.take i).map key:=fun o M N=>iS hinv (by rw[b];exact⟨o,M,N⟩);have a: ¬(InA s.asked j∧as5 c j∧key j∉(s.told.take k).map key)→aRF c s=false:=fun h=>aTL fun aIF=>h ⟨aIF.inA j hm,aIF.rsp j hm,by rw[z];exact aTN aIF.once t⟩;by_cases hw:0≤j.who∧j.who≤2
  ·have E:=w j.who.toNat (by omega);have F:=q j.who.toNat;by_cases g:0≤j.n∧j.n≤s.asked.getD j.who.toNat default-1
   ·have A:InA s.asked j:=⟨hw,g.1,by omega⟩
    by_cases hr:pA j.rsp
    ·by_cases e:j.rsp.id=((c.cP.getD j.who.toNat default).getD j.n.toNat default).id
     ·have B:as5 c j:=⟨hr,e⟩
      by_cases v:0≤bK (iM j.who j.n) (s.told.take k)
      ·repeat' first| (first|apply bn1|apply aBC|apply aMP (show j.rsp.data.length<2^40 by omega)| (apply aKK (l:=s.told.take k) (by simp;omega)))<;>(simp only[go_sem,b,eq_true hw,eq_true g,eq_true hr,e.symm,d,p];try simp (disch:=omega) only[Iw])|apply bn2 (by omega)|refine⟨by omega,?_⟩|fail
       all_goals first| (exfalso;omega)|exact aZ m (dB false) rfl rfl (congrArg dB (a fun⟨_,_,h⟩=>h (ZP.1 v))).symm
      ·repeat' first| (first|apply bn1|apply aBC|apply aMP (show j.rsp.data.length<2^40 by omega)| (apply aKK (l:=s.told.take k) (by simp;omega)))<;>(simp only[go_sem,b,eq_true hw,eq_true g,eq_true hr,e.symm,d,p];try simp (disch:=omega) only[Iw])|apply bn2 (by omega)|apply bn3 (by omega)|refine⟨by omega,?_⟩|fail
       all_goals first| (exfalso;omega)| (refine y _ _ _ ⟨k+1,by omega,f A B (fun h=>v (ZP.2 h))⟩ (by omega) (by(try dsimp only);omega) (bU (m5 _) (by repeat' first|exact bo2|refine xqI rfl rfl ?_|fail)))
     ·repeat' first| (first|apply bn1|apply bpJ (by omega)|apply aBC|apply aMP (show j.rsp.data.length<2^40 by omega))<;>(simp only[go_sem,b,eq_true hw,eq_true g,eq_true hr,d,p];try simp (disch:=omega) only[Iw])|apply bn2 (by omega)|refine⟨by omega,?_⟩|fail
      all_goals first| (exfalso;omega)|exact aZ m (dB false) rfl rfl (congrArg dB (a fun⟨_,h,_⟩=>e h.2)).symm
    ·repeat' first| (first|apply bn1|apply aBC|apply aMP (show j.rsp.data.length<2^40 by omega))<;>(simp only[go_sem,b,eq_true hw,eq_true g,eq_false hr,d,p];try simp (disch:=omega) only[Iw])|apply bn2 (by omega)|refine⟨by omega,?_⟩|fail
     all_goals first| (exfalso;omega)|exact aZ m (dB false) rfl rfl (congrArg dB (a fun⟨_,h,_⟩=>hr h.1)).symm
   ·repeat' first| (first|apply bn1|apply aBC)<;>(simp only[go_sem,b,eq_true hw,eq_false g,p];try simp (disch:=omega) only[Iw])|apply bn2 (by omega)|refine⟨by omega,?_⟩|fail
    all_goals first| (exfalso;omega)|exact aZ m (dB false) rfl rfl (congrArg dB (a fun⟨o,_,_⟩=>g ⟨o.2.1,by have:=o.2.2;omega⟩)).symm
  ·repeat' first| (first|apply bn1|apply aBC)<;>(simp only[go_sem,b,eq_false hw])|apply bn2 (by omega)|refine⟨by omega,?_⟩|fail
   all_goals first| (exfalso;omega)|exact aZ m (dB false) rfl rfl (congrArg dB (a fun⟨o,_,_⟩=>hw o.1)).symm
 ·repeat' first|apply bn1<;>(simp only[go_sem])|apply bn3 (by omega)|fail
  have C:k=s.told.length:=by omega
  subst C;exact aZ m (dB true) rfl rfl (congrArg dB (aTM ⟨fun x D=>aKJ (fun i hi=>(hinv i hi).1) x D,aTP fun i hi=>(hinv i hi).2.2,fun x D=>aKJ (P:=as5 c) (fun i hi=>(hinv i hi).2.1) x D⟩).symm)
theorem aMQ {c:Cfg} {s:TSt} (v:jO c) (w:aTQ s) (h:K (dB (tlB c s)) H nx):aB Tryz.prog aI6 [boR (cU c),boR (eSt s)] H nx K:=by
 refine aB.pure (args0:=[boR (cU c),boR (eSt s)]) (R:=fun rr=>rr=dB (tlB c s)) ?_ rfl (aI ⟨aE rfl,aE rfl,trivial⟩) (fun r hr=>hr▸h);clear h;refine aMM rfl fun Q e=> ?_;unfold aJP;have ab:=w.words;have ad:=w.holds;have ae:=w.asked;have O:=w.wait;have S:=w.done;have A:=w.told;have T: ∀j∈s.wait,j.rsp.data.length<2^21:=fun j b=>w.data j (by simp[b]);have U: ∀j∈s.done,j.rsp.data.length<2^21:=fun j b=>w.data j (by simp[b]);have B: ∀j∈s.told,j.rsp.data.length<2^21:=fun j b=>w.data j (by simp[b]);by_cases f:aQ c
 case neg=>
  repeat' first| (first|apply bn1|apply aKG v)<;>(simp only[go_sem,eq_false f])|fail
  all_goals exact aZ e (dB false) rfl rfl (congrArg dB (aOH fun h=>f h.1)).symm
 by_cases g:JS s.words s.holds
 case neg=>
  repeat' first| (first|apply bn1|apply aKG v|apply aKH (show s.words.length<2^40 by omega) (show s.holds.length<2^40 by omega))<;>(simp only[go_sem,eq_true f,eq_false g])|fail
  all_goals exact aZ e (dB false) rfl rfl (congrArg dB (aOH fun h=>g ⟨⟨by rw[h.2.atm.wl];rfl,h.2.atm.wr⟩,by rw[h.2.atm.hl];rfl,h.2.atm.hr⟩)).symm
 by_cases t:s.asked.length=3
 case neg=>
  repeat' first| (first|apply bn1|apply aKG v|apply aKH (show s.words.length<2^40 by omega) (show s.holds.length<2^40 by omega))<;>(simp only[go_sem,eq_true f,eq_true g])|apply bn2 (by omega)|fail
  all_goals first| (exfalso;omega)|exact aZ e (dB false) rfl rfl (congrArg dB (aOH fun h=>t h.2.JI)).symm
 obtain⟨G,z⟩:=hC f;repeat' first| (first|apply bn1|apply aKG v|apply aKH (show s.words.length<2^40 by omega) (show s.holds.length<2^40 by omega))<;>(simp only[go_sem,eq_true f,eq_true g,t])|apply bn3 (by omega)|fail
 have V: ∀k,k≤3→(∀i,i<k→0≤s.asked.getD i default∧s.asked.getD i default≤((c.cP.getD i default).length:Int))→0≤jS (fun j=>s.asked.getD j default) k∧jS (fun j=>s.asked.getD j default) k≤12*k:=fun k L h=>KF (m:=12) (by omega) k fun j b=>by have:=h j b;have:=z j;(try dsimp only);omega
 (refine aM.loop (α:={k:Nat//k≤3∧(∀i,i<k→0≤s.asked.getD i default∧s.asked.getD i default≤((c.cP.getD i default).length:Int))}) (fun u=>en [(6,boP u.1),(5,boP (jS (fun j=>s.asked.getD j default) u.1)),(3,.one (.c (.fQ (eSt s)))),(2,.one (.c (.fQ (cU c))))]) (fun _=>.nil) _ (fun u=>3-u.1) ⟨0,by omega,(by intros;first|trivial|omega)⟩ (bU (m5 _) (by repeat' first|exact bo2|refine xqI rfl rfl ?_| (with_reducible apply bo3)| ((with_reducible apply bo1);exact bpH rfl (by simp) rfl rfl rfl)|fail)) ?_);(rintro⟨k,L,hinv⟩ bpQ C);have hz:=V k L hinv;by_cases l:k<3
 ·have af:=z k;have W:jS (fun j=>s.asked.getD j default) (k+1)=jS (fun j=>s.asked.getD j default) k+s.asked.getD k default:=rfl;by_cases hr:0≤s.asked.getD k default∧s.asked.getD k default≤((c.cP.getD k default).length:Int)
  ·repeat' first| (first|apply bn1|apply aBC)<;>(simp only[go_sem,eq_true hr,G,t];try simp (disch:=omega) only[Iw])|apply bn2 (by omega)|refine⟨by omega,?_⟩|fail
   all_goals (rw[←W];(refine C _ _ _ ⟨k+1,by omega,iS hinv hr⟩ (by omega) (by(try dsimp only);omega) (bU (m5 _) (by repeat' first|exact bo2|refine xqI rfl rfl ?_|fail))))
  ·repeat' first| (first|apply bn1|apply aBC)<;>(simp only[go_sem,eq_false hr,G,t])|apply bn2 (by omega)|refine⟨by omega,?_⟩|fail
   all_goals exact aZ e (dB false) rfl rfl (congrArg dB (aOH fun h=>hr (h.2.DC k l))).symm
 have X:k=3:=by omega
 subst X;have d:aTF c s.asked:=hinv;have Y:jS (fun j=>s.asked.getD j default) 3=s.asked.getD 0 default+s.asked.getD 1 default+s.asked.getD 2 default:=by simp[jS]
 have o: ∀{H:aA} {nx:Nat} {K:D→aA→Nat→Prop},K (dB (aPK c s.asked s.wait false)) H nx→aB Tryz.prog aIQ [boR (cU c),dS (s.asked.map aJ),dS (s.wait.map aS),dB false] H nx K:=fun h=>aMA f t d O T h;have x: ∀{H:aA} {nx:Nat} {K:D→aA→Nat→Prop},K (dB (aPK c s.asked s.done true)) H nx→aB Tryz.prog aIQ [boR (cU c),dS (s.asked.map aJ),dS (s.done.map aS),dB true] H nx K:=fun h=>aMA f t d S U h;by_cases hw:aPN c s.asked s.wait false
 case neg=>
  have E:=aSY hw;repeat' first| (first|apply bn1|apply o)<;>(simp only[go_sem,E])|apply bn3 (by omega)|fail
  all_goals exact aZ e (dB false) rfl rfl (congrArg dB (aOH fun h=>hw h.2.aUL)).symm
 by_cases y:aPN c s.asked s.done true
 case neg=>
  have E:=aQD hw;have I:=aSY y;repeat' first| (first|apply bn1|apply o|apply x)<;>(simp only[go_sem,E,I])|apply bn3 (by omega)|fail
  all_goals exact aZ e (dB false) rfl rfl (congrArg dB (aOH fun h=>y h.2.aUM)).symm
 have E:=aQD hw;have I:=aQD y;by_cases M:aSQ c s
 case neg=>
  have N:=aTL M;repeat' first| (first|apply bn1|apply o|apply x|apply aMG f t d A B)<;>(simp only[go_sem,E,I,N])|apply bn3 (by omega)|fail
  all_goals exact aZ e (dB false) rfl rfl (congrArg dB (aOH fun h=>M h.2.aUN)).symm
 have N:=aTM M;by_cases hc:(s.wait.length:Int)+s.done.length+s.told.length=s.asked.getD 0 default+s.asked.getD 1 default+s.asked.getD 2 default
 case neg=>
  repeat' first| (first|apply bn1|apply o|apply x|apply aMG f t d A B)<;>(simp only[go_sem,E,I,N];try simp (disch:=omega) only[Iw])|apply bn2 (by omega)|apply bn3 (by omega)|fail
  all_goals first| (exfalso;omega)|exact aZ e (dB false) rfl rfl (congrArg dB (aOH fun h=>hc h.2.count)).symm
 repeat' first| (first|apply bn1|apply o|apply x|apply aMG f t d A B)<;>(simp only[go_sem,E,I,N];try simp (disch:=omega) only[Iw])|apply bn3 (by omega)|fail
 refine aM.loop (α:={k:Nat//k≤s.told.length∧ ∀i,i<k→key (s.told.getD i default)∉s.wait.map key∧key (s.told.getD i default)∉s.done.map key}) (fun u=>en [(7,boP u.1),(3,.one (.c (.fQ (eSt s))))]) (fun _=>.nil) _ (fun u=>s.told.length-u.1) ⟨0,by omega,fun i hi=>by omega⟩ (bU (m5 _) (by repeat' first|exact bo2|refine xqI rfl rfl ?_|fail)) ?_;rintro⟨k,L,p⟩ bpQ C;by_cases l:k<s.told.length
 ·obtain⟨j,b⟩: ∃j,j=s.told.getD k default:=⟨_,rfl⟩
  have a:=b.symm;have hm:j∈s.told:=by rw[b];exact cC l
  by_cases J:0≤bK (iM j.who j.n) s.wait
  ·repeat' first| (first|apply bn1|apply bpJ (by omega)|apply aKK (show s.wait.length<2^40 by omega))<;>(simp only[go_sem,a])|apply bn2 (by omega)|refine⟨by omega,?_⟩|fail
   all_goals first| (exfalso;omega)|exact aZ e (dB false) rfl rfl (congrArg dB (aOH fun h=>(h.2.apart.2.1 j hm).1 (ZP.1 J))).symm
  ·by_cases h2:0≤bK (iM j.who j.n) s.done
   ·repeat' first| (first|apply bn1|apply bpK (by omega)|apply aKK (show s.wait.length<2^40 by omega)|apply aKK (show s.done.length<2^40 by omega))<;>(simp only[go_sem,a])|apply bn2 (by omega)|refine⟨by omega,?_⟩|fail
    all_goals first| (exfalso;omega)|exact aZ e (dB false) rfl rfl (congrArg dB (aOH fun h=>(h.2.apart.2.1 j hm).2 (ZP.1 h2))).symm
   ·repeat' first| (first|apply bn1|apply bpK (by omega)|apply aKK (show s.wait.length<2^40 by omega)|apply aKK (show s.done.length<2^40 by omega))<;>(simp only[go_sem,a];try simp (disch:=omega) only[Iw])|apply bn2 (by omega)|apply bn3 (by omega)|refine⟨by omega,?_⟩|fail
    all_goals first| (exfalso;omega)|exact C _ _ _ ⟨k+1,by omega,iS p (by rw[a];exact⟨fun h=>J (ZP.2 h),fun h=>h2 (ZP.2 h)⟩)⟩ (by omega) (by(try dsimp only);omega) (bU (m5 _) (by repeat' first|exact bo2|refine xqI rfl rfl ?_|fail))
 ·have F:k=s.told.length:=by omega
  subst F;repeat' first|apply bn1<;>(simp only[go_sem])|apply bn3 (by omega)|fail
  refine aM.loop (α:={k:Nat//k≤s.done.length∧ ∀i,i<k→key (s.done.getD i default)∉s.wait.map key}) (fun u=>en [(8,boP u.1),(3,.one (.c (.fQ (eSt s))))]) (fun _=>.nil) _ (fun u=>s.done.length-u.1) ⟨0,by omega,fun i hi=>by omega⟩ (bU (m5 _) (by repeat' first|exact bo2|refine xqI rfl rfl ?_|fail)) ?_;rintro⟨k,L,q⟩ bqG Z;by_cases l:k<s.done.length
  ·obtain⟨j,b⟩: ∃j,j=s.done.getD k default:=⟨_,rfl⟩
   have a:=b.symm;have hm:j∈s.done:=(by rw[b];exact cC l);by_cases J:0≤bK (iM j.who j.n) s.wait
   ·repeat' first| (first|apply bn1|apply aKK (show s.wait.length<2^40 by omega))<;>(simp only[go_sem,a])|apply bn2 (by omega)|refine⟨by omega,?_⟩|fail
    all_goals first| (exfalso;omega)|exact aZ e (dB false) rfl rfl (congrArg dB (aOH fun h=>(h.2.apart.2.2 j hm) (ZP.1 J))).symm
   ·repeat' first| (first|apply bn1|apply aKK (show s.wait.length<2^40 by omega))<;>(simp only[go_sem,a];try simp (disch:=omega) only[Iw])|apply bn2 (by omega)|apply bn3 (by omega)|refine⟨by omega,?_⟩|fail
    all_goals first| (exfalso;omega)|exact Z _ _ _ ⟨k+1,by omega,iS q (by rw[a];exact fun h=>J (ZP.2 h))⟩ (by omega) (by(try dsimp only);omega) (bU (m5 _) (by repeat' first|exact bo2|refine xqI rfl rfl ?_|fail))
  ·have F:k=s.done.length:=(by omega);subst F;have aa:BA c s:=aTG g t d hw y M hc (aKJ (P:=fun j=>key j∉s.wait.map key∧key j∉s.done.map key) p) (aKJ (P:=fun j=>key j∉s.wait.map key) q);repeat' first|apply bn1<;>(simp only[go_sem])|apply bn3 (by omega)|fail
   exact aZ e (dB true) rfl rfl (congrArg dB (aTX f aa)).symm
end
end Go.Proofs.YtdkfhdmagdaceaaGreat
namespace Go.AM
theorem a7H {l:List Job} {x:Job}:jX (l++[x])=BM (jX l) x:=by unfold jX;rw[btR];rfl
theorem bbP {l:List Job}:(jX l).length=l.length:=(fH l).length_eq
end Go.AM
namespace Go.Proofs.YtdkfhdmagdaceaaGreat
open Go Go.AM
attribute [local irreducible] aM wv aB vd wvH
section
variable {H : aA} {nx : Nat} {K : D → aA → Nat → Prop}
theorem bdR {s:CSt} (hf:bdV s) (h:K (boR (eSt (cX s))) H nx):aB Tryz.prog aIZ [boR (eI s)] H nx K:=by
 refine aB.fresh (R:=fun rr=>rr=boR (eSt (cX s))) ?_ rfl (fun r hr=>hr▸h);clear h;refine aLK rfl fun Q hQ=> ?_;unfold aJA;have M:=hf.pl;have bg:=hf.sl;obtain⟨N,hN⟩: ∃N,N=s.dD.length:=⟨_,rfl⟩
 rw[←hN] at bg;have z:=hN.symm;have D:=hf.st;have cg:s.words.length<2^21:=D.words;have ch:s.holds.length<2^21:=D.holds;have cj:s.told.length<2^21:=D.told;have bh: ∀j∈s.told,j.rsp.data.length<2^21:=fun j Z=>D.data j (brH _ Z);repeat' first| (first|apply bn1|apply aKA (w:=s.words) (u:=s.holds) (by omega) (by omega)|apply aI1 (l:=s.told) (by omega) bh)<;>(simp only[go_sem,umB,umS,umM,muM])|fail
 apply aM.EJ 1;refine aM.tW _ _ noF (fun t=>.inl rfl) (KO (i:=9) (o':=⟨6,1,[[.isl (s.words.map aJ),.isl (s.holds.map aJ),.osl 1 12 0 0 0,.isl ((jX []).map aS),.isl ((jX []).map aS),.isl (s.told.map aS)]]⟩) (by rw[aA.aC (by omega)];exact aA.bH) (aP (aH (bB rfl) (aH (bB rfl) (aH (.VS ..) (aH xG (aH xG (aH (bB rfl) eP)))))))) ?_;refine aM.TF fun bqO E=> ?_;have c0:bqO 0=some ⟨5,1,[eI s]⟩:=by rw[E];rfl
 have c1:bqO 1=some ⟨6,1,[[.osl 0 0 0 0 0,.osl 0 0 0 0 0,.osl 0 0 0 0 0,.osl 0 0 0 0 0,.osl 0 0 0 0 0,.osl 0 0 0 0 0]]⟩:=by rw[E];rfl
 have bf1:bqO 9=some ⟨6,1,[[.isl (s.words.map aJ),.isl (s.holds.map aJ),.osl 1 12 0 0 0,.isl ((jX []).map aS),.isl ((jX []).map aS),.isl (s.told.map aS)]]⟩:=by rw[E];exact aA.bH
 have ba:bqO 12=some ⟨1,0,[]⟩:=by rw[E];rfl
 clear E;obtain⟨A,O⟩: ∃A:Nat→List Int,A=fun k=>(s.bM.take k).map (·.next):=⟨_,rfl⟩
 have ab: ∀k,k≤3→(A k).length=k:=fun k I=>by rw[O];simp;omega
 have bj: ∀k,k<3→A (k+1)=A k++[(s.bM.getD k default).next]:=fun k I=>by rw[O];dsimp only;rw[brQ (by omega),bqX];simp[List.getD,show k<s.bM.length by omega]
 have o:A 3=(cX s).asked:=by rw[O];dsimp only;rw[boL (by omega)];rfl
 have bb: ∀k,k<3→(jJ s k).length≤3:=fun k I=>by have:=hf.q k I;simpa [jJ] using this
 have ad: ∀k,k<N→(hJ s k).length≤3∧(aL s k).done.length≤3:=fun k I=>⟨by have:=(hf.v k (by omega)).1;simpa [hJ] using this,(hf.v k (by omega)).2⟩
 obtain⟨bf5,S⟩: ∃bf5:Nat→List Job,bf5=fun k=>(List.range k).flatMap (jJ s):=⟨_,rfl⟩
 have ae: ∀k,bf5 (k+1)=bf5 k++jJ s k:=fun k=>by rw[S];exact CL
 have aa: ∀k,k≤3→(bf5 k).length≤3*k:=fun k I=>by rw[S];exact QU k fun j Z=>bb j (by omega)
 have af:bf5 0=[]:=by rw[S];rfl
 refine aM.gP (β:=Nat×Nat×Nat) (fun u=>en [(4,boP u.1),(3,.one (.c (.ptr 6 9 0 0))),(2,.one (.c (.ptr 6 1 0 0))),(1,.one (.c (.ptr 5 0 0 0)))])
  (fun u H1 bp0=>u.1≤3∧H1 0=some ⟨5,1,[eI s]⟩∧H1 1=some ⟨6,1,[[.osl 0 0 0 0 0,.osl 0 0 0 0 0,.osl 0 0 0 0 0,.osl 0 0 0 0 0,.osl 0 0 0 0 0,.osl 0 0 0 0 0]]⟩∧H1 9=some ⟨6,1,[[.isl (s.words.map aJ),.isl (s.holds.map aJ),.osl 1 u.2.1 0 u.1 u.2.2,.isl ((jX (bf5 u.1)).map aS),.isl ((jX []).map aS),.isl (s.told.map aS)]]⟩∧(∃m,H1 u.2.1=some ⟨1,m,(A u.1).map aJ⟩∧u.1≤u.2.2∧u.2.2≤m)∧12≤u.2.1∧u.2.1<bp0) (fun u=>3-u.1) (0,12,0)
  ⟨noF,_,by repeat' first|exact bo2|refine xqI rfl rfl ?_|refine xqP (by omega) rfl rfl ?_|fail,aK,by dsimp only;omega,c0,c1,by dsimp only;rw[af];exact bf1,⟨0,by rw[ba,O];rfl,m5 _,m5 _⟩,by dsimp only;omega,by dsimp only;omega⟩ ?_
 clear c0 c1 bf1 ba;rintro⟨k,y,ca⟩ H1 p bk ⟨I,bqC,b,bp5,⟨m,g,ag,bm⟩,ah,ai⟩ bpQ bn;dsimp only at I bp5 g ag bm ah ai;have C:bQ p [0,1,9,y]:=AM.apart (by simp;omega) (by simp;omega);simp only[bQ,eZ] at C;have bc:=ab k I;by_cases aj:k<3
 ·obtain⟨P,boS⟩: ∃P,P=aF s k:=⟨_,rfl⟩
  have T:s.bM.getD k default=P:=boS.symm;have bo:=hf.q k aj;rw[←boS] at bo;have a6: ∀G:aA,msk (p+5) [8] G 9=G 9:=fun G=>by unfold msk;rw[if_neg (by simp)]
  rw[←bc] at bp5 ag;repeat' first|apply bn1<;>(simp only[go_sem,boC,bqC,b,bp5,a6,g,M,T,C])|apply bn2 (by omega)| (with_reducible first|refine fun(cap:Nat) (bp:_≤cap)=> ?_|refine fun(ck:_≤cap)=> ?_)|refine⟨by omega,?_⟩|fail
  refine aM.TF fun aHF J=> ?_;have hc:A k++[P.next]=A (k+1):=by rw[bj k aj,T]
  have d0:aHF 0=some ⟨5,1,[eI s]⟩:=by rw[J];simp[aA.set,aA.del,C,bqC]
  have d1:aHF 1=some ⟨6,1,[[.osl 0 0 0 0 0,.osl 0 0 0 0 0,.osl 0 0 0 0 0,.osl 0 0 0 0 0,.osl 0 0 0 0 0,.osl 0 0 0 0 0]]⟩:=by rw[J];simp[aA.set,aA.del,C,b]
  have aHG:aHF 9=some ⟨6,1,[[.isl (s.words.map aJ),.isl (s.holds.map aJ),.osl 1 (p+14) 0 (k+1) cap,.isl ((jX (bf5 k)).map aS),.isl ((jX []).map aS),.isl (s.told.map aS)]]⟩:=by rw[J,bc];exact aA.bH
  have boR:aHF (p+14)=some ⟨1,cap,(A (k+1)).map aJ⟩:=by rw[J,aA.aC (by omega),←hc];exact aA.bH
  clear J bqC b bp5 g C
  refine aM.gP (β:=Nat) (fun j=>en [(5,boP j),(4,boP k),(3,.one (.c (.ptr 6 9 0 0))),(2,.one (.c (.ptr 6 1 0 0))),(1,.one (.c (.ptr 5 0 0 0)))])
   (fun j H2 _=>j≤P.queue.length∧H2 0=some ⟨5,1,[eI s]⟩∧H2 1=some ⟨6,1,[[.osl 0 0 0 0 0,.osl 0 0 0 0 0,.osl 0 0 0 0 0,.osl 0 0 0 0 0,.osl 0 0 0 0 0,.osl 0 0 0 0 0]]⟩∧H2 9=some ⟨6,1,[[.isl (s.words.map aJ),.isl (s.holds.map aJ),.osl 1 (p+14) 0 (k+1) cap,.isl ((jX (bf5 k++(jJ s k).take j)).map aS),.isl ((jX []).map aS),.isl (s.told.map aS)]]⟩∧H2 (p+14)=some ⟨1,cap,(A (k+1)).map aJ⟩) (fun j=>P.queue.length-j) 0
   ⟨noF,_,by repeat' first|exact bo2|refine xqI rfl rfl ?_|refine xqP (by omega) rfl rfl ?_|fail,aK,by omega,d0,d1,by rw[List.take_zero,bq6];exact aHG,boR⟩ ?_
  clear d0 d1 aHG boR;rintro j H2 ak al ⟨Z,bqC,b,bp5,g⟩ bqG an;obtain⟨W,aYL⟩: ∃W,W=bf5 k++(jJ s k).take j:=⟨_,rfl⟩
  rw[←aYL] at bp5;have B:(jX W).length<2^21:=by have h1:=aa k I;have h2:=bb k aj;rw[bbP,aYL,t2,CG];omega
  have C:bQ ak [0,1,9,p+14]:=AM.apart (by simp) (by simp;omega);simp only[bQ,eZ] at C;by_cases a:j<P.queue.length
  ·obtain⟨n,hn⟩: ∃n,P.queue.getD j default=n:=⟨_,rfl⟩
   repeat' first| (first|apply bn1|apply aR1 B)<;>(simp only[go_sem,boC,bqC,b,bp5,M,T,hn,C];try simp (disch:=omega) only[Iw])|apply bn2 (by omega)|refine⟨by omega,?_⟩|fail
   have e:bf5 k++(jJ s k).take (j+1)=W++[(⟨k,n,oW⟩:Job)]:=(by rw[nK (by simpa [jJ,←boS] using a),←C0,←aYL];congr 2;rw[←hn];simp[jJ,←boS,List.getD,a]);exact an _ _ _ (j+1) noF _ (by omega) (by omega) (by repeat' first|exact bo2|refine xqI rfl rfl ?_|refine xqP (by omega) rfl rfl ?_|fail) aK ⟨by omega,by rw[aA.aC (by omega)];exact bqC,by rw[aA.aC (by omega)];exact b,by rw[e,a7H];exact aA.bH,by rw[aA.aC (by omega)];exact g⟩
  ·have ao:j=P.queue.length:=(by omega);have e:W=bf5 (k+1):=(by rw[aYL,ae,boL (by simp[jJ,←boS];omega)]);repeat' first|apply bn1<;>(simp only[go_sem,bqC,M,T];try simp (disch:=omega) only[Iw])|apply bn3 (by omega)|refine⟨by omega,?_⟩|fail
   exact bn _ _ _ (k+1,p+14,cap) noF _ (by omega) (by dsimp only;omega) (by repeat' first|exact bo2|refine xqI rfl rfl ?_|refine xqP (by omega) rfl rfl ?_|fail) aK ⟨by dsimp only;omega,bqC,b,by dsimp only;rw[←e];exact bp5,⟨cap,g,by dsimp only;omega,m5 _⟩,by dsimp only;omega,by dsimp only;omega⟩
 ·have bq:k=3:=by omega
  subst bq;repeat' first|apply bn1<;>(simp only[go_sem,bqC,b,bp5])|apply bn3 (by omega)|fail
  obtain⟨bf6,U⟩: ∃bf6:Nat→List Job,bf6=fun k=>bf5 3++(List.range k).flatMap (hJ s):=⟨_,rfl⟩
  have aq: ∀k,bf6 (k+1)=bf6 k++hJ s k:=fun k=>by rw[U];dsimp only;rw[CL,C0]
  have ar: ∀k,k≤N→(bf6 k).length≤9+3*k:=fun k I=>by have h1:=aa 3 (by omega);have h2:=QU (f:=hJ s) (m:=3) k fun j Z=>(ad j (by omega)).1;rw[U];dsimp only;rw[t2];omega
  have au:bf6 0=bf5 3:=by rw[U];simp
  obtain⟨bf7,X⟩: ∃bf7:Nat→List Job,bf7=fun k=>(List.range k).flatMap fun k=>(aL s k).done:=⟨_,rfl⟩
  have aw: ∀k,bf7 (k+1)=bf7 k++(aL s k).done:=fun k=>by rw[X];exact CL
  have ax: ∀k,k≤N→(bf7 k).length≤3*k:=fun k I=>by rw[X];exact QU k fun j Z=>(ad j (by omega)).2
  have ay:bf7 0=[]:=by rw[X];rfl
  refine aM.gP (β:=Nat) (fun k=>en [(6,boP k),(3,.one (.c (.ptr 6 9 0 0))),(2,.one (.c (.ptr 6 1 0 0))),(1,.one (.c (.ptr 5 0 0 0)))])
   (fun k H2 _=>k≤N∧H2 0=some ⟨5,1,[eI s]⟩∧H2 1=some ⟨6,1,[[.osl 0 0 0 0 0,.osl 0 0 0 0 0,.osl 0 0 0 0 0,.osl 0 0 0 0 0,.osl 0 0 0 0 0,.osl 0 0 0 0 0]]⟩∧H2 9=some ⟨6,1,[[.isl (s.words.map aJ),.isl (s.holds.map aJ),.osl 1 y 0 3 ca,.isl ((jX (bf6 k)).map aS),.isl ((jX (bf7 k)).map aS),.isl (s.told.map aS)]]⟩∧H2 y=some ⟨1,m,(A 3).map aJ⟩) (fun k=>N-k) 0
   ⟨noF,_,by repeat' first|exact bo2|refine xqI rfl rfl ?_|refine xqP (by omega) rfl rfl ?_|fail,aK,by omega,bqC,b,by rw[au,ay];exact bp5,g⟩ ?_
  clear bqC b bp5 g C;rintro k H2 ak al ⟨bd,bqC,b,bp5,g⟩ bqG an;have C:bQ ak [0,1,9,y]:=AM.apart (by simp;omega) (by simp;omega);simp only[bQ,eZ] at C;by_cases az:k<N
  ·obtain⟨V,hV⟩: ∃V,V=aL s k:=⟨_,rfl⟩
   have Y:s.dD.getD k default=V:=hV.symm;obtain⟨br,bs⟩:=ad k az;have bt:V.pipe.length≤3:=(by simpa [hJ,←hV] using br);rw[←hV] at bs;repeat' first|apply bn1<;>(simp only[go_sem,bqC,b,bp5,z])|apply bn2 (by omega)|fail
   refine aM.gP (β:=Nat) (fun j=>en [(7,boP j),(6,boP k),(3,.one (.c (.ptr 6 9 0 0))),(2,.one (.c (.ptr 6 1 0 0))),(1,.one (.c (.ptr 5 0 0 0)))])
    (fun j L _=>j≤V.pipe.length∧L 0=some ⟨5,1,[eI s]⟩∧L 1=some ⟨6,1,[[.osl 0 0 0 0 0,.osl 0 0 0 0 0,.osl 0 0 0 0 0,.osl 0 0 0 0 0,.osl 0 0 0 0 0,.osl 0 0 0 0 0]]⟩∧L 9=some ⟨6,1,[[.isl (s.words.map aJ),.isl (s.holds.map aJ),.osl 1 y 0 3 ca,.isl ((jX (bf6 k++(hJ s k).take j)).map aS),.isl ((jX (bf7 k)).map aS),.isl (s.told.map aS)]]⟩∧L y=some ⟨1,m,(A 3).map aJ⟩) (fun j=>V.pipe.length-j) 0
    ⟨noF,_,by repeat' first|exact bo2|refine xqI rfl rfl ?_|refine xqP (by omega) rfl rfl ?_|fail,aK,by omega,bqC,b,by rw[List.take_zero,bq6];exact bp5,g⟩ ?_
   clear bqC b bp5 g;rintro j L bu bw ⟨Z,bqC,b,bp5,g⟩ bqR bx;obtain⟨W,aYL⟩: ∃W,W=bf6 k++(hJ s k).take j:=⟨_,rfl⟩
   rw[←aYL] at bp5;have B:(jX W).length<2^21:=(by have h1:=ar k bd;rw[bbP,aYL,t2,CG];omega);have o:bQ bu [0,1,9,y]:=AM.apart (by simp;omega) (by simp;omega);simp only[bQ,eZ] at o;by_cases a:j<V.pipe.length
   ·obtain⟨x,hx⟩: ∃x,V.pipe.getD j default=x:=⟨_,rfl⟩
    repeat' first| (first|apply bn1|apply aR1 B)<;>(simp only[go_sem,boC,bqC,b,bp5,z,Y,hx,o];try simp (disch:=omega) only[Iw])|apply bn2 (by omega)|refine⟨by omega,?_⟩|fail
    have e:bf6 k++(hJ s k).take (j+1)=W++[(⟨x.who,x.n,oW⟩:Job)]:=(by rw[nK (by simpa [hJ,←hV] using a),←C0,←aYL];congr 2;rw[←hx];simp[hJ,←hV,List.getD,a]);exact bx _ _ _ (j+1) noF _ (by omega) (by omega) (by repeat' first|exact bo2|refine xqI rfl rfl ?_|refine xqP (by omega) rfl rfl ?_|fail) aK ⟨by omega,by rw[aA.aC (by omega)];exact bqC,by rw[aA.aC (by omega)];exact b,by rw[e,a7H];exact aA.bH,by rw[aA.aC (by omega)];exact g⟩
   ·have ao:j=V.pipe.length:=(by omega);have e:W=bf6 (k+1):=(by rw[aYL,aq,boL (by simp[hJ,←hV];omega)]);rw[e] at bp5;repeat' first|apply bn1<;>(simp only[go_sem,bqC,z,Y])|apply bn3 (by omega)|refine⟨by omega,?_⟩|fail
    refine aM.gP (β:=Nat) (fun j=>en [(8,boP j),(6,boP k),(3,.one (.c (.ptr 6 9 0 0))),(2,.one (.c (.ptr 6 1 0 0))),(1,.one (.c (.ptr 5 0 0 0)))])
     (fun j L _=>j≤V.done.length∧L 0=some ⟨5,1,[eI s]⟩∧L 1=some ⟨6,1,[[.osl 0 0 0 0 0,.osl 0 0 0 0 0,.osl 0 0 0 0 0,.osl 0 0 0 0 0,.osl 0 0 0 0 0,.osl 0 0 0 0 0]]⟩∧L 9=some ⟨6,1,[[.isl (s.words.map aJ),.isl (s.holds.map aJ),.osl 1 y 0 3 ca,.isl ((jX (bf6 (k+1))).map aS),.isl ((jX (bf7 k++V.done.take j)).map aS),.isl (s.told.map aS)]]⟩∧L y=some ⟨1,m,(A 3).map aJ⟩) (fun j=>V.done.length-j) 0
     ⟨noF,_,by repeat' first|exact bo2|refine xqI rfl rfl ?_|refine xqP (by omega) rfl rfl ?_|fail,aK,by omega,bqC,b,by rw[List.take_zero,bq6];exact bp5,g⟩ ?_
    clear bqC b bp5 g o B aYL e W Z ao a;rintro j bqL bz cb ⟨Z,bqC,b,bp5,g⟩ aNB cc;obtain⟨W,aYL⟩: ∃W,W=bf7 k++V.done.take j:=⟨_,rfl⟩
    rw[←aYL] at bp5;have B:(jX W).length<2^21:=(by have h1:=ax k bd;rw[bbP,aYL,t2,CG];omega);have o:bQ bz [0,1,9,y]:=AM.apart (by simp;omega) (by simp;omega);simp only[bQ,eZ] at o;by_cases a:j<V.done.length
    ·obtain⟨x,hx⟩: ∃x,V.done.getD j default=x:=⟨_,rfl⟩
     repeat' first| (first|apply bn1|apply aS4 (l:=jX W) (j:=x) B)<;>(simp only[go_sem,boC,bqC,b,bp5,z,Y,hx,o];try simp (disch:=omega) only[Iw])|apply bn2 (by omega)|refine⟨by omega,?_⟩|fail
     have e:bf7 k++V.done.take (j+1)=W++[x]:=(by rw[nK a,←C0,←aYL,hx]);exact cc _ _ _ (j+1) noF _ (by omega) (by omega) (by repeat' first|exact bo2|refine xqI rfl rfl ?_|refine xqP (by omega) rfl rfl ?_|fail) aK ⟨by omega,by rw[aA.aC (by omega)];exact bqC,by rw[aA.aC (by omega)];exact b,by rw[e,a7H];exact aA.bH,by rw[aA.aC (by omega)];exact g⟩
    ·have ao:j=V.done.length:=(by omega);have e:W=bf7 (k+1):=(by rw[aYL,aw,boL (by omega),hV]);rw[e] at bp5;repeat' first|apply bn1<;>(simp only[go_sem,bqC,z,Y];try simp (disch:=omega) only[Iw])|apply bn3 (by omega)|refine⟨by omega,?_⟩|fail
     exact an _ _ _ (k+1) noF _ (by omega) (by omega) (by repeat' first|exact bo2|refine xqI rfl rfl ?_|refine xqP (by omega) rfl rfl ?_|fail) aK ⟨by omega,bqC,b,bp5,g⟩
  ·have bf:k=N:=(by omega);have cd:jX (bf6 k)=(cX s).wait:=(by rw[U,S,bf];show _=jX (qU s);unfold qU;rw[M,hN]);have cf:jX (bf7 k)=(cX s).done:=(by rw[X,bf];show _=jX (uQ s);unfold uQ;rw[hN]);rw[cd,cf] at bp5;repeat' first|apply bn1<;>(simp only[go_sem,bqC,b,bp5,z,C])|apply bn3 (by omega)|fail
   refine aB.ao4 (args':=[boR (eSt (cX s))]) (without (fun j=>j=y) H2) (fun j=>j=y) rfl (fun i d0 d h1 h2=> ?_) kS ?_
   ·cases i with
    |succ i=>simp at h1
    |zero=>simp only[List.getElem?_cons_zero,Option.some.injEq] at h1 h2;subst h1;subst h2;apply lY;show CvL _ _ _ _ [.isl (s.words.map aJ),.isl (s.holds.map aJ),.isl ((cX s).asked.map aJ),.isl ((cX s).wait.map aS),.isl ((cX s).done.map aS),.isl (s.told.map aS)] _;rw[←o];exact aH (bB rfl) (aH (bB rfl) (aH (bW bF g (by rw[ab 3 (by omega)]) (by rw[ab 3 (by omega)];exact ag) rfl) (aH (bB rfl) (aH (bB rfl) (aH (bB rfl) eP)))))
   have bqH:(without (fun j=>j=y) H2) 1=some ⟨6,1,[[.osl 0 0 0 0 0,.osl 0 0 0 0 0,.osl 0 0 0 0 0,.osl 0 0 0 0 0,.osl 0 0 0 0 0,.osl 0 0 0 0 0]]⟩:=(by rw[iI (F:=fun j=>j=y) (by omega)];exact b);refine aQR D fun aZJ cl boW b1 b2 boX boY boZ k0 k1 k2 k3 k4 k5 aUV aUW aIG aII aUX aIH aUY o0 o1 o2 bqD bqE bqF fr=> ?_;have bqI:=(fr 1 (by omega)).trans bqH;simp only[go_sem,bqI];try apply bn0
   repeat' first|apply bn1<;>(simp only[go_sem])|fail
   refine V4 hQ (boR (eSt (cX s))) _ (fZ (m:=1) rfl aA.bH rfl) (lY (aH ((o0.of (aA.aC (by omega))).frz bF (by simp)) (aH ((o1.of (aA.aC (by omega))).frz bF (by simp)) (aH ((o2.of (aA.aC (by omega))).frz bF (by simp)) (aH ((bqD.of (aA.aC (by omega))).frz dZ (by simp)) (aH ((bqE.of (aA.aC (by omega))).frz dZ (by simp)) (aH ((bqF.of (aA.aC (by omega))).frz dZ (by simp)) eP))))))) rfl rfl
theorem bd7 {c:Cfg} {s:CSt} (o:jO c) (D:beL s) (h:K (dB (cyB c s)) H nx):aB Tryz.prog aI5 [boR (cU c),boR (eI s)] H nx K:=by
 refine aB.pure (args0:=[boR (cU c),boR (eI s)]) (R:=fun rr=>rr=dB (cyB c s)) ?_ rfl (aI ⟨aE rfl,aE rfl,trivial⟩) (fun r hr=>hr▸h);clear h;refine aLQ rfl fun Q E=> ?_;unfold aJO;have af:=D.w;have ag:=D.h;have ah:=D.pl;have ai:=D.sl;have a: ¬(aQ c∧COk c s)→dB false=dB (cyB c s):=fun h=>congrArg dB (beP h).symm;by_cases z:aQ c
 case neg=>
  repeat' first| (first|apply bn1|apply aKG o)<;>(simp only[go_sem,eq_false z])|fail
  all_goals exact aZ E _ rfl rfl (a fun h=>z h.1)
 have U:=eq_true z;by_cases F:JS s.words s.holds
 case neg=>
  repeat' first| (first|apply bn1|apply aKG o|apply aKH (show s.words.length<2^40 by omega) (show s.holds.length<2^40 by omega))<;>(simp only[go_sem,U,eq_false F])|fail
  all_goals exact aZ E _ rfl rfl (a fun h=>F (ZS h.2.atm))
 have e2:=eq_true F;by_cases d:(s.bM.length:Int)=3∧(s.dD.length:Int)=4
 case neg=>
  have G: ¬(aQ c∧COk c s):=fun⟨_,h⟩=>d ⟨by rw[h.pl];rfl,by rw[h.sl];rfl⟩;repeat' first| (first|apply bn1|refine bpL (fun h=> ?_) fun h=> ?_|apply aKG o|apply aKH (show s.words.length<2^40 by omega) (show s.holds.length<2^40 by omega))<;>(simp only[go_sem,U,e2])|apply bn2 (by omega)|fail
  all_goals first|exact aZ E _ rfl rfl (a G)| (exfalso;omega)
 have e:s.dD.length=4:=by omega
 have d:s.bM.length=3:=by omega
 repeat' first| (first|apply bn1|apply bpK (by omega)|apply aKG o|apply aKH (show s.words.length<2^40 by omega) (show s.holds.length<2^40 by omega))<;>(simp only[go_sem,U,e2,d,e])|apply bn3 (by omega)|fail
 obtain⟨n,A⟩: ∃n:Nat→Int,n=fun k=>((aF s k).out.length:Int):=⟨_,rfl⟩
 obtain⟨l,B⟩: ∃l:Nat→Int,l=fun k=>(((aL s k).pipe.length:Int)+(aL s k).done.length):=⟨_,rfl⟩
 (refine aM.loop (α:={k:Nat//k≤3∧(∀i,i<k→mD c i (aF s i))}) (fun u=>en [(6,boP u.1),(5,boP (jS n u.1)),(3,.one (.c (.fQ (eI s)))),(2,.one (.c (.fQ (cU c))))]) (fun _=>.nil) _ (fun u=>3-u.1) ⟨0,by omega,(by intros;first|trivial|omega)⟩ (bU (m5 _) (by repeat' first|exact bo2|refine xqI rfl rfl ?_| (with_reducible apply bo3)| ((with_reducible apply bo1);exact bpH rfl (by simp) rfl rfl rfl)|fail)) ?_);(rintro⟨k,hk,hinv⟩ bpQ W);have aj:=KF (f:=n) (m:=4) (by omega) k fun j hj=>by have:=(hinv j (by omega)).ol;rw[A];dsimp only;omega
 by_cases I:k<3
 ·obtain⟨P,boS⟩: ∃P,P=aF s k:=⟨_,rfl⟩
  have N:s.bM.getD k default=P:=boS.symm;obtain⟨p,q⟩:=D.port k;by_cases b:mD c k (aF s k)
  ·have g:=beT b;have X:=b.ol;rw[←boS] at X;have t:jS n (k+1)=jS n k+P.out.length:=(by rw[jS,A,boS]);have J:=iS hinv b;repeat' first| (first|apply bn1|apply a5O z d I p q)<;>(simp only[go_sem,N,d,g];try simp (disch:=omega) only[Iw])|apply bn2 (by omega)|refine⟨by omega,?_⟩|fail
   all_goals (rw[←t];(refine W _ _ _ ⟨k+1,by omega,J⟩ (by omega) (by(try dsimp only);omega) (bU (m5 _) (by repeat' first|exact bo2|refine xqI rfl rfl ?_|fail))))
  ·have g:=a8A b;repeat' first| (first|apply bn1|apply a5O z d I p q)<;>(simp only[go_sem,N,d,g])|apply bn2 (by omega)|fail
   all_goals exact aZ E _ rfl rfl (a fun h=>b (h.2.port k I))
 ·have Y:k=3:=by omega
  subst Y;have L:a19 c s:=⟨d,hinv⟩
  have ak:jS l 0=0:=rfl;repeat' first|apply bn1<;>(simp only[go_sem])|apply bn3 (by omega)|fail
  refine aM.loop (α:={k:Nat//k≤4∧ ∀i,i<k→Z0 c s i}) (fun u=>en [(7,boP u.1),(5,boP (jS n 3-jS l u.1)),(3,.one (.c (.fQ (eI s)))),(2,.one (.c (.fQ (cU c))))]) (fun _=>.nil) _ (fun u=>4-u.1) ⟨0,by omega,fun i hi=>by omega⟩ (bU (m5 _) (by repeat' first|exact bo2|refine xqI rfl rfl ?_| (with_reducible apply bo3)| ((with_reducible apply bo0);(exact bpF (by((try dsimp only);exact diE (by omega))) rfl))| ((with_reducible apply bo1);apply bo7)|fail)) ?_;rintro⟨k,hk,v⟩ bqG Z;have al:=KF (f:=l) (m:=4) (by omega) k fun j hj=>by have h1:=(v j (by omega)).pl;have h2:=(v j (by omega)).dl;rw[B];dsimp only;omega
  by_cases x:k<4
  ·obtain⟨V,hV⟩: ∃V,V=aL s k:=⟨_,rfl⟩
   have O:s.dD.getD k default=V:=hV.symm;obtain⟨p,q,S⟩:=D.slv k;by_cases b:Z0 c s k
   ·have aa:=b.pl;have ab:=b.dl;rw[←hV] at aa ab;have g:=beR b;have t:jS n 3-jS l (k+1)=jS n 3-jS l k-V.pipe.length-V.done.length:=by have h1:l k=V.pipe.length+V.done.length:=(by rw[B,hV]);have h2:jS l (k+1)=jS l k+l k:=rfl;omega
    have J:=iS v b;repeat' first| (first|apply bn1|apply a5I z L e x p q S)<;>(simp only[go_sem,O,e,g];try simp (disch:=omega) only[Iw])|apply bn2 (by omega)|refine⟨by omega,?_⟩|fail
    all_goals (rw[←t];exact Z _ _ _ ⟨k+1,by omega,J⟩ (by omega) (by(try dsimp only);omega) (bU (m5 _) (by repeat' first|exact bo2|refine xqI rfl rfl ?_|fail)))
   ·have g:=a6D b;repeat' first| (first|apply bn1|apply a5I z L e x p q S)<;>(simp only[go_sem,O,e,g])|apply bn2 (by omega)|fail
    all_goals exact aZ E _ rfl rfl (a fun h=>b (h.2.slv k x))
  ·have ad:k=4:=(by omega);subst ad;have T:=bd9 D L e v;by_cases M:jS n 3=jS l 4
   case neg=>
    have G: ¬(aQ c∧COk c s):=fun⟨_,h⟩=>M (by
     have:=h.count
     unfold hU at this
     rw[A,B]
     simp only[jS]
     omega)
    have y:(jS n 3-jS l 4=0)=False:=eq_false (by omega);repeat' first|apply bn1<;>(simp only[go_sem,y])|apply bn3 (by omega)|fail
    all_goals exact aZ E _ rfl rfl (a G)
   have y:(jS n 3-jS l 4=0)=True:=eq_true (by omega);have ae:=aXH (s:=cX s) z;repeat' first| (first|apply bn1|apply bdR T|apply aMQ o T.st)<;>(simp only[go_sem,y,ae])|apply bn3 (by omega)|fail
   all_goals (
    refine aZ E _ rfl rfl (congrArg dB ?_)
    by_cases C:BA c (cX s)
    ·rw[aXJ C];refine(bfB z ⟨⟨by have:=F.1.1;omega,F.1.2,by have:=F.2.1;omega,F.2.2⟩,d,e,hinv,v,?_,C⟩).symm;unfold hU;rw[A,B] at M;simp only[jS] at M;omega
    ·rw[aWH C,beP fun h=>C h.2.st])
end
end Go.Proofs.YtdkfhdmagdaceaaGreat
