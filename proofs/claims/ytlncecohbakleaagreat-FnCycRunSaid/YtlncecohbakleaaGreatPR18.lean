/- Rules and contracts. -/
import Derived.Test.YtlncecohbakleaaGreatPR15
set_option linter.unusedVariables false
set_option linter.unusedSimpArgs false
set_option maxRecDepth 100000
set_option maxHeartbeats 8000000
namespace Go.Proofs.YtlncecohbakleaaGreat
open Go Go.AM
attribute [local irreducible] aJ wv aC vd wvH
section
variable{H:aA}{nx:Nat}{K:afC}
variable{l:List Int}{p:Nat}
theorem Ay{Q:AQ}(j: ∀ex e H2 c d nh d2 h F σ,ex=AEx.normal\/ex=AEx.ret->mT H2 e vD=some d->CvR 1 d H2 nh d2 h F σ->(nh=1/\ ∃o',h=hp [(0,o')]/\l9 o'/\ ∃(a:Nat) (x:Rsp),o'=rdO l a/\p<=a/\a<=p+12/\d2=dA (mS x)/\(x.data.length<=8))->Q ex e H2 c)
 {e:Env} {H2:aA} {c b f c1 m1 a:Nat} {id code:Int} {D:List Int} (k:mT H2 e vD=some (dA [cI id,cI code,.osl 1 b 0 f c1])) (m:H2 0=some (rdO l a)) (n:H2 b=some ⟨1,m1,D.map aH⟩)
 (i:p<=a/\a<=p+12) (o:f=D.length) (g:f<=c1/\b≠0/\f<=8):Q .ret e H2 c:=by
 obtain⟨g,q,r⟩:=g
 subst o
 exact jS j (dA (mS ⟨id,code,D⟩)) _ _ k (aG (bE rfl) (aG (bE rfl) (aG (cP aV n rfl g (by simpa using q)) cJ))) m (bU _ _) ⟨a,_,rfl,i.1,i.2,rfl,r⟩
theorem ij(l:List Int)(p:Nat)(n:Int)(s:0<n/\n<9000)(hl:fW l)(m:p+12<2^50):afB sA [dP 2 0,dI n] (hp [(0,rdO l p)]) 1
 fun t H' n'=>n'=1/\ ∃o',H'=hp [(0,o')]/\l9 o'/\ ∃(e:Nat) (x:Rsp),o'=rdO l e/\p<=e/\e<=p+12/\t=dA (mS x)/\(x.data.length<=8):=by
 refine aR.mk Tryz.func180 (by kernel_rfl) ZR rfl fun Q f=> ?_
 unfold xF
 repeat' first| (first|apply vI|refine aM hl (by omega) (by omega) (by omega) rfl (fun x c o=> ?_))<;>(simp only[go_sem];try simp (disch:=omega) only[Iw])|fail
 rename_i id q r code w y
 apply aJ.mM 1
 refine aJ.B2 3 (β:=Nat×Nat×List Int×Nat)
  (fun b u=>en [(6,dI u.1),(5,dP 3 (b+1)),(4,dP 3 b),(1,dI n),(0,dP 2 0)])
  (fun b u=>hp [(0,rdO l u.2.1),(b,⟨3,1,[[cI 0,cI 0,.osl 0 0 0 0 0]]⟩),(b+1,⟨3,1,[[cI id,cI (1+code),.osl 1 (b+2) 0 u.2.2.1.length u.2.2.2]]⟩),(b+2,⟨1,u.2.2.2,u.2.2.1.map aH⟩)])
  (fun u=>u.1+u.2.2.1.length<=4/\p<=u.2.1/\u.2.1+u.1<=p+7/\u.2.2.1.length<=u.2.2.2)
  (fun u=>u.1) (x.toNat,p+3,[],0) ?_ ⟨by simp;omega,by dsimp only;omega,by dsimp only;omega,abG _⟩ ?_
 · (refine eM [1,8,13,0] (by omega) (by repeat' first|exact C1|refine xqI rfl rfl ?_|refine xqP (by omega) rfl rfl ?_|refine xqV rfl (by omega) ?_|fail) ⟨⟨by simp,by simp[sgL],_,rfl,eD (bU _ _)⟩,⟨by simp,by simp[sgL],_,rfl,bA (by repeat' first|exact C1| (with_reducible first|exact C3|apply C4)| ((with_reducible apply C0);first|exact CB rfl|exact CC)|fail)⟩,⟨by simp,by simp[sgL],_,rfl,bA (by repeat' first|exact C1| (with_reducible first|exact C3|apply C4)| ((with_reducible apply C0);first|exact CB rfl|exact CC)|fail)⟩,⟨by simp,by simp[sgL],_,rfl,cD (aN aV _) rfl rfl⟩,trivial⟩ (by simp[sgL]))
 rintro⟨k,z,d,H⟩ ⟨A,B,C,f4⟩ I g
 dsimp only at A B C f4
 have i:d.take d.length=d:=acI
 by_cases J:0<k
 ·repeat' first| (first|apply vI|refine aM hl (by omega) (by omega) (by omega) rfl (fun x c o=> ?_))<;>(simp only[go_sem,i];try simp (disch:=omega) only[Iw])|apply vT (by omega)| (with_reducible first|refine fun(cap:Nat) (a:_<=cap)=> ?_|refine fun(E:_<=cap)=> ?_)|refine⟨by omega,?_⟩|fail
  exact g _ _ _ (k-1,z+1,d++[x],cap) (by omega) (by dsimp only;rw[abL,List.length_singleton];(refine eM [14,15,24,0] (by omega) (by repeat' first|exact C1|refine xqI rfl rfl ?_|refine xqP (by omega) rfl rfl ?_|refine xqV rfl (by omega) ?_|fail) ⟨⟨by simp,by simp[sgL],_,rfl,eD (bU _ _)⟩,⟨by simp,by simp[sgL],_,rfl,bA (by repeat' first|exact C1| (with_reducible first|exact C3|apply C4)| ((with_reducible apply C0);first|exact CB rfl|exact CC)|fail)⟩,⟨by simp,by simp[sgL],_,rfl,bA (by repeat' first|exact C1| (with_reducible first|exact C3|apply C4)| ((with_reducible apply C0);first|exact CB rfl|exact CQ (by omega) rfl rfl (by rfl) rfl)|fail)⟩,⟨by simp,by simp[sgL],_,rfl,cD (aN aV _) rfl rfl⟩,trivial⟩ (by simp[sgL]))) ⟨by simp;omega,by dsimp only;omega,by dsimp only;omega,by simpa using a⟩ (by dsimp only;omega)
 ·repeat' first| (first|apply vI|refine eX s hl (by omega) (by omega) rfl (fun K M F G _=> ?_)|refine aM hl (by omega) (by omega) (by omega) rfl (fun x c o=> ?_))<;>(simp only[go_sem])|apply vF (by omega)|refine iE (fun h=> ?_) fun h=> ?_| ((refine y5 (fun h=> ?_) (fun h=> ?_))<;>try subst h)|refine⟨by omega,?_⟩|fail
  all_goals first
   | (obtain⟨v,j⟩:=pY (L:=[[.v (.int .i64 (-1))],[.v (.int .i64 2)]]) (by simp) c (by simp;omega);simp only[j];simp only[go_sem];repeat' first|apply vI<;>(simp only[go_sem])|fail)
   | (obtain⟨v,j⟩:=pY (L:=[[.v (.int .i64 0)],[.v (.int .i64 5)]]) (by simp) c (by simp;omega);simp only[j];simp only[go_sem];repeat' first|apply vI<;>(simp only[go_sem])|fail)
   |skip
  all_goals first
   |exact Ay f rfl rfl rfl (by omega) rfl (by omega)
   |exact Ay f (D:=[-1]) rfl rfl rfl (by omega) rfl (by omega)
   |exact Ay f (D:=[1,2,3,4,5]) rfl rfl rfl (by omega) rfl (by omega)
theorem PI{i:Nat}{n:Int}(c:0<n/\n<9000)(hl:fW l)(b:p+12<2^50)(hi:i<nx)(e:H i=some (rdO l p))(h: ∀(a:Nat) (x:Rsp),p<=a->a<=p+12->(x.data.length<=8)->K (dA (mS x)) (H.set i (rdO l a)) nx):
 afB sA [dP 2 i,dI n] H nx K:=
 (ij l p n c hl b).LD i rfl (eF ⟨AO (by omega) rfl,aF rfl,trivial⟩) hi e (bU l p) fun r o' ⟨a,x,f,g,j,k,m⟩=>by subst f;subst k;exact BG (A:=fun d=>K d (H.set i (rdO l a)) nx) rfl (h a x g j m)
theorem ey{Q:AQ}(k: ∀ex f H2 c d nh d2 h F σ,ex=AEx.normal\/ex=AEx.ret->mT H2 f wJ=some d->CvR 1 d H2 nh d2 h F σ->(nh=1/\ ∃o',h=hp [(0,o')]/\l9 o'/\ ∃(a:Nat) (w:List Int),o'=rdO l a/\p<=a/\a<=p+70/\d2=dA [.isl (w.map aH)]/\(w.length<=65))->Q ex f H2 c)
 {f:Env} {H2:aA} {c b e c1 m1 a off:Nat} {W D:List Int} (m:mT H2 f wJ=some (dA [.osl 1 b off e c1])) (n:H2 0=some (rdO l a)) (o:H2 b=some ⟨1,m1,W.map aH⟩)
 (q:(W.drop off).take e=D) (i:p<=a/\a<=p+70) (g:e=D.length/\off+e<=W.length) (j:e<=c1/\b≠0/\e<=65):Q .ret f H2 c:=by
 obtain⟨j,r,t⟩:=j
 obtain⟨g,s⟩:=g
 exact jS k (dA [.isl (D.map aH)]) _ _ m (aG (ZF (aN aV _) (by rw[abT];exact g) (by simpa using r) o rfl (by simp;omega) (by rw[abT,<-g,<-acZ,<-aeM,q]) (by rw[abT];omega)) cJ) n (bU _ _) ⟨a,_,rfl,i.1,i.2,rfl,by omega⟩
theorem kb(l:List Int)(p:Nat)(n:Int)(c:n=99999\/(0<n/\n<9000))(hl:fW l)(j:p+70<2^50):afB r6 [dP 2 0,dI n] (hp [(0,rdO l p)]) 1
 fun q H' n'=>n'=1/\ ∃o',H'=hp [(0,o')]/\l9 o'/\ ∃(d:Nat) (w:List Int),o'=rdO l d/\p<=d/\d<=p+70/\q=dA [.isl (w.map aH)]/\(w.length<=65):=by
 refine aR.mk Tryz.func255 (by kernel_rfl) bg rfl fun Q a=> ?_
 unfold uR
 have e:(List.replicate 64 (0:Int)).length=64:=rfl
 have f: ∀{H:aA} {nx:Nat} {K:afC},K (dA [.osl 1 nx 0 64 64]) (H.set nx ⟨1,64,(List.replicate 64 (0:Int)).map aH⟩) (nx+1)->afB lV [] H nx K:=fun h=>QA h
 generalize List.replicate 64 (0:Int)=r at*
 repeat' first| (first|apply vI|apply f|refine aM hl (by omega) (by omega) (by omega) rfl (fun x g m=> ?_))<;>(simp only[go_sem])|fail
 refine aJ.B2 3 (β:=Nat×Nat×List Int)
  (fun b u=>en [(6,dI u.1),(5,dP 1 (b+1)),(4,dP 1 b),(1,dI n),(0,dP 2 0)])
  (fun b u=>hp [(0,rdO l u.2.1),(b,⟨1,1,[[.osl 0 0 0 0 0]]⟩),(b+1,⟨1,1,[[.osl 1 (b+2) 0 64 64]]⟩),(b+2,⟨1,64,u.2.2.map aH⟩)])
  (fun u=>u.1<=7/\p<=u.2.1/\u.2.1+8*u.1<=p+57/\u.2.2.length=64)
  (fun u=>u.1) (x.toNat,p+1,r) ?_ ⟨by dsimp only;omega,by dsimp only;omega,by dsimp only;omega,e⟩ ?_
 · (refine eM [1,3,5,0] (by omega) (by repeat' first|exact C1|refine xqI rfl rfl ?_|refine xqP (by omega) rfl rfl ?_|refine xqV rfl (by omega) ?_|fail) ⟨⟨by simp,by simp[sgL],_,rfl,eD (bU _ _)⟩,⟨by simp,by simp[sgL],_,rfl,bA (by repeat' first|exact C1| (with_reducible first|exact C3|apply C4)| ((with_reducible apply C0);exact CC)|fail)⟩,⟨by simp,by simp[sgL],_,rfl,bA (by repeat' first|exact C1| (with_reducible first|exact C3|apply C4)| ((with_reducible apply C0);exact CQ (by omega) rfl rfl (by rfl) rfl)|fail)⟩,⟨by simp,by simp[sgL],_,rfl,cD (aN aV _) rfl rfl⟩,trivial⟩ (by simp[sgL]))
 rintro⟨k,M,w⟩ ⟨s,t,y,f4⟩ N i
 dsimp only at s t y f4
 by_cases O:0<k
 ·repeat' first| (first|apply vI|refine MH hl (by omega) (by omega) rfl (fun z A B C E=> ?_)|refine aM hl (by omega) (by omega) (by omega) rfl (fun x g m=> ?_))<;>(simp only[go_sem];try simp (disch:=omega) only[Iw])|apply vT (by omega)|refine⟨by omega,?_⟩|fail
  exact i _ _ _ (k-1,z+1,w.set A.toNat (x*257)) (by omega) (by(refine eM [9,10,11,0] (by omega) (by repeat' first|exact C1|refine xqI rfl rfl ?_|refine xqP (by omega) rfl rfl ?_|refine xqV rfl (by omega) ?_|fail) ⟨⟨by simp,by simp[sgL],_,rfl,eD (bU _ _)⟩,⟨by simp,by simp[sgL],_,rfl,bA (by repeat' first|exact C1| (with_reducible first|exact C3|apply C4)| ((with_reducible apply C0);exact CC)|fail)⟩,⟨by simp,by simp[sgL],_,rfl,bA (by repeat' first|exact C1| (with_reducible first|exact C3|apply C4)| ((with_reducible apply C0);exact CQ (by omega) rfl rfl (by rfl) rfl)|fail)⟩,⟨by simp,by simp[sgL],_,rfl,cD (aN aV _) rfl rfl⟩,trivial⟩ (by simp[sgL]))) ⟨by dsimp only;omega,by dsimp only;omega,by dsimp only;omega,by simp;omega⟩ (by dsimp only;omega)
 ·rcases c with rfl|c
  ·repeat' first| (first|apply vI|refine pM (by omega) rfl ?_)<;>(simp only[go_sem])|apply vF (by omega)|fail
   exact ey a (D:=w) rfl rfl rfl (abM (by simp;omega)) (by omega) (by omega) (by omega)
  ·repeat' first| (first|apply vI|refine eX c hl (by omega) (by omega) rfl (fun P R F G _=> ?_)|refine aM hl (by omega) (by omega) (by omega) rfl (fun x g m=> ?_))<;>(simp only[go_sem])|apply vF (by omega)|refine iE (fun h=> ?_) fun h=> ?_| (with_reducible first|refine fun(cap:Nat) (o:_<=cap)=> ?_|refine fun(I:_<=cap)=> ?_)| ((refine y5 (fun h=> ?_) (fun h=> ?_))<;>try subst h)|refine⟨by omega,?_⟩|fail
   all_goals first
    | (obtain⟨v,J⟩:=pY (L:=[[.v (.int .i64 (-1))],[.v (.int .i64 65536)]]) (by simp) g (by simp;omega);simp only[J];simp only[go_sem];repeat' first|apply vI<;>(simp only[go_sem])|refine⟨by omega,?_⟩|fail)
    |skip
   all_goals first
    |exact ey a (D:=w.drop 1) rfl rfl rfl (abM (by simp;omega)) (by omega) (by simp;omega) (by omega)
    |exact ey a (D:=w.set _ _) rfl rfl rfl (abM (by simp;omega)) (by omega) (by simp;omega) (by omega)
    |exact ey a (D:=w.take 64++[0]) rfl rfl rfl (abM (by simp;omega)) (by omega) (by simp;omega) (by omega)
    |exact ey a (D:=w) rfl rfl rfl (abM (by simp;omega)) (by omega) (by omega) (by omega)
    |fail
theorem PB{i:Nat}{n:Int}(c:n=99999\/(0<n/\n<9000))(hl:fW l)(b:p+70<2^50)(hi:i<nx)(e:H i=some (rdO l p))(h: ∀(a:Nat) (w:List Int),p<=a->a<=p+70->(w.length<=65)->K (dA [.isl (w.map aH)]) (H.set i (rdO l a)) nx):
 afB r6 [dP 2 i,dI n] H nx K:=
 (kb l p n c hl b).LD i rfl (eF ⟨AO (by omega) rfl,aF rfl,trivial⟩) hi e (bU l p) fun r o' ⟨a,w,f,g,j,k,m⟩=>by subst f;subst k;exact BG (A:=fun d=>K d (H.set i (rdO l a)) nx) rfl (h a w g j m)
theorem Cp{Q:AQ}(m: ∀ex f H2 c d nh d2 i F σ,ex=AEx.normal\/ex=AEx.ret->mT H2 f vH=some d->CvR 1 d H2 nh d2 i F σ->(nh=1/\ ∃o',i=hp [(0,o')]/\l9 o'/\ ∃(a:Nat) (w u:List Int),o'=rdO l a/\p<=a/\a<=p+200/\d2=dA [.isl (w.map aH),.isl (u.map aH)]/\(w.length<=65/\u.length<=6))->Q ex f H2 c)
 {f:Env} {H2:aA} {c b e c1 m1 a off:Nat} {w W D:List Int} (n:mT H2 f vH=some (dA [.isl (w.map aH),.osl 1 b off e c1])) (o:H2 0=some (rdO l a)) (q:H2 b=some ⟨1,m1,W.map aH⟩)
 (r:(W.drop off).take e=D) (j:p<=a/\a<=p+200) (g:e=D.length/\off+e<=W.length) (k:e<=c1/\b≠0/\e<=6/\w.length<=65):Q .ret f H2 c:=by
 obtain⟨k,s,v,h⟩:=k
 obtain⟨g,t⟩:=g
 exact jS m (dA [.isl (w.map aH),.isl (D.map aH)]) _ _ n (aG (bE rfl) (aG (ZF (aN aV _) (by rw[abT];exact g) (by simpa using s) q rfl (by simp;omega) (by rw[abT,<-g,<-acZ,<-aeM,r]) (by rw[abT];omega)) cJ)) o (bU _ _) ⟨a,_,_,rfl,j.1,j.2,rfl,h,by omega⟩
theorem na(l:List Int)(p:Nat)(n:Int)(r:0<n/\n<9000)(hl:fW l)(q:p+200<2^50):afB zJ [dP 2 0,dI n] (hp [(0,rdO l p)]) 1
 fun s H' n'=>n'=1/\ ∃o',H'=hp [(0,o')]/\l9 o'/\ ∃(a:Nat) (w:List Int) (u:List Int),o'=rdO l a/\p<=a/\a<=p+200/\s=dA [.isl (w.map aH),.isl (u.map aH)]/\(w.length<=65/\u.length<=6):=by
 refine aR.mk Tryz.func179 (by kernel_rfl) fy rfl fun Q c=> ?_
 unfold wN
 have d:(List.replicate 6 (-1:Int)).length=6:=rfl
 have e: ∀{H:aA} {nx:Nat} {K:afC},(∀hc,6<=hc->K (dA [.osl 1 nx 0 64 64,.osl 1 (nx+1) 0 6 hc]) ((H.set nx ⟨1,64,(List.replicate 64 (0:Int)).map aH⟩).set (nx+1) ⟨1,hc,(List.replicate 6 (-1:Int)).map aH⟩) (nx+2))->afB nX [] H nx K:=fun h=>P6 h
 generalize List.replicate 64 (0:Int)=I at*
 generalize List.replicate 6 (-1:Int)=t at*
 repeat' first| (first|apply vI|refine e fun hc y=> ?_|refine PB (n:=99999) (.inl rfl) hl (by omega) (by omega) rfl (fun pm w f g i=> ?_))<;>(simp only[go_sem])|fail
 refine aJ.B2 3 (β:=Nat×Nat×List Int)
  (fun b u=>en [(6,dI u.1),(5,dP 2 (b+1)),(4,dP 2 b),(1,dI n),(0,dP 2 0)])
  (fun b u=>hp [(0,rdO l u.2.1),(b,⟨2,1,[[.osl 0 0 0 0 0,.osl 0 0 0 0 0]]⟩),(b+1,⟨2,1,[[.isl (w.map aH),.osl 1 (b+2) 0 6 hc]]⟩),(b+2,⟨1,hc,u.2.2.map aH⟩)])
  (fun u=>u.1<=6/\p<=u.2.1/\u.2.1<=p+70+u.1/\u.2.2.length=6)
  (fun u=>6-u.1) (0,pm,t) ?_ ⟨by dsimp only;omega,by dsimp only;omega,by dsimp only;omega,d⟩ ?_
 · (refine eM [1,3,6,0] (by omega) (by repeat' first|exact C1|refine xqI rfl rfl ?_|refine xqP (by omega) rfl rfl ?_|fail) ⟨⟨by simp,by simp[sgL],_,rfl,eD (bU _ _)⟩,⟨by simp,by simp[sgL],_,rfl,bA (by repeat' first|exact C1| (with_reducible first|exact C3|apply C4)| ((with_reducible apply C0);exact CC)|fail)⟩,⟨by simp,by simp[sgL],_,rfl,bA (by repeat' first|exact C1| (with_reducible first|exact C3|apply C4)| ((with_reducible apply C0);first|exact CB rfl|exact CQ (by omega) rfl rfl (by rfl) rfl)|fail)⟩,⟨by simp,by simp[sgL],_,rfl,cD (aN aV _) rfl rfl⟩,trivial⟩ (by simp[sgL]))
 rintro⟨k,z,u⟩ ⟨A,B,C,f4⟩ J j
 dsimp only at A B C f4
 by_cases M:k<6
 ·repeat' first| (first|apply vI|refine aM hl (by omega) (by omega) (by omega) rfl (fun x m E=> ?_))<;>(simp only[go_sem])|apply vT (by omega)|refine⟨by omega,?_⟩|fail
  obtain⟨v,o⟩:=pY (L:=[[.v (.int .i64 (-1))],[.v (.int .i64 0)],[.v (.int .i64 1)],[.v (.int .i64 16)],[.v (.int .i64 32)]]) (by simp) m (by simp;omega);simp only[go_sem,o];repeat' first|apply vI<;>(simp only[go_sem];try simp (disch:=omega) only[Iw])|refine⟨by omega,?_⟩|fail
  exact j _ _ _ (k+1,z+1,u.set k v) (by omega) (by(refine eM [12,13,14,0] (by omega) (by repeat' first|exact C1|refine xqI rfl rfl ?_|refine xqP (by omega) rfl rfl ?_|fail) ⟨⟨by simp,by simp[sgL],_,rfl,eD (bU _ _)⟩,⟨by simp,by simp[sgL],_,rfl,bA (by repeat' first|exact C1| (with_reducible first|exact C3|apply C4)| ((with_reducible apply C0);exact CC)|fail)⟩,⟨by simp,by simp[sgL],_,rfl,bA (by repeat' first|exact C1| (with_reducible first|exact C3|apply C4)| ((with_reducible apply C0);first|exact CB rfl|exact CQ (by omega) rfl rfl (by rfl) rfl)|fail)⟩,⟨by simp,by simp[sgL],_,rfl,cD (aN aV _) rfl rfl⟩,trivial⟩ (by simp[sgL]))) ⟨by dsimp only;omega,by dsimp only;omega,by dsimp only;omega,by simp;omega⟩ (by dsimp only;omega)
 ·repeat' first| (first|apply vI|refine eX r hl (by omega) (by omega) rfl (fun N O F G _=> ?_)|refine aM hl (by omega) (by omega) (by omega) rfl (fun x m E=> ?_)|refine PB (n:=1) (.inr (by omega)) hl (by omega) (by omega) rfl (fun P R f g i=> ?_))<;>(simp only[go_sem])|apply vF (by omega)|refine iE (fun h=> ?_) fun h=> ?_| ((refine y5 (fun h=> ?_) (fun h=> ?_))<;>try subst h)|refine⟨by omega,?_⟩|fail
  all_goals first
   | (obtain⟨v,o⟩:=pY (L:=[[.v (.int .i64 (-2))],[.v (.int .i64 64)]]) (by simp) m (by simp;omega);simp only[o];simp only[go_sem];repeat' first|apply vI<;>(simp only[go_sem])|refine⟨by omega,?_⟩|fail)
   |skip
  all_goals first
   |exact Cp c (D:=u.drop 1) rfl rfl rfl (abM (by simp;omega)) (by omega) (by simp;omega) (by omega)
   |exact Cp c (D:=u.set _ _) rfl rfl rfl (abM (by simp;omega)) (by omega) (by simp;omega) (by omega)
   |exact Cp c (D:=u) rfl rfl rfl (abM (by simp;omega)) (by omega) (by omega) (by omega)
   |fail
theorem iq{i:Nat}{n:Int}(c:0<n/\n<9000)(hl:fW l)(b:p+200<2^50)(hi:i<nx)(e:H i=some (rdO l p))(h: ∀(a:Nat) (w:List Int) (u:List Int),p<=a->a<=p+200->(w.length<=65/\u.length<=6)->K (dA [.isl (w.map aH),.isl (u.map aH)]) (H.set i (rdO l a)) nx):
 afB zJ [dP 2 i,dI n] H nx K:=
 (na l p n c hl b).LD i rfl (eF ⟨AO (by omega) rfl,aF rfl,trivial⟩) hi e (bU l p) fun r o' ⟨a,w,u,f,g,j,k,m⟩=>by subst f;subst k;exact BG (A:=fun d=>K d (H.set i (rdO l a)) nx) rfl (h a w u g j m)
end
theorem Cn{a b c:Job}(d:fY a b=true)(e:fY b c=true):fY a c=true:=by rw[rO] at*;omega
variable{l:List Job}
theorem Pn(h: ∀i,i<l.length->0<i->fY (l.getD (i-1) default) (l.getD i default)=true):jA l:=by
 have key: ∀d i,i+d+1<l.length->fY (l.getD i default) (l.getD (i+d+1) default)=true:=by
  intro d
  induction d with
  |zero=>exact fun i hi=>h (i+1) hi (by omega)
  |succ d a=>exact fun i hi=>Cn (a i (by omega)) (h (i+d+1+1) hi (by omega))
 refine acH.2 fun i j hi b c=> ?_;have:=key (j-i-1) i (by omega);rw[show i+(j-i-1)+1=j by omega] at this;simpa [List.getD,hi,b] using this
theorem Ts(h:jA l){i:Nat}(hi:i<l.length)(a:0<i):fY (l.getD (i-1) default) (l.getD i default)=true:=by have:=acH.1 h (i-1) i (by omega) hi (by omega);simpa [List.getD,hi,show i-1<l.length by omega] using this
section
variable{H:aA}{nx:Nat}{K:afC}
theorem PR{c:Cfg}{a:List Int}{l:List Job}{b:Bool}(V:bH c)(C:a.length=3)(I:Js c a)(hl:l.length<2^21)(W: ∀j∈l,j.rsp.data.length<2^21)(h:K (dB (SA c a l b)) H nx):afB nZ [dA (bI c),dS (a.map aH),dS (l.map aT),dB b] H nx K:=by
 refine aC.pure (args0:=[dA (bI c),dS (a.map aH),dS (l.map aT),dB b]) (R:=fun X=>X=dB (SA c a l b)) ?_ rfl (aK ⟨aF rfl,aF rfl,aF rfl,aF rfl,trivial⟩) (fun r hr=>hr▸h);clear h;refine aR.mk Tryz.func214 (by kernel_rfl) YW rfl fun Q t=> ?_;unfold xA;obtain⟨p,F⟩:=eW V;repeat' first|apply vI<;>(simp only[go_sem])|fail
 (refine aJ.loop (α:={k:Nat//k<=l.length/\(∀i,i<k->InA a (l.getD i default)/\(0<i->fY (l.getD (i-1) default) (l.getD i default)=true)/\(if b then vB c (l.getD i default) else (l.getD i default).rsp=jZ))}) (fun u=>en [(9,dI u.1),(4,.one (.c (.fF (bI c)))),(3,dB b),(2,dS (l.map aT)),(1,dS (a.map aH))]) (fun _=>.nil) _ (fun u=>l.length-u.1) ⟨0,by omega,(by intros;first|trivial|omega)⟩ (bF (abG _) (by repeat' first|exact C1|refine xqI rfl rfl ?_| (with_reducible apply C2)| ((with_reducible apply D0);exact CI rfl (by simp) rfl rfl rfl)|fail)) ?_);(rintro⟨k,Z,hinv⟩ KL v);by_cases G:k<l.length
 ·obtain⟨j,J⟩: ∃j,j=l.getD k default:=⟨_,rfl⟩
  have g:=J.symm;have hm:j∈l:=by rw[J];exact bT G
  have Y:=W j hm;have m:InA a j->(0<k->fY (l.getD (k-1) default) j=true)->(if b then vB c j else j.rsp=jZ)->∀i,i<k+1->InA a (l.getD i default)/\(0<i->fY (l.getD (i-1) default) (l.getD i default)=true)/\(if b then vB c (l.getD i default) else (l.getD i default).rsp=jZ):=fun s y o=>bL hinv ⟨by rw[g];exact s,by rw[g];exact y,by rw[g];exact o⟩;have f: ¬(InA a j/\(0<k->fY (l.getD (k-1) default) j=true)/\(if b then vB c j else j.rsp=jZ))->SA c a l b=false:=fun h=>tv fun L=>h ⟨L.inA j hm,fun D=>by rw[J];exact Ts L.sorted G D,L.rsp j hm⟩;have q:((k:Int)-1).toNat=k-1:=by omega
  have z:j.rsp=jZ↔j.rsp.id=0/\j.rsp.code=0/\(j.rsp.data.length:Int)=0:=by obtain⟨w,n,⟨i,d,x⟩⟩:=j;simp only[jZ,Rsp.mk.injEq];refine⟨fun⟨s,y,o⟩=>⟨s,y,by rw[o];rfl⟩,fun⟨s,y,o⟩=>⟨s,y,acX.1 (by omega)⟩⟩
  by_cases hw:0<=j.who/\j.who<=2
  ·have T:=I j.who.toNat (by omega);have U:=F j.who.toNat;by_cases A:0<=j.n/\j.n<=a.getD j.who.toNat default-1
   ·have B:InA a j:=⟨hw,A.1,by omega⟩
    cases b with
    |false=>
     by_cases D:0<k
     ·by_cases e:fY (l.getD (k-1) default) j=true
      ·repeat' first| (first|apply vI|apply Y4 (by omega)|refine Y6 (fun h=> ?_) fun h=> ?_|apply bB|apply nQ)<;>(simp only[go_sem,g,eq_true hw,eq_true A,e,p,C,q];try simp (disch:=omega) only[Iw])|apply vT (by omega)|refine iE (fun h=> ?_) fun h=> ?_|refine⟨by omega,?_⟩|fail
       all_goals first| (refine v _ _ _ ⟨k+1,by omega,m B (fun _=>e) (by rw[if_neg (by decide)];exact z.2 ⟨by omega,by omega,by omega⟩)⟩ (by omega) (by(try dsimp only);omega) (bF (abG _) (by repeat' first|exact C1|refine xqI rfl rfl ?_|fail)))|exact aP t (dB false) rfl rfl (congrArg dB (f fun⟨_,_,o⟩=>by rw[if_neg (by decide)] at o;have:=z.1 o;omega)).symm
      ·have E:=eq_false_of_ne_true e;repeat' first| (first|apply vI|apply Y4 (by omega)|apply bB|apply nQ)<;>(simp only[go_sem,g,eq_true hw,eq_true A,E,p,C,q];try simp (disch:=omega) only[Iw])|apply vT (by omega)|refine⟨by omega,?_⟩|fail
       all_goals exact aP t (dB false) rfl rfl (congrArg dB (f fun⟨_,y,_⟩=>e (y D))).symm
     ·repeat' first| (first|apply vI|apply Y5 (by omega)|refine Y6 (fun h=> ?_) fun h=> ?_|apply bB)<;>(simp only[go_sem,g,eq_true hw,eq_true A,p,C,q];try simp (disch:=omega) only[Iw])|apply vT (by omega)|refine iE (fun h=> ?_) fun h=> ?_|refine⟨by omega,?_⟩|fail
      all_goals first| (refine v _ _ _ ⟨k+1,by omega,m B (fun h=>absurd h D) (by rw[if_neg (by decide)];exact z.2 ⟨by omega,by omega,by omega⟩)⟩ (by omega) (by(try dsimp only);omega) (bF (abG _) (by repeat' first|exact C1|refine xqI rfl rfl ?_|fail)))|exact aP t (dB false) rfl rfl (congrArg dB (f fun⟨_,_,o⟩=>by rw[if_neg (by decide)] at o;have:=z.1 o;omega)).symm
    |true=>
     by_cases D:0<k
     ·by_cases e:fY (l.getD (k-1) default) j=true
      ·repeat' first| (first|apply vI|apply Y4 (by omega)|refine Y6 (fun h=> ?_) fun h=> ?_|apply bB|apply nQ|apply nH (show j.rsp.data.length<2^40 by omega))<;>(simp only[go_sem,g,eq_true hw,eq_true A,e,p,C,q];try simp (disch:=omega) only[Iw])|apply vT (by omega)|refine⟨by omega,?_⟩|fail
       all_goals first| (refine v _ _ _ ⟨k+1,by omega,m B (fun _=>e) (by rw[if_pos rfl];exact⟨Classical.not_not.1 (by assumption),by unfold bQ;omega⟩)⟩ (by omega) (by(try dsimp only);omega) (bF (abG _) (by repeat' first|exact C1|refine xqI rfl rfl ?_|fail)))|exact aP t (dB false) rfl rfl (congrArg dB (f fun⟨_,_,o⟩=>by rw[if_pos rfl] at o;obtain⟨M,N⟩:=o;unfold bQ at N;first|omega|exact absurd M (by assumption)|simp_all)).symm
      ·have E:=eq_false_of_ne_true e;repeat' first| (first|apply vI|apply Y4 (by omega)|apply bB|apply nQ)<;>(simp only[go_sem,g,eq_true hw,eq_true A,E,p,C,q];try simp (disch:=omega) only[Iw])|apply vT (by omega)|refine⟨by omega,?_⟩|fail
       all_goals exact aP t (dB false) rfl rfl (congrArg dB (f fun⟨_,y,_⟩=>e (y D))).symm
     ·repeat' first| (first|apply vI|apply Y5 (by omega)|refine Y6 (fun h=> ?_) fun h=> ?_|apply bB|apply nH (show j.rsp.data.length<2^40 by omega))<;>(simp only[go_sem,g,eq_true hw,eq_true A,p,C,q];try simp (disch:=omega) only[Iw])|apply vT (by omega)|refine⟨by omega,?_⟩|fail
      all_goals first| (refine v _ _ _ ⟨k+1,by omega,m B (fun h=>absurd h D) (by rw[if_pos rfl];exact⟨Classical.not_not.1 (by assumption),by unfold bQ;omega⟩)⟩ (by omega) (by(try dsimp only);omega) (bF (abG _) (by repeat' first|exact C1|refine xqI rfl rfl ?_|fail)))|exact aP t (dB false) rfl rfl (congrArg dB (f fun⟨_,_,o⟩=>by rw[if_pos rfl] at o;obtain⟨M,N⟩:=o;unfold bQ at N;first|omega|exact absurd M (by assumption)|simp_all)).symm
   ·repeat' first| (first|apply vI|apply bB)<;>(simp only[go_sem,g,eq_true hw,eq_false A,C];try simp (disch:=omega) only[Iw])|apply vT (by omega)|refine⟨by omega,?_⟩|fail
    all_goals first| (exfalso;omega)|exact aP t (dB false) rfl rfl (congrArg dB (f fun⟨s,_,_⟩=>A ⟨s.2.1,by have:=s.2.2;omega⟩)).symm
  ·repeat' first| (first|apply vI|apply bB)<;>(simp only[go_sem,g,eq_false hw])|apply vT (by omega)|refine⟨by omega,?_⟩|fail
   all_goals first| (exfalso;omega)|exact aP t (dB false) rfl rfl (congrArg dB (f fun⟨s,_,_⟩=>hw s.1)).symm
 ·repeat' first|apply vI<;>(simp only[go_sem])|apply vF (by omega)|fail
  have O:k=l.length:=by omega
  subst O;exact aP t (dB true) rfl rfl (congrArg dB (XM ⟨fun x S=>iK (fun i hi=>(hinv i hi).1) x S,Pn fun i hi=>(hinv i hi).2.1,fun x S=>iK (P:=fun x=>if b then vB c x else x.rsp=jZ) (fun i hi=>(hinv i hi).2.2) x S⟩).symm)
end
theorem Hz(h: ∀i,i<l.length->key (l.getD i default)∉(l.take i).map key):(l.map key).Nodup:=by refine ad7.2 (acH.2 fun i j hi a b he=> ?_);apply h j a;rw[show l.getD j default=l[j] by simp[List.getD,a],<-he];exact adD (ab6.2 ⟨i,by simp;omega,by simp⟩)
theorem Kg(h:(l.map key).Nodup){i:Nat}(hi:i<l.length):key (l.getD i default)∉(l.take i).map key:=by
 intro hm;obtain⟨x,b,he⟩:=abP.1 hm;obtain⟨j,c,rfl⟩:=ab6.1 b;have a:j<i:=by simp at c;omega
 have d:=acH.1 (ad7.1 h) j i (by omega) hi a;rw[show l.getD i default=l[i] by simp[List.getD,hi]] at he;simp only[adX] at he;exact d he
section
variable{H:aA}{nx:Nat}{K:afC}
theorem HC{c:Cfg}{s:TSt}(I:bH c)(p:s.asked.length=3)(w:Js c s.asked)(hl:s.told.length<2^21)(J: ∀j∈s.told,j.rsp.data.length<2^21)(h:K (dB (YT c s)) H nx):afB G4 [dA (bI c),dA (eSt s)] H nx K:=by
 refine aC.pure (args0:=[dA (bI c),dA (eSt s)]) (R:=fun L=>L=dB (YT c s)) ?_ rfl (aK ⟨aF rfl,aF rfl,trivial⟩) (fun r hr=>hr▸h);clear h;refine aR.mk Tryz.func215 (by kernel_rfl) YB rfl fun Q m=> ?_;unfold uY;obtain⟨d,q⟩:=eW I;repeat' first|apply vI<;>(simp only[go_sem])|fail
 (refine aJ.loop (α:={k:Nat//k<=s.told.length/\(∀i,i<k->InA s.asked (s.told.getD i default)/\vB c (s.told.getD i default)/\key (s.told.getD i default)∉(s.told.take i).map key)}) (fun u=>en [(5,dI u.1),(3,.one (.c (.fF (eSt s)))),(2,.one (.c (.fF (bI c))))]) (fun _=>.nil) _ (fun u=>s.told.length-u.1) ⟨0,by omega,(by intros;first|trivial|omega)⟩ (bF (abG _) (by repeat' first|exact C1|refine xqI rfl rfl ?_| (with_reducible apply C2)| ((with_reducible apply D0);exact CI rfl (by simp) rfl rfl rfl)|fail)) ?_);(rintro⟨k,S,hinv⟩ T y);by_cases t:k<s.told.length
 ·obtain⟨j,z⟩: ∃j,j=s.told.getD k default:=⟨_,rfl⟩
  have b:=z.symm;have hm:j∈s.told:=by rw[z];exact bT t
  have M:=J j hm;have f:InA s.asked j->vB c j->key j∉(s.told.take k).map key->∀i,i<k+1->InA s.asked (s.told.getD i default)/\vB c (s.told.getD i default)/\key (s.told.getD i default)∉(s.told.take i).map key:=fun o N O=>bL hinv (by rw[b];exact⟨o,N,O⟩);have a: ¬(InA s.asked j/\vB c j/\key j∉(s.told.take k).map key)->YT c s=false:=fun h=>Ft fun A=>h ⟨A.inA j hm,A.rsp j hm,by rw[z];exact Kg A.once t⟩;by_cases hw:0<=j.who/\j.who<=2
  ·have F:=w j.who.toNat (by omega);have G:=q j.who.toNat;by_cases g:0<=j.n/\j.n<=s.asked.getD j.who.toNat default-1
   ·have B:InA s.asked j:=⟨hw,g.1,by omega⟩
    by_cases hr:jU j.rsp
    ·by_cases e:j.rsp.id=((c.cN.getD j.who.toNat default).getD j.n.toNat default).id
     ·have C:vB c j:=⟨hr,e⟩
      by_cases v:0<=bP (iJ j.who j.n) (s.told.take k)
      ·repeat' first| (first|apply vI|apply bB|apply nH (show j.rsp.data.length<2^40 by omega)| (apply lG (l:=s.told.take k) (by simp;omega)))<;>(simp only[go_sem,b,eq_true hw,eq_true g,eq_true hr,e.symm,d,p];try simp (disch:=omega) only[Iw])|apply vT (by omega)|refine⟨by omega,?_⟩|fail
       all_goals first| (exfalso;omega)|exact aP m (dB false) rfl rfl (congrArg dB (a fun⟨_,_,h⟩=>h (rS.1 v))).symm
      ·repeat' first| (first|apply vI|apply bB|apply nH (show j.rsp.data.length<2^40 by omega)| (apply lG (l:=s.told.take k) (by simp;omega)))<;>(simp only[go_sem,b,eq_true hw,eq_true g,eq_true hr,e.symm,d,p];try simp (disch:=omega) only[Iw])|apply vT (by omega)|apply vF (by omega)|refine⟨by omega,?_⟩|fail
       all_goals first| (exfalso;omega)| (refine y _ _ _ ⟨k+1,by omega,f B C (fun h=>v (rS.2 h))⟩ (by omega) (by(try dsimp only);omega) (bF (abG _) (by repeat' first|exact C1|refine xqI rfl rfl ?_|fail)))
     ·repeat' first| (first|apply vI|apply Y4 (by omega)|apply bB|apply nH (show j.rsp.data.length<2^40 by omega))<;>(simp only[go_sem,b,eq_true hw,eq_true g,eq_true hr,d,p];try simp (disch:=omega) only[Iw])|apply vT (by omega)|refine⟨by omega,?_⟩|fail
      all_goals first| (exfalso;omega)|exact aP m (dB false) rfl rfl (congrArg dB (a fun⟨_,h,_⟩=>e h.2)).symm
    ·repeat' first| (first|apply vI|apply bB|apply nH (show j.rsp.data.length<2^40 by omega))<;>(simp only[go_sem,b,eq_true hw,eq_true g,eq_false hr,d,p];try simp (disch:=omega) only[Iw])|apply vT (by omega)|refine⟨by omega,?_⟩|fail
     all_goals first| (exfalso;omega)|exact aP m (dB false) rfl rfl (congrArg dB (a fun⟨_,h,_⟩=>hr h.1)).symm
   ·repeat' first| (first|apply vI|apply bB)<;>(simp only[go_sem,b,eq_true hw,eq_false g,p];try simp (disch:=omega) only[Iw])|apply vT (by omega)|refine⟨by omega,?_⟩|fail
    all_goals first| (exfalso;omega)|exact aP m (dB false) rfl rfl (congrArg dB (a fun⟨o,_,_⟩=>g ⟨o.2.1,by have:=o.2.2;omega⟩)).symm
  ·repeat' first| (first|apply vI|apply bB)<;>(simp only[go_sem,b,eq_false hw])|apply vT (by omega)|refine⟨by omega,?_⟩|fail
   all_goals first| (exfalso;omega)|exact aP m (dB false) rfl rfl (congrArg dB (a fun⟨o,_,_⟩=>hw o.1)).symm
 ·repeat' first|apply vI<;>(simp only[go_sem])|apply vF (by omega)|fail
  have D:k=s.told.length:=by omega
  subst D;exact aP m (dB true) rfl rfl (congrArg dB (Fs ⟨fun x E=>iK (fun i hi=>(hinv i hi).1) x E,Hz fun i hi=>(hinv i hi).2.2,fun x E=>iK (P:=vB c) (fun i hi=>(hinv i hi).2.1) x E⟩).symm)
theorem tw{c:Cfg}{s:TSt}(v:iN c)(w:Ih s)(h:K (dB (tlB c s)) H nx):afB I8 [dA (bI c),dA (eSt s)] H nx K:=by
 refine aC.pure (args0:=[dA (bI c),dA (eSt s)]) (R:=fun rr=>rr=dB (tlB c s)) ?_ rfl (aK ⟨aF rfl,aF rfl,trivial⟩) (fun r hr=>hr▸h);clear h;refine aR.mk Tryz.func129 (by kernel_rfl) gz rfl fun Q e=> ?_;unfold zW;have ab:=w.words;have ad:=w.holds;have ah:=w.asked;have O:=w.wait;have S:=w.done;have A:=w.told;have T: ∀j∈s.wait,j.rsp.data.length<2^21:=fun j b=>w.data j (by simp[b]);have U: ∀j∈s.done,j.rsp.data.length<2^21:=fun j b=>w.data j (by simp[b]);have B: ∀j∈s.told,j.rsp.data.length<2^21:=fun j b=>w.data j (by simp[b]);by_cases f:bH c
 case neg=>
  repeat' first| (first|apply vI|apply lE v)<;>(simp only[go_sem,eq_false f])|fail
  all_goals exact aP e (dB false) rfl rfl (congrArg dB (MR fun h=>f h.1)).symm
 by_cases g:o7 s.words s.holds
 case neg=>
  repeat' first| (first|apply vI|apply lE v|apply qP (show s.words.length<2^40 by omega) (show s.holds.length<2^40 by omega))<;>(simp only[go_sem,eq_true f,eq_false g])|fail
  all_goals exact aP e (dB false) rfl rfl (congrArg dB (MR fun h=>g ⟨⟨by rw[h.2.atm.wl];rfl,h.2.atm.wr⟩,by rw[h.2.atm.hl];rfl,h.2.atm.hr⟩)).symm
 by_cases t:s.asked.length=3
 case neg=>
  repeat' first| (first|apply vI|apply lE v|apply qP (show s.words.length<2^40 by omega) (show s.holds.length<2^40 by omega))<;>(simp only[go_sem,eq_true f,eq_true g])|apply vT (by omega)|fail
  all_goals first| (exfalso;omega)|exact aP e (dB false) rfl rfl (congrArg dB (MR fun h=>t h.2.L8)).symm
 obtain⟨G,z⟩:=eW f;repeat' first| (first|apply vI|apply lE v|apply qP (show s.words.length<2^40 by omega) (show s.holds.length<2^40 by omega))<;>(simp only[go_sem,eq_true f,eq_true g,t])|apply vF (by omega)|fail
 have V: ∀k,k<=3->(∀i,i<k->0<=s.asked.getD i default/\s.asked.getD i default<=((c.cN.getD i default).length:Int))->0<=eU (fun j=>s.asked.getD j default) k/\eU (fun j=>s.asked.getD j default) k<=12*k:=fun k L h=>IK (m:=12) (by omega) k fun j b=>by have:=h j b;have:=z j;(try dsimp only);omega
 (refine aJ.loop (α:={k:Nat//k<=3/\(∀i,i<k->0<=s.asked.getD i default/\s.asked.getD i default<=((c.cN.getD i default).length:Int))}) (fun u=>en [(6,dI u.1),(5,dI (eU (fun j=>s.asked.getD j default) u.1)),(3,.one (.c (.fF (eSt s)))),(2,.one (.c (.fF (bI c))))]) (fun _=>.nil) _ (fun u=>3-u.1) ⟨0,by omega,(by intros;first|trivial|omega)⟩ (bF (abG _) (by repeat' first|exact C1|refine xqI rfl rfl ?_| (with_reducible apply C2)| ((with_reducible apply D0);exact CI rfl (by simp) rfl rfl rfl)|fail)) ?_);(rintro⟨k,L,hinv⟩ KL C);have hz:=V k L hinv;by_cases l:k<3
 ·have ao:=z k;have W:eU (fun j=>s.asked.getD j default) (k+1)=eU (fun j=>s.asked.getD j default) k+s.asked.getD k default:=rfl;by_cases hr:0<=s.asked.getD k default/\s.asked.getD k default<=((c.cN.getD k default).length:Int)
  ·repeat' first| (first|apply vI|apply bB)<;>(simp only[go_sem,eq_true hr,G,t];try simp (disch:=omega) only[Iw])|apply vT (by omega)|refine⟨by omega,?_⟩|fail
   all_goals (rw[<-W];(refine C _ _ _ ⟨k+1,by omega,bL hinv hr⟩ (by omega) (by(try dsimp only);omega) (bF (abG _) (by repeat' first|exact C1|refine xqI rfl rfl ?_|fail))))
  ·repeat' first| (first|apply vI|apply bB)<;>(simp only[go_sem,eq_false hr,G,t])|apply vT (by omega)|refine⟨by omega,?_⟩|fail
   all_goals exact aP e (dB false) rfl rfl (congrArg dB (MR fun h=>hr (h.2.JO k l))).symm
 have X:k=3:=by omega
 subst X;have d:Js c s.asked:=hinv;have Y:eU (fun j=>s.asked.getD j default) 3=s.asked.getD 0 default+s.asked.getD 1 default+s.asked.getD 2 default:=by simp[eU]
 have o: ∀{H:aA} {nx:Nat} {K:afC},K (dB (SA c s.asked s.wait false)) H nx->afB nZ [dA (bI c),dS (s.asked.map aH),dS (s.wait.map aT),dB false] H nx K:=fun h=>PR f t d O T h;have x: ∀{H:aA} {nx:Nat} {K:afC},K (dB (SA c s.asked s.done true)) H nx->afB nZ [dA (bI c),dS (s.asked.map aH),dS (s.done.map aT),dB true] H nx K:=fun h=>PR f t d S U h;by_cases hw:SF c s.asked s.wait false
 case neg=>
  have E:=tv hw;repeat' first| (first|apply vI|apply o)<;>(simp only[go_sem,E])|apply vF (by omega)|fail
  all_goals exact aP e (dB false) rfl rfl (congrArg dB (MR fun h=>hw h.2.Zj)).symm
 by_cases y:SF c s.asked s.done true
 case neg=>
  have E:=XM hw;have I:=tv y;repeat' first| (first|apply vI|apply o|apply x)<;>(simp only[go_sem,E,I])|apply vF (by omega)|fail
  all_goals exact aP e (dB false) rfl rfl (congrArg dB (MR fun h=>y h.2.aaA)).symm
 have E:=XM hw;have I:=XM y;by_cases M:qm c s
 case neg=>
  have N:=Ft M;repeat' first| (first|apply vI|apply o|apply x|apply HC f t d A B)<;>(simp only[go_sem,E,I,N])|apply vF (by omega)|fail
  all_goals exact aP e (dB false) rfl rfl (congrArg dB (MR fun h=>M h.2.aaH)).symm
 have N:=Fs M;by_cases hc:(s.wait.length:Int)+s.done.length+s.told.length=s.asked.getD 0 default+s.asked.getD 1 default+s.asked.getD 2 default
 case neg=>
  repeat' first| (first|apply vI|apply o|apply x|apply HC f t d A B)<;>(simp only[go_sem,E,I,N];try simp (disch:=omega) only[Iw])|apply vT (by omega)|apply vF (by omega)|fail
  all_goals first| (exfalso;omega)|exact aP e (dB false) rfl rfl (congrArg dB (MR fun h=>hc h.2.count)).symm
 repeat' first| (first|apply vI|apply o|apply x|apply HC f t d A B)<;>(simp only[go_sem,E,I,N];try simp (disch:=omega) only[Iw])|apply vF (by omega)|fail
 refine aJ.loop (α:={k:Nat//k<=s.told.length/\ ∀i,i<k->key (s.told.getD i default)∉s.wait.map key/\key (s.told.getD i default)∉s.done.map key}) (fun u=>en [(7,dI u.1),(3,.one (.c (.fF (eSt s))))]) (fun _=>.nil) _ (fun u=>s.told.length-u.1) ⟨0,by omega,fun i hi=>by omega⟩ (bF (abG _) (by repeat' first|exact C1|refine xqI rfl rfl ?_|fail)) ?_;rintro⟨k,L,p⟩ KL C;by_cases l:k<s.told.length
 ·obtain⟨j,b⟩: ∃j,j=s.told.getD k default:=⟨_,rfl⟩
  have a:=b.symm;have hm:j∈s.told:=by rw[b];exact bT l
  by_cases J:0<=bP (iJ j.who j.n) s.wait
  ·repeat' first| (first|apply vI|apply Y4 (by omega)|apply lG (show s.wait.length<2^40 by omega))<;>(simp only[go_sem,a])|apply vT (by omega)|refine⟨by omega,?_⟩|fail
   all_goals first| (exfalso;omega)|exact aP e (dB false) rfl rfl (congrArg dB (MR fun h=>(h.2.apart.2.1 j hm).1 (rS.1 J))).symm
  ·by_cases h2:0<=bP (iJ j.who j.n) s.done
   ·repeat' first| (first|apply vI|apply Y5 (by omega)|apply lG (show s.wait.length<2^40 by omega)|apply lG (show s.done.length<2^40 by omega))<;>(simp only[go_sem,a])|apply vT (by omega)|refine⟨by omega,?_⟩|fail
    all_goals first| (exfalso;omega)|exact aP e (dB false) rfl rfl (congrArg dB (MR fun h=>(h.2.apart.2.1 j hm).2 (rS.1 h2))).symm
   ·repeat' first| (first|apply vI|apply Y5 (by omega)|apply lG (show s.wait.length<2^40 by omega)|apply lG (show s.done.length<2^40 by omega))<;>(simp only[go_sem,a];try simp (disch:=omega) only[Iw])|apply vT (by omega)|apply vF (by omega)|refine⟨by omega,?_⟩|fail
    all_goals first| (exfalso;omega)|exact C _ _ _ ⟨k+1,by omega,bL p (by rw[a];exact⟨fun h=>J (rS.2 h),fun h=>h2 (rS.2 h)⟩)⟩ (by omega) (by(try dsimp only);omega) (bF (abG _) (by repeat' first|exact C1|refine xqI rfl rfl ?_|fail))
 ·have F:k=s.told.length:=by omega
  subst F;repeat' first|apply vI<;>(simp only[go_sem])|apply vF (by omega)|fail
  refine aJ.loop (α:={k:Nat//k<=s.done.length/\ ∀i,i<k->key (s.done.getD i default)∉s.wait.map key}) (fun u=>en [(8,dI u.1),(3,.one (.c (.fF (eSt s))))]) (fun _=>.nil) _ (fun u=>s.done.length-u.1) ⟨0,by omega,fun i hi=>by omega⟩ (bF (abG _) (by repeat' first|exact C1|refine xqI rfl rfl ?_|fail)) ?_;rintro⟨k,L,q⟩ KM Z;by_cases l:k<s.done.length
  ·obtain⟨j,b⟩: ∃j,j=s.done.getD k default:=⟨_,rfl⟩
   have a:=b.symm;have hm:j∈s.done:=(by rw[b];exact bT l);by_cases J:0<=bP (iJ j.who j.n) s.wait
   ·repeat' first| (first|apply vI|apply lG (show s.wait.length<2^40 by omega))<;>(simp only[go_sem,a])|apply vT (by omega)|refine⟨by omega,?_⟩|fail
    all_goals first| (exfalso;omega)|exact aP e (dB false) rfl rfl (congrArg dB (MR fun h=>(h.2.apart.2.2 j hm) (rS.1 J))).symm
   ·repeat' first| (first|apply vI|apply lG (show s.wait.length<2^40 by omega))<;>(simp only[go_sem,a];try simp (disch:=omega) only[Iw])|apply vT (by omega)|apply vF (by omega)|refine⟨by omega,?_⟩|fail
    all_goals first| (exfalso;omega)|exact Z _ _ _ ⟨k+1,by omega,bL q (by rw[a];exact fun h=>J (rS.2 h))⟩ (by omega) (by(try dsimp only);omega) (bF (abG _) (by repeat' first|exact C1|refine xqI rfl rfl ?_|fail))
  ·have F:k=s.done.length:=(by omega);subst F;have aa:oD c s:=Aw g t d hw y M hc (iK (P:=fun j=>key j∉s.wait.map key/\key j∉s.done.map key) p) (iK (P:=fun j=>key j∉s.wait.map key) q);repeat' first|apply vI<;>(simp only[go_sem])|apply vF (by omega)|fail
   exact aP e (dB true) rfl rfl (congrArg dB (Zr f aa)).symm
end
end Go.Proofs.YtlncecohbakleaaGreat
