/- Texts laid together by a program: rules, contracts and the walk that leads to the law. -/
import Derived.Test.YtlncecohbakleaaGreatPB21
set_option linter.unusedVariables false
set_option linter.unusedSimpArgs false
set_option linter.unusedSectionVars false
set_option maxRecDepth 100000
set_option maxHeartbeats 8000000
namespace Go.Proofs.YtlncecohbakleaaGreat
open Go Go.AM
attribute [local irreducible] aH wv aC vd wvH
section
variable{H:aA}{nx:Nat}{K:an4}
theorem ZR{d:D1}{w:List Int}{F:Nat->Prop}{k:Int}(b: ∀j,F j->j<nx)(hs:SlS 1 (cY aG) H d w F)(c:w.length<2^21)(n:0<=k)(o:k+total eU w<2^62)
 (h: ∀H' nx',nx<=nx'->SlS 1 (cY aG) H' d (marks eU OS k w) F->(∀j,j<nx->¬F j->H' j=H j)->K (dI (k+total eU w)) H' nx'):an3 zS [.one (.agg [d]),dI k] H nx K:=by
 refine bA.mk Tryz.func240 (by kernel_rfl) WL rfl fun Q e=> ?_
 unfold oH
 repeat' first| (first|apply vI| (refine j8 (F:=F) (fun j a=>by have:=b j a;omega) (hs.frame aN fun j a=>aA.aB (by have:=b j a;omega)) c (by omega) (by omega) (fun H2 f g i l=> ?_)))<;>(simp only[go_sem,nL])|fail
 (try simp only[go_sem,nL,nL]);repeat' first|apply vI<;>(simp only[go_sem,nL,nL])|fail
 exact e _ _ _ _ _ (.inr rfl) rfl (h _ _ (by omega) i fun j p m=>(l j (by omega) m).trans (aA.aB (by omega)))
theorem TZ{d1 d2:D1}{w u:List Int}{F1 F2:Nat->Prop}{k:Int}(v1: ∀j,F1 j->j<nx)(v2: ∀j,F2 j->j<nx)(f:Dis F1 F2)(s1:SlS 1 (cY aG) H d1 w F1)(s2:SlS 1 (cY aG) H d2 u F2)(c:w.length<2^21)(d:u.length<2^21)(y:0<=k)(z:k+total eU w+total eU u<2^62)
 (h: ∀H' nx',nx<=nx'->SlS 1 (cY aG) H' d1 (marks eU OS k w) F1->SlS 1 (cY aG) H' d2 (marks eU OS (k+total eU w) u) F2->(∀j,j<nx->¬F1 j->¬F2 j->H' j=H j)->K (dI (k+total eU w+total eU u)) H' nx'):an3 t8 [.one (.agg [d1,d2]),dI k] H nx K:=by
 refine bA.mk Tryz.func153 (by kernel_rfl) Q7 rfl fun Q n=> ?_
 unfold mM
 repeat' first| (first|apply vI| (refine ZR (F:=F1) (fun j a=>by have:=v1 j a;omega) (s1.frame aN fun j a=>aA.aB (by have:=v1 j a;omega)) c (by omega) (by omega) (fun H2 o p e g=> ?_)))<;>(simp only[go_sem,nL])|fail
 have i:=(g nx (by omega) (fun h=>by have:=v1 nx h;omega)).trans aA.aI
 have b: ∀j,j<nx->¬F1 j->H2 j=H j:=fun j l q=>(g j (by omega) q).trans (aA.aB (by omega))
 (try simp only[go_sem,nL,i,nL]);repeat' first| (first|apply vI| (refine j8 (F:=F2) (fun j a=>by have:=v2 j a;omega) (s2.frame aN fun j a=>b j (v2 j a) (fun h=>f j h a)) d (by omega) (by omega) (fun A r s t m=> ?_)))<;>(simp only[go_sem,nL,i,nL])|fail
 replace e:=e.frame aN fun j a=>m j (by have:=v1 j a;omega) (fun h=>f j a h)
 (try simp only[go_sem,nL,nL]);repeat' first|apply vI<;>(simp only[go_sem,nL,nL])|fail
 exact n _ _ _ _ _ (.inr rfl) rfl (h _ _ (by omega) e t fun j l v x=>(m j (by omega) x).trans (b j l v))
theorem Pp{r:List D1}{x:Cfg}{F:Nat->Prop}{k:Int}(l: ∀j,F j->j<nx)(hs:TG H r x F)(C:pS (2^21) x)(T:0<=k)(D:k+dm x<2^62)
 (h: ∀H' nx',nx<=nx'->TG H' r (Xm k x) F->(∀j,j<nx->¬F j->H' j=H j)->K (dI (k+dm x)) H' nx'):an3 J7 [.one (.agg r),dI k] H nx K:=by
 obtain⟨d1,d2,d3,F1,F2,i,rfl,b⟩:=hs
 obtain⟨m,n,o⟩:=C
 have y:dm x=total iS x.map+total eU x.lat+total mN x.b7:=rfl
 rw[y] at D
 have s1:=b.s1
 have v1: ∀j,F1 j->j<nx:=fun j a=>l j (b.u1 j a)
 have s2:=b.s2
 have v2: ∀j,F2 j->j<nx:=fun j a=>l j (b.u2 j a)
 have s3:=b.s3
 have z: ∀j,i j->j<nx:=fun j a=>l j (b.u3 j a)
 refine bA.mk Tryz.func22 (by kernel_rfl) XB rfl fun Q E=> ?_
 unfold oC
 repeat' first| (first|apply vI| (refine R9 (F:=F1) (fun j a=>by have:=v1 j a;omega) (s1.frame aN fun j a=>aA.aB (by have:=v1 j a;omega)) m (by omega) (by omega) (fun H2 G I d A=> ?_)))<;>(simp only[go_sem,nL])|fail
 have p:=(A nx (by omega) (fun h=>by have:=v1 nx h;omega)).trans aA.aI
 have e: ∀j,j<nx->¬F1 j->H2 j=H j:=fun j c f=>(A j (by omega) f).trans (aA.aB (by omega))
 (try simp only[go_sem,nL,p,nL]);repeat' first| (first|apply vI| (refine j8 (F:=F2) (fun j a=>by have:=v2 j a;omega) (s2.frame aN fun j a=>e j (v2 j a) (fun h=>b.x12 j h a)) n (by omega) (by omega) (fun J L M q s=> ?_)))<;>(simp only[go_sem,nL,p,nL])|fail
 have B:=(s nx (by omega) (fun h=>by have:=v2 nx h;omega)).trans p
 have g: ∀j,j<nx->¬F1 j->¬F2 j->J j=H j:=fun j c f t=>(s j (by omega) t).trans (e j c f)
 replace d:=d.frame aN fun j a=>s j (by have:=v1 j a;omega) (fun h=>b.x12 j a h)
 (try simp only[go_sem,nL,B,nL]);repeat' first| (first|apply vI| (refine UN (F:=i) (fun j a=>by have:=z j a;omega) (s3.frame yH fun j a=>g j (z j a) (fun h=>b.x13 j h a) (fun h=>b.x23 j h a)) o (by omega) (by omega) (fun N O P R u=> ?_)))<;>(simp only[go_sem,nL,B,nL])|fail
 have v: ∀j,j<nx->¬F1 j->¬F2 j->¬i j->N j=H j:=fun j c f t S=>(u j (by omega) S).trans (g j c f t)
 replace d:=d.frame aN fun j a=>u j (by have:=v1 j a;omega) (fun h=>b.x13 j a h)
 replace q:=q.frame aN fun j a=>u j (by have:=v2 j a;omega) (fun h=>b.x23 j a h)
 (try simp only[go_sem,nL,nL]);repeat' first|apply vI<;>(simp only[go_sem,nL,nL])|fail
 exact E _ _ _ _ _ (.inr rfl) (afT (by rw[y];omega)) (h _ _ (by omega) ⟨d1,d2,d3,F1,F2,i,rfl,⟨d,q,R,b.u1,b.u2,b.u3,b.x12,b.x13,b.x23⟩⟩ fun j c w=>v j c (fun h=>w (b.u1 j h)) (fun h=>w (b.u2 j h)) (fun h=>w (b.u3 j h)))
theorem Jy{r:List D1}{x:CSt}{F:Nat->Prop}{k:Int}(l: ∀j,F j->j<nx)(hs:G6 H r x F)(S:jE (2^21) x)(hk:0<=k)(T:k+BG x<2^62)
 (h: ∀H' nx',nx<=nx'->G6 H' r (Mr k x) F->(∀j,j<nx->¬F j->H' j=H j)->K (dI (k+BG x)) H' nx'):an3 FT [.one (.agg r),dI k] H nx K:=by
 obtain⟨d1,d2,d3,U,V,F1,F2,i,m,y,rfl,b⟩:=hs
 obtain⟨⟨A,B⟩,C,D,E⟩:=S
 have N:BG x=total eU x.words+total eU x.holds+total gW x.bE+total fX x.bM+total gQ x.told:=rfl
 rw[N] at T
 have s1:=b.s1
 have v1: ∀j,F1 j->j<nx:=fun j a=>l j (b.u1 j a)
 have s2:=b.s2
 have v2: ∀j,F2 j->j<nx:=fun j a=>l j (b.u2 j a)
 have s3:=b.s3
 have n: ∀j,i j->j<nx:=fun j a=>l j (b.u3 j a)
 have s4:=b.s4
 have v4: ∀j,m j->j<nx:=fun j a=>l j (b.u4 j a)
 have s5:=b.s5
 have O: ∀j,y j->j<nx:=fun j a=>l j (b.u5 j a)
 refine bA.mk Tryz.func60 (by kernel_rfl) RH rfl fun Q W=> ?_
 unfold mH
 repeat' first| (first|apply vI| (refine TZ (F1:=F1) (F2:=F2) (fun j a=>by have:=v1 j a;omega) (fun j a=>by have:=v2 j a;omega) b.x12 (s1.frame aN fun j a=>aA.aB (by have:=v1 j a;omega)) (s2.frame aN fun j a=>aA.aB (by have:=v2 j a;omega)) A B (by omega) (by omega) (fun H2 X Y d e P=> ?_)))<;>(simp only[go_sem,nL])|fail
 have G:=(P nx (by omega) (fun h=>by have:=v1 nx h;omega) (fun h=>by have:=v2 nx h;omega)).trans aA.aI
 have o: ∀j,j<nx->¬F1 j->¬F2 j->H2 j=H j:=fun j c f g=>(P j (by omega) f g).trans (aA.aB (by omega))
 (try simp only[go_sem,nL,G,nL]);repeat' first| (first|apply vI| (refine UO (F:=i) (fun j a=>by have:=n j a;omega) (s3.frame iZ fun j a=>o j (n j a) (fun h=>b.x13 j h a) (fun h=>b.x23 j h a)) C (by omega) (by omega) (fun Z aa ab p z=> ?_)))<;>(simp only[go_sem,nL,G,nL])|fail
 have I:=(z nx (by omega) (fun h=>by have:=n nx h;omega)).trans G
 have q: ∀j,j<nx->¬F1 j->¬F2 j->¬i j->Z j=H j:=fun j c f g s=>(z j (by omega) s).trans (o j c f g)
 replace d:=d.frame aN fun j a=>z j (by have:=v1 j a;omega) (fun h=>b.x13 j a h)
 replace e:=e.frame aN fun j a=>z j (by have:=v2 j a;omega) (fun h=>b.x23 j a h)
 (try simp only[go_sem,nL,I,nL]);repeat' first| (first|apply vI| (refine R7 (F:=m) (fun j a=>by have:=v4 j a;omega) (s4.frame kN fun j a=>q j (v4 j a) (fun h=>b.x14 j h a) (fun h=>b.x24 j h a) (fun h=>b.x34 j h a)) D (by omega) (by omega) (fun H4 ad ao J t=> ?_)))<;>(simp only[go_sem,nL,I,nL])|fail
 have R:=(t nx (by omega) (fun h=>by have:=v4 nx h;omega)).trans I
 have u: ∀j,j<nx->¬F1 j->¬F2 j->¬i j->¬m j->H4 j=H j:=fun j c f g s L=>(t j (by omega) L).trans (q j c f g s)
 replace d:=d.frame aN fun j a=>t j (by have:=v1 j a;omega) (fun h=>b.x14 j a h)
 replace e:=e.frame aN fun j a=>t j (by have:=v2 j a;omega) (fun h=>b.x24 j a h)
 replace p:=p.frame iZ fun j a=>t j (by have:=n j a;omega) (fun h=>b.x34 j a h)
 (try simp only[go_sem,nL,R,nL]);repeat' first| (first|apply vI| (refine IC (F:=y) (fun j a=>by have:=O j a;omega) (s5.frame kP fun j a=>u j (O j a) (fun h=>b.x15 j h a) (fun h=>b.x25 j h a) (fun h=>b.x35 j h a) (fun h=>b.x45 j h a)) E (by omega) (by omega) (fun H5 az br t5 v=> ?_)))<;>(simp only[go_sem,nL,R,nL])|fail
 have M: ∀j,j<nx->¬F1 j->¬F2 j->¬i j->¬m j->¬y j->H5 j=H j:=fun j c f g s L g5=>(v j (by omega) g5).trans (u j c f g s L)
 replace d:=d.frame aN fun j a=>v j (by have:=v1 j a;omega) (fun h=>b.x15 j a h)
 replace e:=e.frame aN fun j a=>v j (by have:=v2 j a;omega) (fun h=>b.x25 j a h)
 replace p:=p.frame iZ fun j a=>v j (by have:=n j a;omega) (fun h=>b.x35 j a h)
 replace J:=J.frame kN fun j a=>v j (by have:=v4 j a;omega) (fun h=>b.x45 j a h)
 (try simp only[go_sem,nL,nL]);repeat' first|apply vI<;>(simp only[go_sem,nL,nL])|fail
 exact W _ _ _ _ _ (.inr rfl) (afT (by rw[N];omega)) (h _ _ (by omega) ⟨d1,d2,d3,U,V,F1,F2,i,m,y,rfl,⟨d,e,p,J,t5,b.u1,b.u2,b.u3,b.u4,b.u5,b.x12,b.x13,b.x14,b.x15,b.x23,b.x24,b.x25,b.x34,b.x35,b.x45⟩⟩ fun j c w=>M j c (fun h=>w (b.u1 j h)) (fun h=>w (b.u2 j h)) (fun h=>w (b.u3 j h)) (fun h=>w (b.u4 j h)) (fun h=>w (b.u5 j h)))
theorem Su{r:List D1}{x:CIn}{F:Nat->Prop}{k:Int}(l: ∀j,F j->j<nx)(hs:E4 H r x F)(C:kW (2^21) x)(T:0<=k)(D:k+BQ x<2^62)
 (h: ∀H' nx',nx<=nx'->E4 H' r (En k x) F->(∀j,j<nx->¬F j->H' j=H j)->K (dI (k+BQ x)) H' nx'):an3 M3 [.one (.agg r),dI k] H nx K:=by
 obtain⟨d1,d2,d3,F1,F2,i,rfl,b⟩:=hs
 obtain⟨m,n,o⟩:=C
 have y:BQ x=total l6 x.ready+total l6 x.iP+total l6 x.send:=rfl
 rw[y] at D
 have s1:=b.s1
 have v1: ∀j,F1 j->j<nx:=fun j a=>l j (b.u1 j a)
 have s2:=b.s2
 have v2: ∀j,F2 j->j<nx:=fun j a=>l j (b.u2 j a)
 have s3:=b.s3
 have z: ∀j,i j->j<nx:=fun j a=>l j (b.u3 j a)
 refine bA.mk Tryz.func61 (by kernel_rfl) YS rfl fun Q E=> ?_
 unfold qR
 repeat' first| (first|apply vI| (refine kR (F:=F1) (fun j a=>by have:=v1 j a;omega) (s1.frame aN fun j a=>aA.aB (by have:=v1 j a;omega)) m (by omega) (by omega) (fun H2 G I d A=> ?_)))<;>(simp only[go_sem,nL])|fail
 have p:=(A nx (by omega) (fun h=>by have:=v1 nx h;omega)).trans aA.aI
 have e: ∀j,j<nx->¬F1 j->H2 j=H j:=fun j c f=>(A j (by omega) f).trans (aA.aB (by omega))
 (try simp only[go_sem,nL,p,nL]);repeat' first| (first|apply vI| (refine kR (F:=F2) (fun j a=>by have:=v2 j a;omega) (s2.frame aN fun j a=>e j (v2 j a) (fun h=>b.x12 j h a)) n (by omega) (by omega) (fun J L M q s=> ?_)))<;>(simp only[go_sem,nL,p,nL])|fail
 have B:=(s nx (by omega) (fun h=>by have:=v2 nx h;omega)).trans p
 have g: ∀j,j<nx->¬F1 j->¬F2 j->J j=H j:=fun j c f t=>(s j (by omega) t).trans (e j c f)
 replace d:=d.frame aN fun j a=>s j (by have:=v1 j a;omega) (fun h=>b.x12 j a h)
 (try simp only[go_sem,nL,B,nL]);repeat' first| (first|apply vI| (refine kR (F:=i) (fun j a=>by have:=z j a;omega) (s3.frame aN fun j a=>g j (z j a) (fun h=>b.x13 j h a) (fun h=>b.x23 j h a)) o (by omega) (by omega) (fun N O P R u=> ?_)))<;>(simp only[go_sem,nL,B,nL])|fail
 have v: ∀j,j<nx->¬F1 j->¬F2 j->¬i j->N j=H j:=fun j c f t S=>(u j (by omega) S).trans (g j c f t)
 replace d:=d.frame aN fun j a=>u j (by have:=v1 j a;omega) (fun h=>b.x13 j a h)
 replace q:=q.frame aN fun j a=>u j (by have:=v2 j a;omega) (fun h=>b.x23 j a h)
 (try simp only[go_sem,nL,nL]);repeat' first|apply vI<;>(simp only[go_sem,nL,nL])|fail
 exact E _ _ _ _ _ (.inr rfl) (afT (by rw[y];omega)) (h _ _ (by omega) ⟨d1,d2,d3,F1,F2,i,rfl,⟨d,q,R,b.u1,b.u2,b.u3,b.x12,b.x13,b.x23⟩⟩ fun j c w=>v j c (fun h=>w (b.u1 j h)) (fun h=>w (b.u2 j h)) (fun h=>w (b.u3 j h)))
end
end Go.Proofs.YtlncecohbakleaaGreat
