/- Rules and contracts. -/
import Derived.Test.YtlncecohbakleaaGreatPM13
set_option linter.unusedVariables false
set_option linter.unusedSimpArgs false
set_option maxRecDepth 100000
set_option maxHeartbeats 8000000
namespace Go.AM
theorem vk{H:aA}{nx t:Nat}{o o':bN}(b:H t=some o)(c:CvO H noF id nx o' o):CvX noF nx H (H.set t o'):=yk (t:=t) (o':=o') (fun j a=>a.elim) aA.aJ b (fun h=>h) c fun j a _=>aA.aB a
def Bd(H:aA)(F:Nat->Prop)(σ:Nat->Nat)(nh:Nat)(R' R:List (List D1)):Prop:=R'.length=R.length/\ ∀(i:Nat) (r' r:List D1),R'[i]?=some r'->R[i]?=some r->CvL H F σ nh r' r
section
variable {H : aA} {F : Nat -> Prop} {σ : Nat -> Nat} {nh : Nat} {R R' S S' : List (List D1)} {r r' : List D1}
theorem Sp:Bd H F σ nh [] []:=⟨rfl,fun i r' r h=>by simp at h⟩
theorem uw(h:CvL H F σ nh r' r)(e:Bd H F σ nh R' R):Bd H F σ nh (r'::R') (r::R):=by
 refine⟨by simp[e.1],fun i a b c d=> ?_⟩
 match i with
 |0=>simp at c d;subst c;subst d;exact h
 |i+1=>simp at c d;exact e.2 i a b c d
theorem Oh(e: ∀r∈R,∀x∈r,x.eW=true):Bd H F σ nh R R:=⟨rfl,fun i a b c d=>by
 rw[c] at d;cases d
 exact xV fun x f=>e a (adI c) x f⟩
theorem Qw(h:Bd H F σ nh R' R)(e:Bd H F σ nh S' S):Bd H F σ nh (R'++S') (R++S):=by
 refine⟨by simp[h.1,e.1],fun i a b c d=> ?_⟩;rw[adU] at c d;rw[h.1] at c;by_cases hi:i<R.length;·rw[if_pos hi] at c d;exact h.2 i a b c d
 ·rw[if_neg hi] at c d;exact e.2 _ a b c d
theorem aaY{n m:Nat}(h:Bd H F σ nh R' R):CvO H F σ nh ⟨n,m,R'⟩ ⟨n,m,R⟩:=by
 refine⟨rfl,rfl,Nat.le_of_eq h.1,fun _ b=> ?_,fun i a c=> ?_⟩;·dsimp only at b ⊢;have:=h.1;rw[b] at this;exact aeG.1 this.symm
 ·have hi:i<R.length:=by rw[<-h.1];exact(adB.1 c).1
  exact⟨R[i],ac8 hi,h.2 i a _ c (ac8 hi)⟩
end
theorem aK.ab5{P:Program}{T:Nat}{e:Env}{H:aA}{nx:Nat}{Q:AQ}{x y:AC}{zs:List AC}{β:Type}(E:β->Env)(Φ:β->aA->Nat->Prop)
 (h: ∀K:Env->aA->Nat->Prop,(∀e' H' nx' b F H2,nx<=nx'->CvE H' F id nx' (E b) e'->CvX F nx' H' H2->Φ b H2 nx'->K e' H' nx')->aK P T [x] e H nx (AQ.then K Q))
 (i: ∀b H1 a,nx<=a->Φ b H1 a->aK P T (y::zs) (E b) H1 a Q):aK P T (.seq x y::zs) e H nx Q:=by
 refine aK.seq (aK.cut (fun e' H' nx'=>nx<=nx'/\ ∃b F H2,CvE H' F id nx' (E b) e'/\CvX F nx' H' H2/\Φ b H2 nx') (h _ fun e' H' nx' b F H2 c d f g=>⟨c,b,F,H2,d,f,g⟩) fun e' H' nx' _ ⟨c,b,F,H2,d,f,g⟩=> ?_)
 exact aK.qC (E b) H2 F (fun t=>.inr (d t)) f (i b H2 nx' c g)
end Go.AM
namespace Go.Proofs.YtlncecohbakleaaGreat
open Go Go.AM
attribute [local irreducible] aK wv aC vd wvH
section
variable{H:aA}{nx:Nat}{K:ag2}
theorem NJ{l:List Int}{p i:Nat}(hl:gD l)(cd:p+1000<2^50)(hi:i<nx)(ho:H i=some (rdO l p))
 (h: ∀H' nx' p' (m:List Rng) (I:List Int) (R0:Prog) (Ps:List Prog) bl J M cp mp b0 c0,p<=p'->p'<=p+1000->o9 m->I.length=4/\All I 0 3->Ps.length=2->(∀W∈R0::Ps,W.length<=12/\ ∀q∈W,cR q)->H' i=some (rdO l p')->Own aF 1 H' bl J I->Own dT 7 H' b0 c0 R0->H' M=some ⟨1,mp,[.osl 7 b0 0 R0.length c0]::Ps.map kX⟩->3<=cp->cp<=mp->nx<=bl->nx<=M->nx<=b0->bl<nx'->M<nx'->b0<nx'->[bl,M,b0].Nodup->(∀id,id<nx->id≠i->H' id=H id)->
  K (dA [.isl (m.map cY),.osl 1 bl 0 4 J,.osl 1 M 0 3 cp]) H' nx'):ag1 sH [dP 2 i,dI 6] H nx K:=by
 refine bW.mk Tryz.func200 (by kernel_rfl) Z9 rfl fun Q hQ=> ?_
 unfold wB
 have N:aT nx [i]:=AM.apart (by simp) (by simp;omega)
 simp only[aT,bM] at N
 repeat' first| (first|apply vI| (refine kz (p:=p) hl (by omega) (by omega) (by rw[aA.aB (by omega)];exact ho) (fun pm m ei ej aa=> ?_)))<;>(simp only[go_sem,nL,N])|fail
 apply aK.oB 1
 refine aK.ec fun z f=> ?_
 have B:z i=some (rdO l pm):=by rw[f];exact(by simp only[aA.set,aA.del,ac2,Nat.reduceAdd,ac4,Nat.reduceEqDiff,ac3,ac5,if_true,if_false,N];done)
 have C:z nx=some ⟨3,1,[[.osl 0 0 0 0 0,.osl 0 0 0 0 0,.osl 0 0 0 0 0]]⟩:=by rw[f];exact(by simp only[aA.set,aA.del,ac2,Nat.reduceAdd,ac4,Nat.reduceEqDiff,ac3,ac5,if_true,if_false,N];done)
 have D:z (nx+4)=some ⟨3,1,[[.isl (m.map cY),.osl 0 0 0 0 0,.osl 0 0 0 0 0]]⟩:=by rw[f];exact(by simp only[aA.set,aA.del,ac2,Nat.reduceAdd,ac4,Nat.reduceEqDiff,ac3,ac5,if_true,if_false,N];done)
 have L:z (nx+7)=some ⟨1,0,[]⟩:=by rw[f];exact(by simp only[aA.set,aA.del,ac2,Nat.reduceAdd,ac4,Nat.reduceEqDiff,ac3,ac5,if_true,if_false,N];done)
 have O: ∀id,id<nx->id≠i->z id=H id:=fun id s g=>by rw[f,aA.aB (by omega),aA.aB (by omega),aA.aB g,aA.aB (by omega)]
 clear f
 refine aK.cW (β:=Nat×Nat×List Int×Nat×Nat) (fun u=>en [(6,dI u.1),(5,dP 3 (nx+4)),(4,dP 3 nx),(1,dI 6),(0,dP 2 i)])
  (fun u H1 d=>(u.1<=4/\p<=u.2.1/\u.2.1<=p+8+u.1/\u.2.2.1.length=u.1/\nx+7<=u.2.2.2.1/\u.2.2.2.1<d)/\H1 i=some (rdO l u.2.1)/\H1 nx=some ⟨3,1,[[.osl 0 0 0 0 0,.osl 0 0 0 0 0,.osl 0 0 0 0 0]]⟩/\H1 (nx+4)=some ⟨3,1,[[.isl (m.map cY),.osl 1 u.2.2.2.1 0 u.1 u.2.2.2.2,.osl 0 0 0 0 0]]⟩/\Own aF 1 H1 u.2.2.2.1 u.2.2.2.2 u.2.2.1/\All u.2.2.1 0 3/\ ∀id,id<nx->id≠i->H1 id=H id)
  (fun u=>4-u.1) (0,pm,[],nx+7,0) ⟨noF,z.set (nx+4) ⟨3,1,[[.isl (m.map cY),.osl 1 (nx+7) 0 0 0,.osl 0 0 0 0 0]]⟩,by repeat' first|exact C1|refine xqI rfl rfl ?_|refine xqP (by omega) rfl rfl ?_|fail,vk D (aW (aH (bE rfl) (aH (.GO _ _ _ _ _ _) (aH (.GO _ _ _ _ _ _) cG)))),by dsimp only;simp;omega,(by simp only[aA.set,aA.del,ac2,Nat.reduceAdd,ac4,Nat.reduceEqDiff,ac3,ac5,if_true,if_false,N,B];done),(by simp only[aA.set,aA.del,ac2,Nat.reduceAdd,ac4,Nat.reduceEqDiff,ac3,ac5,if_true,if_false,N,C];done),(by simp only[aA.set,aA.del,ac2,Nat.reduceAdd,ac4,Nat.reduceEqDiff,ac3,ac5,if_true,if_false,N];done),⟨0,(by simp only[aA.set,aA.del,ac2,Nat.reduceAdd,ac4,Nat.reduceEqDiff,ac3,ac5,if_true,if_false,N,L,adQ];done),ac1 _,ac1 _⟩,fun x hx=>absurd hx (by simp),fun id s g=>by rw[aA.aB (by omega)];exact O id s g⟩ ?_
 clear B C D L O
 rintro⟨k,pl,I,bl,J⟩ H1 d X ⟨⟨f1,f2,f3,f4,f5,f6⟩,B,C,D,⟨ml,L,e1,Y⟩,ab,O⟩ KL S
 dsimp only at f1 f2 f3 f4 f5 f6 B C D L e1 Y ab
 have cf:I.take k=I:=ac6 (by omega)
 have a:aT d [i,nx,nx+4,bl]:=AM.apart (by simp;omega) (by simp;omega)
 simp only[aT,bM] at a
 by_cases cq:k<4
 ·have hM: ∀G:aA,msk (d+2) [4] G (nx+4)=G (nx+4):=fun G=>mk1 (by omega);repeat' first| (first|apply vI|refine aO (p:=pl) hl (by omega) (by omega) (by omega) B (fun x s g=> ?_))<;>(simp only[go_sem,nL,B,C,D,L,a,cf,hM];try simp (disch:=omega) only[Iw])|apply vT (by omega)| (with_reducible first|refine fun(cap:Nat) (A:_<=cap)=> ?_|refine fun(ad:_<=cap)=> ?_)|refine⟨by omega,?_⟩|fail
  exact S _ _ _ (k+1,pl+1,I++[x],d+7,cap) noF _ (by omega) (by dsimp only;omega) (by dsimp only;repeat' first|exact C1|refine xqI rfl rfl ?_|refine xqP (by omega) rfl rfl ?_|fail) aI ⟨by simp;omega,(by simp only[aA.set,aA.del,ac2,Nat.reduceAdd,ac4,Nat.reduceEqDiff,ac3,ac5,if_true,if_false,a];done),(by simp only[aA.set,aA.del,ac2,Nat.reduceAdd,ac4,Nat.reduceEqDiff,ac3,ac5,if_true,if_false,a,C];done),(by simp only[aA.set,aA.del,ac2,Nat.reduceAdd,ac4,Nat.reduceEqDiff,ac3,ac5,if_true,if_false,a];done),⟨cap,(by simp only[aA.set,aA.del,ac2,Nat.reduceAdd,ac4,Nat.reduceEqDiff,ac3,ac5,if_true,if_false,a];done),by simp;omega,ac1 _⟩,jj ab (by omega) (by omega),fun id s g=>by rw[aA.aB (by omega),aA.aB (by omega),aA.aB (by omega),aA.aB g,aA.cL (by omega)];exact O id s g⟩
 have ct:k=4:=by omega
 subst ct
 have cv:=f4
 repeat' first|apply vI<;>(simp only[go_sem,ac2])|apply vF (by omega)|fail
 apply aK.oB 1
 refine aK.ec fun z f=> ?_
 have r0:z i=some (rdO l pl):=by rw[f];exact(by simp only[aA.set,aA.del,ac2,Nat.reduceAdd,ac4,Nat.reduceEqDiff,ac3,ac5,if_true,if_false,a,B];done)
 have r1:z nx=some ⟨3,1,[[.osl 0 0 0 0 0,.osl 0 0 0 0 0,.osl 0 0 0 0 0]]⟩:=by rw[f];exact(by simp only[aA.set,aA.del,ac2,Nat.reduceAdd,ac4,Nat.reduceEqDiff,ac3,ac5,if_true,if_false,a,C];done)
 have r2:z (nx+4)=some ⟨3,1,[[.isl (m.map cY),.osl 1 bl 0 4 J,.osl 0 0 0 0 0]]⟩:=by rw[f];exact(by simp only[aA.set,aA.del,ac2,Nat.reduceAdd,ac4,Nat.reduceEqDiff,ac3,ac5,if_true,if_false,a,D];done)
 have r3:Own aF 1 z bl J I:=⟨ml,by rw[f];exact(by simp only[aA.set,aA.del,ac2,Nat.reduceAdd,ac4,Nat.reduceEqDiff,ac3,ac5,if_true,if_false,a,L];done),e1,Y⟩
 have r4:z (d+3)=some ⟨1,0,[]⟩:=by rw[f];exact(by simp only[aA.set,aA.del,ac2,Nat.reduceAdd,ac4,Nat.reduceEqDiff,ac3,ac5,if_true,if_false,a];done)
 have rf: ∀id,id<nx->id≠i->z id=H id:=fun id s g=>by rw[f,aA.aB (by omega)];exact O id s g
 clear f B C D L O e1 Y
 refine aK.cW (β:=Nat×Nat×(List (List D1)×Nat×Nat)×(Prog×Nat×Nat)×List Prog) (fun u=>en [(7,dI u.1),(5,dP 3 (nx+4)),(4,dP 3 nx),(1,dI 6),(0,dP 2 i)])
  (fun u H1 d=>((u.1<=3/\p<=u.2.1/\u.2.1<=p+12+300*u.1)/\(nx+5<=u.2.2.1.2.1/\u.2.2.1.2.1<d/\bl≠u.2.2.1.2.1/\bl<d))/\H1 i=some (rdO l u.2.1)/\H1 nx=some ⟨3,1,[[.osl 0 0 0 0 0,.osl 0 0 0 0 0,.osl 0 0 0 0 0]]⟩/\H1 (nx+4)=some ⟨3,1,[[.isl (m.map cY),.osl 1 bl 0 4 J,.osl 1 u.2.2.1.2.1 0 u.1 u.2.2.1.2.2]]⟩/\Own aF 1 H1 bl J I/\
   (∃mp,H1 u.2.2.1.2.1=some ⟨1,mp,u.2.2.1.1⟩/\u.1<=u.2.2.1.2.2/\u.2.2.1.2.2<=mp)/\
   (0<u.1->Own dT 7 H1 u.2.2.2.1.2.1 u.2.2.2.1.2.2 u.2.2.2.1.1/\u.2.2.1.1=[.osl 7 u.2.2.2.1.2.1 0 u.2.2.2.1.1.length u.2.2.2.1.2.2]::u.2.2.2.2.map kX/\u.2.2.2.2.length+1=u.1/\(∀W∈u.2.2.2.1.1::u.2.2.2.2,W.length<=12/\ ∀q∈W,cR q)/\nx+5<=u.2.2.2.1.2.1/\u.2.2.2.1.2.1<d/\[bl,u.2.2.1.2.1,u.2.2.2.1.2.1].Nodup)/\(u.1=0->u.2.2.1.1=[])/\ ∀id,id<nx->id≠i->H1 id=H id)
  (fun u=>3-u.1) (0,pl,([],d+3,0),([],0,0),[]) ⟨noF,z.set (nx+4) ⟨3,1,[[.isl (m.map cY),.osl 1 bl 0 4 J,.osl 1 (d+3) 0 0 0]]⟩,by repeat' first|exact C1|refine xqI rfl rfl ?_|refine xqP (by omega) rfl rfl ?_|fail,vk r2 (aW (aH (bE rfl) (aH (.osl _ _ _ _ _ (by omega)) (aH (.GO _ _ _ _ _ _) cG)))),by dsimp only;omega,(by simp only[aA.set,aA.del,ac2,Nat.reduceAdd,ac4,Nat.reduceEqDiff,ac3,ac5,if_true,if_false,a,r0];done),(by simp only[aA.set,aA.del,ac2,Nat.reduceAdd,ac4,Nat.reduceEqDiff,ac3,ac5,if_true,if_false,a,r1];done),(by simp only[aA.set,aA.del,ac2,Nat.reduceAdd,ac4,Nat.reduceEqDiff,ac3,ac5,if_true,if_false,a];done),r3.of (by rw[aA.aB (by omega)]),⟨0,(by simp only[aA.set,aA.del,ac2,Nat.reduceAdd,ac4,Nat.reduceEqDiff,ac3,ac5,if_true,if_false,a,r4];done),ac1 _,ac1 _⟩,fun h=>by dsimp only at h;omega,fun _=>rfl,fun id s g=>by rw[aA.aB (by omega)];exact rf id s g⟩ ?_
 clear r0 r1 r2 r3 r4 rf
 have eo:nx+8<=d:=by omega
 clear X a
 rintro⟨k,pl,⟨rows,M,cp⟩,⟨R0,b0,c0⟩,Ps⟩ H1 d X ⟨⟨⟨f1,f2,f3⟩,f4,f5,f6,f7⟩,B,C,D,L,⟨mp,q4,e1,Y⟩,q5,q6,O⟩ KL S
 dsimp only at f1 f2 f3 f4 f5 f6 f7 B C D L q4 q5 q6 e1 Y
 have a:aT d [i,nx,nx+4,bl,M]:=AM.apart (by simp;omega) (by simp;omega)
 simp only[aT,bM] at a
 by_cases cq:k<3
 ·repeat' first| (first|apply vI| (refine aO (p:=pl) hl (by omega) (by omega) (by omega) (by simp only[aA.set,aA.del,ac2,Nat.reduceAdd,ac4,Nat.reduceEqDiff,ac3,ac5,if_true,if_false,a,B];done) (fun x ep et=> ?_)))<;>(simp only[go_sem,nL,B,C,D,a];try simp (disch:=omega) only[Iw])|apply vT (by omega)|fail
  refine aK.ec fun z f=> ?_;have r0:z i=some (rdO l (pl+1)):=by rw[f];exact(by simp only[aA.set,aA.del,ac2,Nat.reduceAdd,ac4,Nat.reduceEqDiff,ac3,ac5,if_true,if_false,a,B];done)
  have r1:z (d+2)=some ⟨7,0,[]⟩:=by rw[f];exact(by simp only[aA.set,aA.del,ac2,Nat.reduceAdd,ac4,Nat.reduceEqDiff,ac3,ac5,if_true,if_false,a];done)
  have rf: ∀id,id<d->id≠i->z id=H1 id:=fun id s g=>by rw[f,aA.aB g,aA.aB (by omega)]
  clear f
  refine aK.cW (β:=Nat×Nat×Prog×Nat×Nat) (fun u=>en [(9,dI u.1),(8,.one (.c (.osl 7 u.2.2.2.1 0 u.2.2.1.length u.2.2.2.2))),(7,dI k),(5,dP 3 (nx+4)),(4,dP 3 nx),(1,dI 6),(0,dP 2 i)])
   (fun u H2 n=>(u.1<=6/\p<=u.2.1/\u.2.1<=pl+1+41*(6-u.1)/\(∀q∈u.2.2.1,cR q)/\2*u.1+u.2.2.1.length<=12)/\(d<=u.2.2.2.1/\u.2.2.2.1<n)/\H2 i=some (rdO l u.2.1)/\Own dT 7 H2 u.2.2.2.1 u.2.2.2.2 u.2.2.1/\ ∀id,id<d->id≠i->H2 id=H1 id)
   (fun u=>u.1) (x.toNat,pl+1,[],d+2,0) ⟨noF,_,by repeat' first|exact C1|refine xqI rfl rfl ?_|refine xqP (by omega) rfl rfl ?_|refine xqV rfl (by omega) ?_| (with_reducible apply C2)| ((with_reducible apply C0);exact CC)| ((with_reducible apply D0);apply CJ)|fail,aI,⟨by dsimp only;omega,by dsimp only;omega,by dsimp only;omega,fun q hq=>by simp at hq,by simp;omega⟩,by dsimp only;omega,r0,⟨0,r1,ac1 _,ac1 _⟩,rf⟩ ?_
  clear r0 r1 rf;rintro⟨j,pj,rs,b,cr⟩ H2 n cw ⟨⟨g1,g2,g3,g4,g5⟩,⟨g6,g7⟩,Z,⟨mr,s1,d1,d2⟩,P⟩ KN cx;dsimp only at g1 g2 g3 g4 g5 g6 g7 Z s1 d1 d2;have cy:rs.take rs.length=rs:=ad1;have w:aT n [i,b]:=AM.apart (by simp;omega) (by simp;omega);simp only[aT,bM] at w;by_cases hj:0<j
  ·apply aK.seq;repeat' first|apply vR<;>(simp only[go_sem])|apply vT (by omega)|fail
   apply aK.seq;repeat' first| (first|apply vR|refine lh (p:=pj) hl (by omega) (by omega) Z (fun pq q eu ew br=> ?_))<;>(simp only[go_sem,nL,Z,s1,w])|fail
   refine aK.ab5 (β:=Nat×Prog×Nat×Nat) (fun u=>en [(10,dP 7 (n+4)),(9,dI j),(8,.one (.c (.osl 7 u.2.2.1 0 u.2.1.length u.2.2.2))),(7,dI k),(5,dP 3 (nx+4)),(4,dP 3 nx),(1,dI 6),(0,dP 2 i)])
    (fun u H3 T=>(p<=u.1/\u.1<=pj+41/\(∀q∈u.2.1,cR q)/\u.2.1.length<=rs.length+1)/\(d<=u.2.2.1/\u.2.2.1<T/\u.2.2.1≠n+4)/\H3 i=some (rdO l u.1)/\H3 (n+4)=some ⟨7,1,[dT q]⟩/\Own dT 7 H3 u.2.2.1 u.2.2.2 u.2.1/\ ∀id,id<d->id≠i->H3 id=H1 id) (fun KJ ai=> ?_) ?_
   ·repeat' first| (first|apply vI|refine Y6 (fun h=> ?_) fun h=> ?_| (refine aO (p:=pq) hl (by omega) (by omega) (by omega) (by simp only[aA.set,aA.del,ac2,Nat.reduceAdd,ac4,Nat.reduceEqDiff,ac3,ac5,if_true,if_false,w];done) (fun x s g=> ?_)))<;>(simp only[go_sem,nL,Z,s1,w,cy])|refine iR (fun h=> ?_) fun h=> ?_| (with_reducible first|refine fun(cap:Nat) (A:_<=cap)=> ?_|refine fun(ad:_<=cap)=> ?_)|refine⟨by omega,?_⟩|fail
    ·refine ai _ _ _ (pq+1,rs++[⟨q.id,3,q.addr,1,false,[],[]⟩],n+26,cap) noF (aA.set _ (n+26) ⟨7,cap,(rs++[(⟨q.id,3,q.addr,1,false,[],[]⟩:Req)]).map dT⟩) (by omega) (by dsimp only;rw[ac7,List.length_singleton];repeat' first|exact C1|refine xqI rfl rfl ?_|refine xqP (by omega) rfl rfl ?_|refine xqO (by omega) rfl rfl (by rfl) ?_|fail)
      (vk aA.aJ (jb (R:=rs.map dT) (r':=dT ⟨q.id,3,q.addr,1,false,[],[]⟩) (by simp) rfl (fun r hr=>(aG wb rs r hr).2) rfl (aH (bE rfl) (aH (bE rfl) (aH (bE rfl) (aH (bE rfl) (aH (bE rfl) (aH yA (aH yA cG)))))))))
      ⟨⟨by dsimp only;omega,by dsimp only;omega,fun q' v=> ?_,by simp⟩,⟨by dsimp only;omega,by dsimp only;omega,by dsimp only;omega⟩,(by simp only[aA.set,aA.del,ac2,Nat.reduceAdd,ac4,Nat.reduceEqDiff,ac3,ac5,if_true,if_false,w];done),(by simp only[aA.set,aA.del,ac2,Nat.reduceAdd,ac4,Nat.reduceEqDiff,ac3,ac5,if_true,if_false,w];done),⟨cap,aA.aJ,by simpa using A,ac1 _⟩,fun id s g=>by rw[aA.aB (by omega),aA.aB (by omega),aA.aB (by omega),aA.aB (by omega),aA.aB g,aA.cL (by omega)];exact P id s g⟩
     rcases adD.1 v with v|v
     ·exact g4 q' v
     ·simp at v;subst v;exact B7.Kk br
    ·exact ai _ _ _ (pq+1,rs,b,cr) noF _ (by omega) (by dsimp only;repeat' first|exact C1|refine xqI rfl rfl ?_|refine xqP (by omega) rfl rfl ?_|refine xqO (by omega) rfl rfl (by rfl) ?_|fail) aI ⟨⟨by dsimp only;omega,by dsimp only;omega,g4,by dsimp only;omega⟩,⟨by dsimp only;omega,by dsimp only;omega,by dsimp only;omega⟩,(by simp only[aA.set,aA.del,ac2,Nat.reduceAdd,ac4,Nat.reduceEqDiff,ac3,ac5,if_true,if_false,w];done),(by simp only[aA.set,aA.del,ac2,Nat.reduceAdd,ac4,Nat.reduceEqDiff,ac3,ac5,if_true,if_false,w];done),⟨mr,(by simp only[aA.set,aA.del,ac2,Nat.reduceAdd,ac4,Nat.reduceEqDiff,ac3,ac5,if_true,if_false,w,s1];done),d1,d2⟩,fun id s g=>by rw[aA.aB (by omega),aA.aB g];exact P id s g⟩
    all_goals exact ai _ _ _ (pq,rs,b,cr) noF _ (by omega) (by dsimp only;repeat' first|exact C1|refine xqI rfl rfl ?_|refine xqP (by omega) rfl rfl ?_|refine xqO (by omega) rfl rfl (by rfl) ?_|fail) aI ⟨⟨by dsimp only;omega,by dsimp only;omega,g4,by dsimp only;omega⟩,⟨by dsimp only;omega,by dsimp only;omega,by dsimp only;omega⟩,(by simp only[aA.set,aA.del,ac2,Nat.reduceAdd,ac4,Nat.reduceEqDiff,ac3,ac5,if_true,if_false,w];done),(by simp only[aA.set,aA.del,ac2,Nat.reduceAdd,ac4,Nat.reduceEqDiff,ac3,ac5,if_true,if_false,w];done),⟨mr,(by simp only[aA.set,aA.del,ac2,Nat.reduceAdd,ac4,Nat.reduceEqDiff,ac3,ac5,if_true,if_false,w,s1];done),d1,d2⟩,fun id s g=>by rw[aA.aB (by omega),aA.aB g];exact P id s g⟩
   ·rintro⟨pk,rk,bk,ck⟩ H3 T da ⟨⟨u1,u2,u3,u4⟩,⟨u5,u6,u7⟩,v0,v1,⟨mk,v2,w1,w2⟩,vf⟩;dsimp only at u1 u2 u3 u4 u5 u6 u7 v0 v2 w1 w2;have dc:rk.take rk.length=rk:=ad1;have o:aT T [i,bk,n+4]:=AM.apart (by simp;omega) (by simp;omega);simp only[aT,bM] at o;repeat' first|apply vI<;>(simp only[go_sem,nL,v0,v1,v2,o,dc];try simp (disch:=omega) only[Iw])| (with_reducible first|refine fun(cap:Nat) (A:_<=cap)=> ?_|refine fun(ad:_<=cap)=> ?_)|refine⟨by omega,?_⟩|fail
    refine cx _ _ _ (j-1,pk,rk++[q],T+3,cap) noF _ (by omega) (by dsimp only;omega) (by dsimp only;rw[ac7,List.length_singleton];repeat' first|exact C1|refine xqI rfl rfl ?_|refine xqP (by omega) rfl rfl ?_|refine xqO (by omega) rfl rfl (by rfl) ?_|refine xqV rfl (by omega) ?_|fail) aI ⟨⟨by dsimp only;omega,by dsimp only;omega,by dsimp only;omega,fun q' v=> ?_,by simp;omega⟩,⟨by dsimp only;omega,by dsimp only;omega⟩,(by simp only[aA.set,aA.del,ac2,Nat.reduceAdd,ac4,Nat.reduceEqDiff,ac3,ac5,if_true,if_false,o,v0];done),⟨cap,(by simp only[aA.set,aA.del,ac2,Nat.reduceAdd,ac4,Nat.reduceEqDiff,ac3,ac5,if_true,if_false,o];done),by simpa using A,ac1 _⟩,fun id s g=>by rw[aA.aB (by omega),aA.aB (by omega),aA.cL (by omega)];exact vf id s g⟩;rcases adD.1 v with v|v;·exact u3 q' v
    ·simp at v;subst v;exact br
  ·have df:(rs.length:Int)<=12:=(by omega);have s2:=(P (nx+4) (by omega) (by omega)).trans D;have s3:=(P M (by omega) (by omega)).trans q4;have o:aT n [i,b,nx+4,M]:=AM.apart (by simp;omega) (by simp;omega);simp only[aT,bM] at o;have hM: ∀G:aA,msk (n+2) [7] G (nx+4)=G (nx+4):=fun G=>mk1 (by omega)
   have ff:rows.length=k:=by
    by_cases h0:k=0;·rw[q6 h0,h0];rfl
    ·obtain⟨_,e,Y,_⟩:=q5 (by omega);rw[e,List.length_cons,adE];exact Y
   have dh:rows.take k=rows:=ac6 (by omega);have dm:(if (12:Int)<(rs.length:Int) then (12:Int) else (rs.length:Int)).toNat=rs.length:=(by rw[if_neg (by omega)];simp);repeat' first|apply vI<;>(simp only[go_sem,nL,Z,s1,s2,s3,o,hM,dh,dm];try simp (disch:=omega) only[Iw])|apply vF (by omega)| (with_reducible first|refine fun(cap:Nat) (A:_<=cap)=> ?_|refine fun(ad:_<=cap)=> ?_)|refine⟨by omega,?_⟩|fail
   have ca:rs.length<=12/\ ∀q∈rs,cR q:=⟨by omega,g4⟩
   have aj: ∀(G:aA),(∀id,id<nx->id≠i->G id=H2 id)->∀id,id<nx->id≠i->G id=H id:=fun G E id s g=>by rw[E id s g,P id (by omega) g];exact O id s g
   have ao:Own aF 1 H2 bl J I:=L.of (P bl (by omega) (by omega));have s4:=(P nx (by omega) (by omega)).trans C;by_cases h0:k=0
   ·subst h0;rw[q6 rfl]
    exact S _ _ _ (1,pj,([[.osl 7 b 0 rs.length cr]],n+10,cap),(rs,b,cr),[]) noF _ (by omega) (by dsimp only;omega) (by dsimp only;repeat' first|exact C1|refine xqI rfl rfl ?_|refine xqP (by omega) rfl rfl ?_|fail) aI ⟨by dsimp only;omega,(by simp only[aA.set,aA.del,ac2,Nat.reduceAdd,ac4,Nat.reduceEqDiff,ac3,ac5,if_true,if_false,o,Z];done),by rw[aA.aB (by omega),aA.aB (by omega),aA.aB (by omega),aA.cL (by omega)];exact s4,(by simp only[aA.set,aA.del,ac2,Nat.reduceAdd,ac4,Nat.reduceEqDiff,ac3,ac5,if_true,if_false,o];done),ao.of (by rw[aA.aB (by omega),aA.aB (by omega),aA.aB (by omega),aA.cL (by omega)]),⟨cap,(by simp only[aA.set,aA.del,ac2,Nat.reduceAdd,ac4,Nat.reduceEqDiff,ac3,ac5,if_true,if_false,o,List.nil_append];done),by dsimp only;omega,by dsimp only;omega⟩,
     fun _=>⟨⟨mr,(by simp only[aA.set,aA.del,ac2,Nat.reduceAdd,ac4,Nat.reduceEqDiff,ac3,ac5,if_true,if_false,o,s1];done),d1,d2⟩,rfl,rfl,fun W y=>by(simp at y;subst y;exact ca),by dsimp only;omega,by dsimp only;omega,by simp;omega⟩,fun h=>by dsimp only at h;omega,aj _ fun id s g=>by rw[aA.aB (by omega),aA.aB (by omega),aA.aB (by omega),aA.cL (by omega)]⟩
   ·obtain⟨o0,cc,ds,bb,dv,dx,U⟩:=q5 (by omega);generalize E:aA.set _ (nx+4) _=V;have E:=E.symm;have t0:V i=some (rdO l pj):=(by rw[E];exact(by simp only[aA.set,aA.del,ac2,Nat.reduceAdd,ac4,Nat.reduceEqDiff,ac3,ac5,if_true,if_false,o,Z];done));have t1:V nx=some ⟨3,1,[[.osl 0 0 0 0 0,.osl 0 0 0 0 0,.osl 0 0 0 0 0]]⟩:=(by rw[E,aA.aB (by omega),aA.aB (by omega),aA.aB (by omega),aA.cL (by omega)];exact s4);have t2:V (nx+4)=some ⟨3,1,[[.isl (m.map cY),.osl 1 bl 0 4 J,.osl 1 (n+10) 0 (k+1) cap]]⟩:=(by rw[E];exact(by simp only[aA.set,aA.del,ac2,Nat.reduceAdd,ac4,Nat.reduceEqDiff,ac3,ac5,if_true,if_false,o];done));have t3:Own aF 1 V bl J I:=ao.of (by rw[E,aA.aB (by omega),aA.aB (by omega),aA.aB (by omega),aA.cL (by omega)]);have t4:V (n+10)=some ⟨1,cap,rows++[[.osl 7 b 0 rs.length cr]]⟩:=(by rw[E];exact(by simp only[aA.set,aA.del,ac2,Nat.reduceAdd,ac4,Nat.reduceEqDiff,ac3,ac5,if_true,if_false,o];done));have t5:V b=some ⟨7,mr,rs.map dT⟩:=(by rw[E];exact(by simp only[aA.set,aA.del,ac2,Nat.reduceAdd,ac4,Nat.reduceEqDiff,ac3,ac5,if_true,if_false,o,s1];done));have dy:b0≠M:=(by simp at U;omega);have fh:b0≠bl:=(by simp at U;omega);have t6:Own dT 7 V b0 c0 R0:=o0.of (by rw[E,aA.aB (by omega),aA.aB (by omega),aA.aB (by omega),aA.cL dy];exact P b0 (by omega) (by omega));have tf: ∀id,id<nx->id≠i->V id=H id:=aj _ fun id s g=>by rw[E,aA.aB (by omega),aA.aB (by omega),aA.aB (by omega),aA.cL (by omega)]
    clear E Z s1 s2 s3 s4 B C D L q4 ao O P aj
    refine S _ _ _ (k+1,pj,(rows++[kX rs],n+10,cap),(R0,b0,c0),Ps++[rs]) (fun t=>t=b) ((without (fun t=>t=b) V).set (n+10) ⟨1,cap,rows++[kX rs]⟩) (by omega) (by dsimp only;omega) (by dsimp only;repeat' first|exact C1|refine xqI rfl rfl ?_|refine xqP (by omega) rfl rfl ?_|fail)
     (yk (t:=n+10) (o':=⟨1,cap,rows++[kX rs]⟩) (fun j hj=>by have fi:j=b:=hj;rw[aA.aB (by omega)];exact if_pos hj) aA.aJ t4 (by omega) (aaY (Qw (by rw[cc];exact uw (aH (.osl _ _ _ _ _ (by omega)) cG) (Oh fun r hr=>(aG dt _ r hr).2)) (uw (aH (cM wb t5 rfl d1 rfl) cG) Sp))) fun j dz eb=>by rw[aA.aB dz,dM (F:=fun t=>t=b) eb])
     ⟨by dsimp only;omega,by rw[aA.aB (by omega),dM (by omega)];exact t0,by rw[aA.aB (by omega),dM (by omega)];exact t1,by rw[aA.aB (by omega),dM (by omega)];exact t2,t3.of (by rw[aA.aB (by omega),dM (by omega)]),⟨cap,aA.aJ,by dsimp only;omega,ac1 _⟩,
      fun _=>⟨t6.of (by(try dsimp only);rw[aA.aB (by omega),dM (by omega)]),by dsimp only;rw[cc,adF];rfl,by dsimp only;rw[ac7,List.length_singleton];omega,fun W y=> ?_,by dsimp only;omega,by dsimp only;omega,by simp;omega⟩,fun h=>by dsimp only at h;omega,fun id s g=>by rw[aA.aB (by omega),dM (by omega)];exact tf id s g⟩
    rw[<-List.cons_append,adD] at y;rcases y with y|y;·exact bb W y
    ·simp at y;subst y;exact ca
 have ed:k=3:=by omega
 subst ed
 obtain⟨o0,rfl,ds,bb,dv,dx,U⟩:=q5 (by omega)
 repeat' first|apply vI<;>(simp only[go_sem,nL,B,C,D,a])|apply vF (by omega)|fail
 have hh:=fun H'=>h H' (d+4) pl m I R0 Ps bl J M cp mp b0 c0 f2 (by omega) aa ⟨cv,ab⟩ (by omega) bb
 exact hQ _ _ _ _ _ (.inr rfl) (iM (m:=1) rfl aA.aJ rfl) (hh _ (by simp only[aA.set,aA.del,ac2,Nat.reduceAdd,ac4,Nat.reduceEqDiff,ac3,ac5,if_true,if_false,a,B];done) (L.of (by rw[aA.aB (by omega)])) (o0.of (by rw[aA.aB (by omega)])) (by simp only[aA.set,aA.del,ac2,Nat.reduceAdd,ac4,Nat.reduceEqDiff,ac3,ac5,if_true,if_false,a,q4];done) (by omega) Y (by omega) (by omega) (by omega) (by omega) (by omega) (by omega) U fun id s g=>by rw[aA.aB (by omega)];exact O id s g)
theorem ZN{F:Nat->Prop}{a mp b0 c0 c len0:Nat}{b:Prog}{Ps:List Prog}(h:H a=some ⟨1,mp,[.osl 7 b0 0 len0 c0]::Ps.map kX⟩)(d:len0=b.length)(o:Own dT 7 H b0 c0 b)(e:F a)(f:F b0)(hc:Ps.length+1<=c):Frz H F (.isl ((b::Ps).map kX)) (.osl 1 a 0 (Ps.length+1) c):=by
 subst d;obtain⟨m,g,j,k⟩:=o;refine JE e h rfl (by simp) (by simp) hc fun i r' hr=> ?_;rw[aeR]
 match i with
 |0=>simp only[adG,List.getElem?_cons_zero,Option.some.injEq] at hr;subst hr;exact⟨rfl,_,rfl,b9 (F7 (σ:=id) (nh:=0) rfl (cM wb g rfl j f)) xU⟩
 |i+1=>rw[adG,List.getElem?_cons_succ] at hr;have:=aG dt _ _ (adI hr);exact⟨this.1,r',hr,bc this.2⟩
theorem Tw{F:Nat->Prop}{a mp b:Nat}{r:List D1}{Ps:List Prog}(h:H a=some ⟨1,mp,r::Ps.map kX⟩)(c:F a){len:Nat}(hl:len=Ps.length)(hc:len<=b):Frz H F (.isl (Ps.map kX)) (.osl 1 a 1 len b):=by subst hl;refine JE c h rfl (by simp) (by simp;omega) hc fun i r' hr=> ?_;have:=aG dt _ _ (adI hr);exact⟨this.1,r',by rw[afP];exact hr,bc this.2⟩
theorem Xe{m:List Rng}{c:List Int}{P:List Prog}(f:m.length<=8)(g:c.length<=4)(h:P.length<=3)(d: ∀b∈P,b.length<=13/\ ∀q∈b,q.data.length<=8/\q.lanes.length<=8):jJ ⟨m,c,P⟩:=⟨by dsimp only;omega,by dsimp only;omega,by dsimp only;omega,fun b a=>by have:=(d b a).1;omega,fun b a q e=>by have:=(d b a).2 q e;omega⟩
theorem Ko{q:Req}(h:cR q):q.data.length<=8/\q.lanes.length<=8:=by obtain⟨_,_,⟨c,_⟩,a,b,_⟩:=h;unfold oE at a b;split at a<;>omega
theorem YC{l:List Int}{p i:Nat}{n:Int}(hn:0<n/\n<9000)(hl:gD l)(bk:p+1200<2^50)(hi:i<nx)(ho:H i=some (rdO l p))
 (h: ∀H' nx' p' (c:Cfg),nx<=nx'->jJ c->p<=p'->p'<=p+1200->H' i=some (rdO l p')->(∀id,id<nx->id≠i->H' id=H id)->K (dA (bO c)) H' nx'):ag1 CY [dP 2 i,dI n] H nx K:=by
 apply aC.qC
 refine bW.mk Tryz.func117 (by kernel_rfl) VG rfl fun Q hQ=> ?_
 unfold qN
 have hA:aT nx [i]:=AM.apart (by simp) (by simp;omega)
 simp only[aT,bM] at hA
 repeat' first| (first|apply vI| (refine NJ (p:=p) hl (by omega) (by omega) (by rw[aA.aB (by omega)];exact ho) (fun H1 f pb m P s Ps bl cl t cp mp b0 c0 g e h3 h4 h5 T E B I C e1 e2 u1 u2 u3 u4 u5 u6 br N=> ?_)))<;>(simp only[go_sem,nL,hA])|fail
 have h3:=h3.1
 have h4:=h4.1
 have T: ∀w∈s::Ps,w.length<=12/\ ∀q∈w,q.data.length<=8/\q.lanes.length<=8:=fun w b=>⟨(T w b).1,fun q hq=>Ko ((T w b).2 q hq)⟩
 have J:H1 nx=some ⟨3,1,[[.osl 0 0 0 0 0,.osl 0 0 0 0 0,.osl 0 0 0 0 0]]⟩:=by rw[N _ (by omega) (by omega)];exact aA.aJ
 have N: ∀id,id<nx->id≠i->H1 id=H id:=fun id g e=>by rw[N id (by omega) e,aA.aB (by omega)]
 have cr: ¬bl=t/\ ¬bl=b0/\ ¬t=b0:=by simp at br;omega
 generalize u:H1.set (nx+3) _=G
 have u:=u.symm
 have r0:G i=some (rdO l pb):=by rw[u,aA.aB (by omega)];exact E
 have r1:G nx=some ⟨3,1,[[.osl 0 0 0 0 0,.osl 0 0 0 0 0,.osl 0 0 0 0 0]]⟩:=by rw[u,aA.aB (by omega)];exact J
 have r2:G (nx+3)=some ⟨3,1,[[.isl (m.map cY),.osl 1 bl 0 4 cl,.osl 1 t 0 3 cp]]⟩:=by rw[u];exact aA.aJ
 obtain⟨ml,r3,d1,d2⟩:Own aF 1 G bl cl P:=B.of (by rw[u,aA.aB (by omega)])
 have r4:G t=some ⟨1,mp,[.osl 7 b0 0 s.length c0]::Ps.map kX⟩:=by rw[u,aA.aB (by omega)];exact C
 obtain⟨mr,r5,d3,d4⟩:Own dT 7 G b0 c0 s:=I.of (by rw[u,aA.aB (by omega)])
 have rf: ∀id,id<nx->id≠i->G id=H id:=fun id g e=>by rw[u,aA.aB (by omega)];exact N id g e
 clear u E J B C I N
 have a:aT f [i,nx,nx+3,bl,t,b0]:=AM.apart (by simp;omega) (by simp;omega)
 simp only[aT,bM] at a
 have A: ∀(o:aA) (X:Nat) (m':List Rng) (Y:List Int) (P':List Prog) (d1 d2 d3:D1) (R:Nat) (F:Nat->Prop),f<=X->o nx=some ⟨3,1,[[d1,d2,d3]]⟩->m'.length<=8->Y.length<=4->P'.length<=3->(∀w∈P',w.length<=13/\ ∀q∈w,q.data.length<=8/\q.lanes.length<=8)->p<=R->R<=p+1200->o i=some (rdO l R)->(∀id,id<nx->id≠i->o id=H id)->(∀j,F j->nx+5<=j)->Frz o F (.isl (m'.map cY)) d1->Frz o F (.isl (Y.map aF)) d2->Frz o F (.isl (P'.map kX)) d3->
  ∀{e2:Env},e2 4= .one (.c (.ptr 3 nx 0 0))->Q .ret e2 o X:=fun o X m' Y P' d1 d2 d3 R F g1 g2 g3 g4 g5 g6 g7 g8 g9 ca ab cc cd cf e2 he=>by
  refine hQ _ _ _ _ _ (.inr rfl) (iM (m:=1) he g2 rfl) ⟨dA (bO ⟨m',Y,P'⟩),without F o,F,CL (b9 cc (b9 cd (b9 cf xU))),kK,h _ X R _ (by omega) (Xe g3 g4 g5 g6) g7 g8 (by rw[dM fun Z=>by have:=ab _ Z;omega];exact g9) fun id g e=>by rw[dM fun Z=>by have:=ab _ Z;omega];exact ca id g e⟩
 have fl: ∀(o:aA) (F:Nat->Prop) (L:List Int),L.length=4->o bl=some ⟨1,ml,L.map aF⟩->F bl->Frz o F (.isl (L.map aF)) (.osl 1 bl 0 4 cl):=fun o F L h0 g e=>F7 (σ:=id) (nh:=0) rfl (cM aP g h0.symm (by omega) e)
 have fp: ∀(o:aA) (F:Nat->Prop),o t=some ⟨1,mp,[.osl 7 b0 0 s.length c0]::Ps.map kX⟩->o b0=some ⟨7,mr,s.map dT⟩->F t->F b0->Frz o F (.isl ((s::Ps).map kX)) (.osl 1 t 0 3 cp):=fun o F g e h7 h8=>by have:=ZN (F:=F) g rfl ⟨mr,e,d3,d4⟩ h7 h8 (show Ps.length+1<=cp by omega);rwa [show Ps.length+1=3 by omega] at this
 (try simp only[go_sem,nL,r0,r1,r2,r3,r4,r5,a]);repeat' first| (first|apply vI|refine gN (p:=pb) hn hl (by omega) (by omega) r0 (fun W bb ad ai _=> ?_))<;>(simp only[go_sem,nL,r0,r1,r2,r3,r4,r5,a])| ((refine CK (fun h=> ?_) (fun h=> ?_))<;>try subst h)|fail
 case refine_2=>exact A _ _ m P (s::Ps) _ _ _ W (fun j=>j=bl\/j=t\/j=b0) (by omega) aA.aJ (by omega) (by omega) (by simp;omega) (fun w b=>by have:=T w b;exact⟨by omega,this.2⟩) (by omega) (by omega) (by simp only[aA.set,aA.del,ac2,Nat.reduceAdd,ac4,Nat.reduceEqDiff,ac3,ac5,if_true,if_false,a];done) (fun id g e=>by rw[aA.aB (by omega),aA.aB e];exact rf id g e) (fun j Z=>by omega) (.same _ rfl) (fl _ _ _ h4 (by simp only[aA.set,aA.del,ac2,Nat.reduceAdd,ac4,Nat.reduceEqDiff,ac3,ac5,if_true,if_false,a,r3];done) (.inl rfl)) (fp _ _ (by simp only[aA.set,aA.del,ac2,Nat.reduceAdd,ac4,Nat.reduceEqDiff,ac3,ac5,if_true,if_false,a,r4];done) (by simp only[aA.set,aA.del,ac2,Nat.reduceAdd,ac4,Nat.reduceEqDiff,ac3,ac5,if_true,if_false,a,r5];done) (.inr (.inl rfl)) (.inr (.inr rfl))) rfl
 generalize u:aA.set G i _=o
 have u:=u.symm
 have E:o i=some (rdO l W):=by rw[u];exact aA.aJ
 have J:o nx=some ⟨3,1,[[.osl 0 0 0 0 0,.osl 0 0 0 0 0,.osl 0 0 0 0 0]]⟩:=by rw[u,aA.aB (by omega)];exact r1
 have S:o (nx+3)=some ⟨3,1,[[.isl (m.map cY),.osl 1 bl 0 4 cl,.osl 1 t 0 3 cp]]⟩:=by rw[u,aA.aB (by omega)];exact r2
 have B:o bl=some ⟨1,ml,P.map aF⟩:=by rw[u,aA.aB (by omega)];exact r3
 have C:o t=some ⟨1,mp,[.osl 7 b0 0 s.length c0]::Ps.map kX⟩:=by rw[u,aA.aB (by omega)];exact r4
 have I:o b0=some ⟨7,mr,s.map dT⟩:=by rw[u,aA.aB (by omega)];exact r5
 have N: ∀id,id<nx->id≠i->o id=H id:=fun id g e=>by rw[u,aA.aB e];exact rf id g e
 clear u r0 r1 r2 r3 r4 r5 rf
 have O: ∀(d k:Nat) (G:aA),msk (f+d) [k] G (nx+3)=G (nx+3):=fun d k G=>mk1 (by omega)
 refine aO (p:=W) hl (by omega) (by omega) (by omega) E fun x g e=> ?_
 (try simp only[go_sem,nL,E,J,S,B,C,I,a,O]);repeat' first| (first|apply vI|refine fg (p:=W+1) hl (by omega) (by omega) aA.aJ (fun p2 m2 ad ai aj=> ?_))<;>(simp only[go_sem,nL,E,J,S,B,C,I,a,O])|refine iR (fun h=> ?_) fun h=> ?_|refine⟨by omega,?_⟩|fail
 ·exact A _ _ m2 P (s::Ps) _ _ _ p2 (fun j=>j=bl\/j=t\/j=b0) (by omega) aA.aJ (by omega) (by omega) (by simp;omega) (fun w b=>by have:=T w b;exact⟨by omega,this.2⟩) (by omega) (by omega) (by simp only[aA.set,aA.del,ac2,Nat.reduceAdd,ac4,Nat.reduceEqDiff,ac3,ac5,if_true,if_false,a];done) (fun id g e=>by rw[aA.aB (by omega),aA.aB (by omega),aA.aB e];exact N id g e) (fun j Z=>by omega) (.same _ rfl) (fl _ _ _ h4 (by simp only[aA.set,aA.del,ac2,Nat.reduceAdd,ac4,Nat.reduceEqDiff,ac3,ac5,if_true,if_false,a,B];done) (.inl rfl)) (fp _ _ (by simp only[aA.set,aA.del,ac2,Nat.reduceAdd,ac4,Nat.reduceEqDiff,ac3,ac5,if_true,if_false,a,C];done) (by simp only[aA.set,aA.del,ac2,Nat.reduceAdd,ac4,Nat.reduceEqDiff,ac3,ac5,if_true,if_false,a,I];done) (.inr (.inl rfl)) (.inr (.inr rfl))) rfl
 ·refine aO (p:=W+1) hl (by omega) (by omega) (by omega) aA.aJ fun y ct cv=> ?_;(try simp only[go_sem,nL,E,J,S,B,C,I,a,O]);repeat' first|apply vI<;>(simp only[go_sem,nL,E,J,S,B,C,I,a,O])|fail
  generalize D:c8 (f+9) [4] _ (msk (f+9) [4] o)=U;have k1:U nx=some ⟨3,1,[[.osl 0 0 0 0 0,.osl 0 0 0 0 0,.osl 0 0 0 0 0]]⟩:=by rw[<-D,um1 (by omega),mk1 (by omega)];exact J
  have k2:U (nx+3)=some ⟨3,1,[[.isl (m.map cY),.osl 1 bl 0 4 cl,.osl 1 t 0 3 cp]]⟩:=by rw[<-D,um1 (by omega),mk1 (by omega)];exact S
  have k3:U bl=some ⟨1,ml,P.map aF⟩:=by rw[<-D,um1 (by omega),mk1 (by omega)];exact B
  have k4:U t=some ⟨1,mp,[.osl 7 b0 0 s.length c0]::Ps.map kX⟩:=by rw[<-D,um1 (by omega),mk1 (by omega)];exact C
  have k5:U b0=some ⟨7,mr,s.map dT⟩:=by rw[<-D,um1 (by omega),mk1 (by omega)];exact I
  have kf: ∀id,id<nx->id≠i->U id=H id:=fun id g e=>by rw[<-D,um1 (by omega),mk1 (by omega)];exact N id g e
  have k6:U (f+9+4)=some ⟨1,2,[[.v (.int .i64 (-1))],[.v (.int .i64 4)]]⟩:=by rw[<-D,yy];exact aA.aJ
  clear D E J S B C I N;refine⟨fun _=>by rw[k2];rfl,?_⟩;refine aO (p:=W+2) hl (by omega) (by omega) (by omega) aA.aJ fun z ck cw=> ?_;(try simp only[go_sem,nL,k2,a,O]);repeat' first|apply vI<;>(simp only[go_sem,nL,k2,a,O])|fail
  generalize D:c8 (f+9) [4] _ (msk (f+9) [4] U)=V;have t1:V nx=some ⟨3,1,[[.osl 0 0 0 0 0,.osl 0 0 0 0 0,.osl 0 0 0 0 0]]⟩:=by rw[<-D,um1 (by omega),mk1 (by omega)];exact k1
  have t2:V (nx+3)=some ⟨3,1,[[.isl (m.map cY),.osl 1 bl 0 4 cl,.osl 1 t 0 3 cp]]⟩:=by rw[<-D,um1 (by omega),mk1 (by omega)];exact k2
  have t3:V bl=some ⟨1,ml,P.map aF⟩:=by rw[<-D,um1 (by omega),mk1 (by omega)];exact k3
  have t4:V t=some ⟨1,mp,[.osl 7 b0 0 s.length c0]::Ps.map kX⟩:=by rw[<-D,um1 (by omega),mk1 (by omega)];exact k4
  have t5:V b0=some ⟨7,mr,s.map dT⟩:=by rw[<-D,um1 (by omega),mk1 (by omega)];exact k5
  have tf: ∀id,id<nx->id≠i->V id=H id:=fun id g e=>by rw[<-D,um1 (by omega),mk1 (by omega)];exact kf id g e
  have t6:V (f+13)=some ⟨1,2,[[.v (.int .i64 (-1))],[.v (.int .i64 4)]]⟩:=by rw[show f+13=f+9+4 from rfl,<-D,yy,aA.aB (by omega)];exact k6
  clear D k1 k2 k3 k4 k5 k6 kf;refine⟨fun _=>by rw[t2];rfl,by omega,?_⟩;obtain⟨v,hv⟩:=rD (L:=[[.v (.int .i64 (-1))],[.v (.int .i64 4)]]) (by simp) ck (by simp;omega);(try simp only[go_sem,nL,t1,t2,t3,t4,t5,t6,hv,a,O]);repeat' first|apply vI<;>(simp only[go_sem,nL,t1,t2,t3,t4,t5,t6,hv,a,O])|refine⟨by omega,?_⟩|fail
  exact A _ _ m (P.set y.toNat v) (s::Ps) _ _ _ (W+3) (fun j=>j=bl\/j=t\/j=b0) (by omega) aA.aJ (by omega) (by simp;omega) (by simp;omega) (fun w b=>by have:=T w b;exact⟨by omega,this.2⟩) (by omega) (by omega) (by simp only[aA.set,aA.del,ac2,Nat.reduceAdd,ac4,Nat.reduceEqDiff,ac3,ac5,if_true,if_false,a];done) (fun id g e=>by rw[aA.aB (by omega),aA.aB (by omega),aA.aB e];exact tf id g e) (fun j Z=>by omega) (.same _ rfl) (fl _ _ _ (by simp;omega) (by simp only[aA.set,aA.del,ac2,Nat.reduceAdd,ac4,Nat.reduceEqDiff,ac3,ac5,if_true,if_false,a];done) (.inl rfl)) (fp _ _ (by simp only[aA.set,aA.del,ac2,Nat.reduceAdd,ac4,Nat.reduceEqDiff,ac3,ac5,if_true,if_false,a,t4];done) (by simp only[aA.set,aA.del,ac2,Nat.reduceAdd,ac4,Nat.reduceEqDiff,ac3,ac5,if_true,if_false,a,t5];done) (.inr (.inl rfl)) (.inr (.inr rfl))) rfl
 ·exact A _ _ m (P.drop 1) (s::Ps) _ _ _ (W+1) (fun j=>j=bl\/j=t\/j=b0) (by omega) aA.aJ (by omega) (by simp;omega) (by simp;omega) (fun w b=>by have:=T w b;exact⟨by omega,this.2⟩) (by omega) (by omega) (by simp only[aA.set,aA.del,ac2,Nat.reduceAdd,ac4,Nat.reduceEqDiff,ac3,ac5,if_true,if_false,a,E];done) (fun id g e=>by rw[aA.aB (by omega),aA.aB (by omega),aA.aB e];exact N id g e) (fun j Z=>by omega) (.same _ rfl) (F7 (σ:=id) (nh:=0) rfl (bz (aG aP _) (by simp;omega) (.inl rfl) (show aA.set _ nx _ bl=some ⟨1,ml,P.map aF⟩ from (by simp only[aA.set,aA.del,ac2,Nat.reduceAdd,ac4,Nat.reduceEqDiff,ac3,ac5,if_true,if_false,a,B];done)) rfl (by simp;omega) (by rw[ac6 (by simp),aeI]) (by simp;omega))) (fp _ _ (by simp only[aA.set,aA.del,ac2,Nat.reduceAdd,ac4,Nat.reduceEqDiff,ac3,ac5,if_true,if_false,a,C];done) (by simp only[aA.set,aA.del,ac2,Nat.reduceAdd,ac4,Nat.reduceEqDiff,ac3,ac5,if_true,if_false,a,I];done) (.inr (.inl rfl)) (.inr (.inr rfl))) rfl
 ·exact A _ _ m P Ps _ _ _ (W+1) (fun j=>j=bl\/j=t\/j=b0) (by omega) aA.aJ (by omega) (by omega) (by omega) (fun w b=>by have:=T w (ad7 _ b);exact⟨by omega,this.2⟩) (by omega) (by omega) (by simp only[aA.set,aA.del,ac2,Nat.reduceAdd,ac4,Nat.reduceEqDiff,ac3,ac5,if_true,if_false,a,E];done) (fun id g e=>by rw[aA.aB (by omega),aA.aB (by omega),aA.aB e];exact N id g e) (fun j Z=>by omega) (.same _ rfl) (fl _ _ _ h4 (by simp only[aA.set,aA.del,ac2,Nat.reduceAdd,ac4,Nat.reduceEqDiff,ac3,ac5,if_true,if_false,a,B];done) (.inl rfl)) (Tw (Ps:=Ps) (mp:=mp) (r:=[.osl 7 b0 0 s.length c0]) (by simp only[aA.set,aA.del,ac2,Nat.reduceAdd,ac4,Nat.reduceEqDiff,ac3,ac5,if_true,if_false,a,C];done) (.inr (.inl rfl)) h5.symm (by omega)) rfl
 ·have hN: ∀(d k:Nat) (G:aA),msk (f+d) [k] G t=G t:=fun d k G=>mk1 (by omega);have ao:s.take s.length=s:=ad1;(try simp only[go_sem,nL,E,J,S,B,C,I,a,O,hN]);repeat' first|apply vI<;>(simp only[go_sem,nL,E,J,S,B,C,I,a,O,hN])|fail
  refine gu (p:=W+1) hl (by omega) (by omega) aA.aJ fun p2 q ad ai aj=> ?_;(try simp only[go_sem,nL,E,J,S,B,C,I,a,O,hN,ao]);repeat' first|apply vI<;>(simp only[go_sem,nL,E,J,S,B,C,I,a,O,hN,ao])|refine⟨by omega,?_⟩|fail
  have cq:=T s (by simp);refine⟨by omega,fun cap aa _=>⟨by omega,?_⟩⟩;try apply kI
  repeat' first|apply vI<;>(simp only[go_sem,E,J,S,B,C,I,a])|fail
  refine A _ _ m P ((s++[q])::Ps) _ _ _ p2 (fun j=>j=bl\/j=t\/j=f+22) (by omega) aA.aJ (by omega) (by omega) (by simp;omega) (fun w b=> ?_) (by omega) (by omega) (by simp only[aA.set,aA.del,ac2,Nat.reduceAdd,ac4,Nat.reduceEqDiff,ac3,ac5,if_true,if_false,a];done) (fun id g e=>by rw[aA.aB (by omega),aA.aB (by omega),aA.aB (by omega),aA.aB (by omega),aA.aB e,aA.cL (by omega)];exact N id g e) (fun j Z=>by omega) (.same _ rfl) (fl _ _ _ h4 (by simp only[aA.set,aA.del,ac2,Nat.reduceAdd,ac4,Nat.reduceEqDiff,ac3,ac5,if_true,if_false,a,B];done) (.inl rfl)) ?_ rfl
  ·rcases adA.1 b with b|b
   ·subst b;refine⟨by rw[ac7,List.length_singleton];omega,fun q' M=> ?_⟩;rcases adD.1 M with M|M;·exact cq.2 q' M
    ·simp at M;subst M;exact aj
   ·have:=T w (ad7 _ b);exact⟨by omega,this.2⟩
  ·have e3:(3:Nat)=Ps.length+1:=(by omega);rw[e3];exact ZN (mp:=mp) (b0:=f+22) (c0:=cap) (len0:=s.length+1) (by simp only[aA.set,aA.del,ac2,Nat.reduceAdd,ac4,Nat.reduceEqDiff,ac3,ac5,if_true,if_false,a];done) (by simp) ⟨cap,(by simp only[aA.set,aA.del,ac2,Nat.reduceAdd,ac4,Nat.reduceEqDiff,ac3,ac5,if_true,if_false,a];done),by simpa using aa,ac1 _⟩ (.inr (.inl rfl)) (.inr (.inr rfl)) (by omega)
end
theorem Fv{a b c:Job}(d:eV a b=true)(e:eV b c=true):eV a c=true:=by rw[oM] at*;omega
variable{l:List Job}
theorem Ol(h: ∀i,i<l.length->0<i->eV (l.getD (i-1) default) (l.getD i default)=true):gJ l:=by
 have key: ∀d i,i+d+1<l.length->eV (l.getD i default) (l.getD (i+d+1) default)=true:=by
  intro d
  induction d with
  |zero=>exact fun i hi=>h (i+1) hi (by omega)
  |succ d a=>exact fun i hi=>Fv (a i (by omega)) (h (i+d+1+1) hi (by omega))
 refine adZ.2 fun i j hi b c=> ?_;have:=key (j-i-1) i (by omega);rw[show i+(j-i-1)+1=j by omega] at this;simpa [List.getD,hi,b] using this
theorem Wg(h:gJ l){i:Nat}(hi:i<l.length)(a:0<i):eV (l.getD (i-1) default) (l.getD i default)=true:=by have:=adZ.1 h (i-1) i (by omega) hi (by omega);simpa [List.getD,hi,show i-1<l.length by omega] using this
section
variable{H:aA}{nx:Nat}{K:ag2}
theorem P1{c:Cfg}{a:List Int}{l:List Job}{b:Bool}(V:bG c)(C:a.length=3)(I:Jz c a)(hl:l.length<2^21)(W: ∀j∈l,j.rsp.data.length<2^21)(h:K (dB (TS c a l b)) H nx):ag1 oT [dA (bO c),dS (a.map aF),dS (l.map aL),dB b] H nx K:=by
 refine aC.pure (args0:=[dA (bO c),dS (a.map aF),dS (l.map aL),dB b]) (R:=fun X=>X=dB (TS c a l b)) ?_ rfl (aM ⟨aE rfl,aE rfl,aE rfl,aE rfl,trivial⟩) (fun r hr=>hr▸h);clear h;refine aR.mk Tryz.func214 (by kernel_rfl) ir rfl fun Q t=> ?_;unfold vU;obtain⟨p,F⟩:=eM V;repeat' first|apply vI<;>(simp only[go_sem])|fail
 (refine aK.loop (α:={k:Nat//k<=l.length/\(∀i,i<k->InA a (l.getD i default)/\(0<i->eV (l.getD (i-1) default) (l.getD i default)=true)/\(if b then yC c (l.getD i default) else (l.getD i default).rsp=iL))}) (fun u=>en [(9,dI u.1),(4,.one (.c (.dQ (bO c)))),(3,dB b),(2,dS (l.map aL)),(1,dS (a.map aF))]) (fun _=>.nil) _ (fun u=>l.length-u.1) ⟨0,by omega,(by intros;first|trivial|omega)⟩ (bI (ac1 _) (by repeat' first|exact C1|refine xqI rfl rfl ?_| (with_reducible apply C2)| ((with_reducible apply D0);exact CI rfl (by simp) rfl rfl rfl)|fail)) ?_);(rintro⟨k,Z,hinv⟩ KL v);by_cases G:k<l.length
 ·obtain⟨j,J⟩: ∃j,j=l.getD k default:=⟨_,rfl⟩
  have g:=J.symm;have hm:j∈l:=by rw[J];exact cC G
  have Y:=W j hm;have m:InA a j->(0<k->eV (l.getD (k-1) default) j=true)->(if b then yC c j else j.rsp=iL)->∀i,i<k+1->InA a (l.getD i default)/\(0<i->eV (l.getD (i-1) default) (l.getD i default)=true)/\(if b then yC c (l.getD i default) else (l.getD i default).rsp=iL):=fun s y o=>bT hinv ⟨by rw[g];exact s,by rw[g];exact y,by rw[g];exact o⟩;have f: ¬(InA a j/\(0<k->eV (l.getD (k-1) default) j=true)/\(if b then yC c j else j.rsp=iL))->TS c a l b=false:=fun h=>yg fun L=>h ⟨L.inA j hm,fun D=>by rw[J];exact Wg L.sorted G D,L.rsp j hm⟩;have q:((k:Int)-1).toNat=k-1:=by omega
  have z:j.rsp=iL↔j.rsp.id=0/\j.rsp.code=0/\(j.rsp.data.length:Int)=0:=by obtain⟨w,n,⟨i,d,x⟩⟩:=j;simp only[iL,Rsp.mk.injEq];refine⟨fun⟨s,y,o⟩=>⟨s,y,by rw[o];rfl⟩,fun⟨s,y,o⟩=>⟨s,y,aeG.1 (by omega)⟩⟩
  by_cases hw:0<=j.who/\j.who<=2
  ·have T:=I j.who.toNat (by omega);have U:=F j.who.toNat;by_cases A:0<=j.n/\j.n<=a.getD j.who.toNat default-1
   ·have B:InA a j:=⟨hw,A.1,by omega⟩
    cases b with
    |false=>
     by_cases D:0<k
     ·by_cases e:eV (l.getD (k-1) default) j=true
      ·repeat' first| (first|apply vI|apply Y4 (by omega)|refine Y6 (fun h=> ?_) fun h=> ?_|apply bH|apply oK)<;>(simp only[go_sem,g,eq_true hw,eq_true A,e,p,C,q];try simp (disch:=omega) only[Iw])|apply vT (by omega)|refine iR (fun h=> ?_) fun h=> ?_|refine⟨by omega,?_⟩|fail
       all_goals first| (refine v _ _ _ ⟨k+1,by omega,m B (fun _=>e) (by rw[if_neg (by decide)];exact z.2 ⟨by omega,by omega,by omega⟩)⟩ (by omega) (by(try dsimp only);omega) (bI (ac1 _) (by repeat' first|exact C1|refine xqI rfl rfl ?_|fail)))|exact aQ t (dB false) rfl rfl (congrArg dB (f fun⟨_,_,o⟩=>by rw[if_neg (by decide)] at o;have:=z.1 o;omega)).symm
      ·have E:=eq_false_of_ne_true e;repeat' first| (first|apply vI|apply Y4 (by omega)|apply bH|apply oK)<;>(simp only[go_sem,g,eq_true hw,eq_true A,E,p,C,q];try simp (disch:=omega) only[Iw])|apply vT (by omega)|refine⟨by omega,?_⟩|fail
       all_goals exact aQ t (dB false) rfl rfl (congrArg dB (f fun⟨_,y,_⟩=>e (y D))).symm
     ·repeat' first| (first|apply vI|apply Y5 (by omega)|refine Y6 (fun h=> ?_) fun h=> ?_|apply bH)<;>(simp only[go_sem,g,eq_true hw,eq_true A,p,C,q];try simp (disch:=omega) only[Iw])|apply vT (by omega)|refine iR (fun h=> ?_) fun h=> ?_|refine⟨by omega,?_⟩|fail
      all_goals first| (refine v _ _ _ ⟨k+1,by omega,m B (fun h=>absurd h D) (by rw[if_neg (by decide)];exact z.2 ⟨by omega,by omega,by omega⟩)⟩ (by omega) (by(try dsimp only);omega) (bI (ac1 _) (by repeat' first|exact C1|refine xqI rfl rfl ?_|fail)))|exact aQ t (dB false) rfl rfl (congrArg dB (f fun⟨_,_,o⟩=>by rw[if_neg (by decide)] at o;have:=z.1 o;omega)).symm
    |true=>
     by_cases D:0<k
     ·by_cases e:eV (l.getD (k-1) default) j=true
      ·repeat' first| (first|apply vI|apply Y4 (by omega)|refine Y6 (fun h=> ?_) fun h=> ?_|apply bH|apply oK|apply n7 (show j.rsp.data.length<2^40 by omega))<;>(simp only[go_sem,g,eq_true hw,eq_true A,e,p,C,q];try simp (disch:=omega) only[Iw])|apply vT (by omega)|refine⟨by omega,?_⟩|fail
       all_goals first| (refine v _ _ _ ⟨k+1,by omega,m B (fun _=>e) (by rw[if_pos rfl];exact⟨Classical.not_not.1 (by assumption),by unfold bF;omega⟩)⟩ (by omega) (by(try dsimp only);omega) (bI (ac1 _) (by repeat' first|exact C1|refine xqI rfl rfl ?_|fail)))|exact aQ t (dB false) rfl rfl (congrArg dB (f fun⟨_,_,o⟩=>by rw[if_pos rfl] at o;obtain⟨M,N⟩:=o;unfold bF at N;first|omega|exact absurd M (by assumption)|simp_all)).symm
      ·have E:=eq_false_of_ne_true e;repeat' first| (first|apply vI|apply Y4 (by omega)|apply bH|apply oK)<;>(simp only[go_sem,g,eq_true hw,eq_true A,E,p,C,q];try simp (disch:=omega) only[Iw])|apply vT (by omega)|refine⟨by omega,?_⟩|fail
       all_goals exact aQ t (dB false) rfl rfl (congrArg dB (f fun⟨_,y,_⟩=>e (y D))).symm
     ·repeat' first| (first|apply vI|apply Y5 (by omega)|refine Y6 (fun h=> ?_) fun h=> ?_|apply bH|apply n7 (show j.rsp.data.length<2^40 by omega))<;>(simp only[go_sem,g,eq_true hw,eq_true A,p,C,q];try simp (disch:=omega) only[Iw])|apply vT (by omega)|refine⟨by omega,?_⟩|fail
      all_goals first| (refine v _ _ _ ⟨k+1,by omega,m B (fun h=>absurd h D) (by rw[if_pos rfl];exact⟨Classical.not_not.1 (by assumption),by unfold bF;omega⟩)⟩ (by omega) (by(try dsimp only);omega) (bI (ac1 _) (by repeat' first|exact C1|refine xqI rfl rfl ?_|fail)))|exact aQ t (dB false) rfl rfl (congrArg dB (f fun⟨_,_,o⟩=>by rw[if_pos rfl] at o;obtain⟨M,N⟩:=o;unfold bF at N;first|omega|exact absurd M (by assumption)|simp_all)).symm
   ·repeat' first| (first|apply vI|apply bH)<;>(simp only[go_sem,g,eq_true hw,eq_false A,C];try simp (disch:=omega) only[Iw])|apply vT (by omega)|refine⟨by omega,?_⟩|fail
    all_goals first| (exfalso;omega)|exact aQ t (dB false) rfl rfl (congrArg dB (f fun⟨s,_,_⟩=>A ⟨s.2.1,by have:=s.2.2;omega⟩)).symm
  ·repeat' first| (first|apply vI|apply bH)<;>(simp only[go_sem,g,eq_false hw])|apply vT (by omega)|refine⟨by omega,?_⟩|fail
   all_goals first| (exfalso;omega)|exact aQ t (dB false) rfl rfl (congrArg dB (f fun⟨s,_,_⟩=>hw s.1)).symm
 ·repeat' first|apply vI<;>(simp only[go_sem])|apply vF (by omega)|fail
  have O:k=l.length:=by omega
  subst O;exact aQ t (dB true) rfl rfl (congrArg dB (YO ⟨fun x S=>iS (fun i hi=>(hinv i hi).1) x S,Ol fun i hi=>(hinv i hi).2.1,fun x S=>iS (P:=fun x=>if b then yC c x else x.rsp=iL) (fun i hi=>(hinv i hi).2.2) x S⟩).symm)
end
theorem Jx(h: ∀i,i<l.length->key (l.getD i default)∉(l.take i).map key):(l.map key).Nodup:=by refine afT.2 (adZ.2 fun i j hi a b he=> ?_);apply h j a;rw[show l.getD j default=l[j] by simp[List.getD,a],<-he];exact aeU (adS.2 ⟨i,by simp;omega,by simp⟩)
theorem No(h:(l.map key).Nodup){i:Nat}(hi:i<l.length):key (l.getD i default)∉(l.take i).map key:=by
 intro hm;obtain⟨x,b,he⟩:=ac9.1 hm;obtain⟨j,c,rfl⟩:=adS.1 b;have a:j<i:=by simp at c;omega
 have d:=adZ.1 (afT.1 h) j i (by omega) hi a;rw[show l.getD i default=l[i] by simp[List.getD,hi]] at he;simp only[afI] at he;exact d he
section
variable{H:aA}{nx:Nat}{K:ag2}
theorem IA{c:Cfg}{s:TSt}(I:bG c)(p:s.asked.length=3)(w:Jz c s.asked)(hl:s.told.length<2^21)(J: ∀j∈s.told,j.rsp.data.length<2^21)(h:K (dB (dq c s)) H nx):ag1 HY [dA (bO c),dA (eSt s)] H nx K:=by
 refine aC.pure (args0:=[dA (bO c),dA (eSt s)]) (R:=fun L=>L=dB (dq c s)) ?_ rfl (aM ⟨aE rfl,aE rfl,trivial⟩) (fun r hr=>hr▸h);clear h;refine aR.mk Tryz.func215 (by kernel_rfl) an rfl fun Q m=> ?_;unfold xP;obtain⟨d,q⟩:=eM I;repeat' first|apply vI<;>(simp only[go_sem])|fail
 (refine aK.loop (α:={k:Nat//k<=s.told.length/\(∀i,i<k->InA s.asked (s.told.getD i default)/\yC c (s.told.getD i default)/\key (s.told.getD i default)∉(s.told.take i).map key)}) (fun u=>en [(5,dI u.1),(3,.one (.c (.dQ (eSt s)))),(2,.one (.c (.dQ (bO c))))]) (fun _=>.nil) _ (fun u=>s.told.length-u.1) ⟨0,by omega,(by intros;first|trivial|omega)⟩ (bI (ac1 _) (by repeat' first|exact C1|refine xqI rfl rfl ?_| (with_reducible apply C2)| ((with_reducible apply D0);exact CI rfl (by simp) rfl rfl rfl)|fail)) ?_);(rintro⟨k,S,hinv⟩ T y);by_cases t:k<s.told.length
 ·obtain⟨j,z⟩: ∃j,j=s.told.getD k default:=⟨_,rfl⟩
  have b:=z.symm;have hm:j∈s.told:=by rw[z];exact cC t
  have M:=J j hm;have f:InA s.asked j->yC c j->key j∉(s.told.take k).map key->∀i,i<k+1->InA s.asked (s.told.getD i default)/\yC c (s.told.getD i default)/\key (s.told.getD i default)∉(s.told.take i).map key:=fun o N O=>bT hinv (by rw[b];exact⟨o,N,O⟩);have a: ¬(InA s.asked j/\yC c j/\key j∉(s.told.take k).map key)->dq c s=false:=fun h=>Ir fun A=>h ⟨A.inA j hm,A.rsp j hm,by rw[z];exact No A.once t⟩;by_cases hw:0<=j.who/\j.who<=2
  ·have F:=w j.who.toNat (by omega);have G:=q j.who.toNat;by_cases g:0<=j.n/\j.n<=s.asked.getD j.who.toNat default-1
   ·have B:InA s.asked j:=⟨hw,g.1,by omega⟩
    by_cases hr:jY j.rsp
    ·by_cases e:j.rsp.id=((c.cH.getD j.who.toNat default).getD j.n.toNat default).id
     ·have C:yC c j:=⟨hr,e⟩
      by_cases v:0<=bK (cO j.who j.n) (s.told.take k)
      ·repeat' first| (first|apply vI|apply bH|apply n7 (show j.rsp.data.length<2^40 by omega)| (apply lX (l:=s.told.take k) (by simp;omega)))<;>(simp only[go_sem,b,eq_true hw,eq_true g,eq_true hr,e.symm,d,p];try simp (disch:=omega) only[Iw])|apply vT (by omega)|refine⟨by omega,?_⟩|fail
       all_goals first| (exfalso;omega)|exact aQ m (dB false) rfl rfl (congrArg dB (a fun⟨_,_,h⟩=>h (sU.1 v))).symm
      ·repeat' first| (first|apply vI|apply bH|apply n7 (show j.rsp.data.length<2^40 by omega)| (apply lX (l:=s.told.take k) (by simp;omega)))<;>(simp only[go_sem,b,eq_true hw,eq_true g,eq_true hr,e.symm,d,p];try simp (disch:=omega) only[Iw])|apply vT (by omega)|apply vF (by omega)|refine⟨by omega,?_⟩|fail
       all_goals first| (exfalso;omega)| (refine y _ _ _ ⟨k+1,by omega,f B C (fun h=>v (sU.2 h))⟩ (by omega) (by(try dsimp only);omega) (bI (ac1 _) (by repeat' first|exact C1|refine xqI rfl rfl ?_|fail)))
     ·repeat' first| (first|apply vI|apply Y4 (by omega)|apply bH|apply n7 (show j.rsp.data.length<2^40 by omega))<;>(simp only[go_sem,b,eq_true hw,eq_true g,eq_true hr,d,p];try simp (disch:=omega) only[Iw])|apply vT (by omega)|refine⟨by omega,?_⟩|fail
      all_goals first| (exfalso;omega)|exact aQ m (dB false) rfl rfl (congrArg dB (a fun⟨_,h,_⟩=>e h.2)).symm
    ·repeat' first| (first|apply vI|apply bH|apply n7 (show j.rsp.data.length<2^40 by omega))<;>(simp only[go_sem,b,eq_true hw,eq_true g,eq_false hr,d,p];try simp (disch:=omega) only[Iw])|apply vT (by omega)|refine⟨by omega,?_⟩|fail
     all_goals first| (exfalso;omega)|exact aQ m (dB false) rfl rfl (congrArg dB (a fun⟨_,h,_⟩=>hr h.1)).symm
   ·repeat' first| (first|apply vI|apply bH)<;>(simp only[go_sem,b,eq_true hw,eq_false g,p];try simp (disch:=omega) only[Iw])|apply vT (by omega)|refine⟨by omega,?_⟩|fail
    all_goals first| (exfalso;omega)|exact aQ m (dB false) rfl rfl (congrArg dB (a fun⟨o,_,_⟩=>g ⟨o.2.1,by have:=o.2.2;omega⟩)).symm
  ·repeat' first| (first|apply vI|apply bH)<;>(simp only[go_sem,b,eq_false hw])|apply vT (by omega)|refine⟨by omega,?_⟩|fail
   all_goals first| (exfalso;omega)|exact aQ m (dB false) rfl rfl (congrArg dB (a fun⟨o,_,_⟩=>hw o.1)).symm
 ·repeat' first|apply vI<;>(simp only[go_sem])|apply vF (by omega)|fail
  have D:k=s.told.length:=by omega
  subst D;exact aQ m (dB true) rfl rfl (congrArg dB (Ix ⟨fun x E=>iS (fun i hi=>(hinv i hi).1) x E,Jx fun i hi=>(hinv i hi).2.2,fun x E=>iS (P:=yC c) (fun i hi=>(hinv i hi).2.1) x E⟩).symm)
theorem yq{c:Cfg}{s:TSt}(v:jJ c)(w:Dh s)(h:K (dB (tlB c s)) H nx):ag1 KE [dA (bO c),dA (eSt s)] H nx K:=by
 refine aC.pure (args0:=[dA (bO c),dA (eSt s)]) (R:=fun rr=>rr=dB (tlB c s)) ?_ rfl (aM ⟨aE rfl,aE rfl,trivial⟩) (fun r hr=>hr▸h);clear h;refine aR.mk Tryz.func129 (by kernel_rfl) pt rfl fun Q e=> ?_;unfold BS;have ab:=w.words;have ad:=w.holds;have ai:=w.asked;have O:=w.wait;have S:=w.done;have A:=w.told;have T: ∀j∈s.wait,j.rsp.data.length<2^21:=fun j b=>w.data j (by simp[b]);have U: ∀j∈s.done,j.rsp.data.length<2^21:=fun j b=>w.data j (by simp[b]);have B: ∀j∈s.told,j.rsp.data.length<2^21:=fun j b=>w.data j (by simp[b]);by_cases f:bG c
 case neg=>
  repeat' first| (first|apply vI|apply mA v)<;>(simp only[go_sem,eq_false f])|fail
  all_goals exact aQ e (dB false) rfl rfl (congrArg dB (LW fun h=>f h.1)).symm
 by_cases g:pT s.words s.holds
 case neg=>
  repeat' first| (first|apply vI|apply mA v|apply rL (show s.words.length<2^40 by omega) (show s.holds.length<2^40 by omega))<;>(simp only[go_sem,eq_true f,eq_false g])|fail
  all_goals exact aQ e (dB false) rfl rfl (congrArg dB (LW fun h=>g ⟨⟨by rw[h.2.atm.wl];rfl,h.2.atm.wr⟩,by rw[h.2.atm.hl];rfl,h.2.atm.hr⟩)).symm
 by_cases t:s.asked.length=3
 case neg=>
  repeat' first| (first|apply vI|apply mA v|apply rL (show s.words.length<2^40 by omega) (show s.holds.length<2^40 by omega))<;>(simp only[go_sem,eq_true f,eq_true g])|apply vT (by omega)|fail
  all_goals first| (exfalso;omega)|exact aQ e (dB false) rfl rfl (congrArg dB (LW fun h=>t h.2.yI)).symm
 obtain⟨G,z⟩:=eM f;repeat' first| (first|apply vI|apply mA v|apply rL (show s.words.length<2^40 by omega) (show s.holds.length<2^40 by omega))<;>(simp only[go_sem,eq_true f,eq_true g,t])|apply vF (by omega)|fail
 have V: ∀k,k<=3->(∀i,i<k->0<=s.asked.getD i default/\s.asked.getD i default<=((c.cH.getD i default).length:Int))->0<=fD (fun j=>s.asked.getD j default) k/\fD (fun j=>s.asked.getD j default) k<=12*k:=fun k L h=>JS (m:=12) (by omega) k fun j b=>by have:=h j b;have:=z j;(try dsimp only);omega
 (refine aK.loop (α:={k:Nat//k<=3/\(∀i,i<k->0<=s.asked.getD i default/\s.asked.getD i default<=((c.cH.getD i default).length:Int))}) (fun u=>en [(6,dI u.1),(5,dI (fD (fun j=>s.asked.getD j default) u.1)),(3,.one (.c (.dQ (eSt s)))),(2,.one (.c (.dQ (bO c))))]) (fun _=>.nil) _ (fun u=>3-u.1) ⟨0,by omega,(by intros;first|trivial|omega)⟩ (bI (ac1 _) (by repeat' first|exact C1|refine xqI rfl rfl ?_| (with_reducible apply C2)| ((with_reducible apply D0);exact CI rfl (by simp) rfl rfl rfl)|fail)) ?_);(rintro⟨k,L,hinv⟩ KL C);have hz:=V k L hinv;by_cases l:k<3
 ·have aj:=z k;have W:fD (fun j=>s.asked.getD j default) (k+1)=fD (fun j=>s.asked.getD j default) k+s.asked.getD k default:=rfl;by_cases hr:0<=s.asked.getD k default/\s.asked.getD k default<=((c.cH.getD k default).length:Int)
  ·repeat' first| (first|apply vI|apply bH)<;>(simp only[go_sem,eq_true hr,G,t];try simp (disch:=omega) only[Iw])|apply vT (by omega)|refine⟨by omega,?_⟩|fail
   all_goals (rw[<-W];(refine C _ _ _ ⟨k+1,by omega,bT hinv hr⟩ (by omega) (by(try dsimp only);omega) (bI (ac1 _) (by repeat' first|exact C1|refine xqI rfl rfl ?_|fail))))
  ·repeat' first| (first|apply vI|apply bH)<;>(simp only[go_sem,eq_false hr,G,t])|apply vT (by omega)|refine⟨by omega,?_⟩|fail
   all_goals exact aQ e (dB false) rfl rfl (congrArg dB (LW fun h=>hr (h.2.HV k l))).symm
 have X:k=3:=by omega
 subst X;have d:Jz c s.asked:=hinv;have Y:fD (fun j=>s.asked.getD j default) 3=s.asked.getD 0 default+s.asked.getD 1 default+s.asked.getD 2 default:=by simp[fD]
 have o: ∀{H:aA} {nx:Nat} {K:ag2},K (dB (TS c s.asked s.wait false)) H nx->ag1 oT [dA (bO c),dS (s.asked.map aF),dS (s.wait.map aL),dB false] H nx K:=fun h=>P1 f t d O T h;have x: ∀{H:aA} {nx:Nat} {K:ag2},K (dB (TS c s.asked s.done true)) H nx->ag1 oT [dA (bO c),dS (s.asked.map aF),dS (s.done.map aL),dB true] H nx K:=fun h=>P1 f t d S U h;by_cases hw:TQ c s.asked s.wait false
 case neg=>
  have E:=yg hw;repeat' first| (first|apply vI|apply o)<;>(simp only[go_sem,E])|apply vF (by omega)|fail
  all_goals exact aQ e (dB false) rfl rfl (congrArg dB (LW fun h=>hw h.2.abA)).symm
 by_cases y:TQ c s.asked s.done true
 case neg=>
  have E:=YO hw;have I:=yg y;repeat' first| (first|apply vI|apply o|apply x)<;>(simp only[go_sem,E,I])|apply vF (by omega)|fail
  all_goals exact aQ e (dB false) rfl rfl (congrArg dB (LW fun h=>y h.2.abQ)).symm
 have E:=YO hw;have I:=YO y;by_cases M:uk c s
 case neg=>
  have N:=Ir M;repeat' first| (first|apply vI|apply o|apply x|apply IA f t d A B)<;>(simp only[go_sem,E,I,N])|apply vF (by omega)|fail
  all_goals exact aQ e (dB false) rfl rfl (congrArg dB (LW fun h=>M h.2.abS)).symm
 have N:=Ix M;by_cases hc:(s.wait.length:Int)+s.done.length+s.told.length=s.asked.getD 0 default+s.asked.getD 1 default+s.asked.getD 2 default
 case neg=>
  repeat' first| (first|apply vI|apply o|apply x|apply IA f t d A B)<;>(simp only[go_sem,E,I,N];try simp (disch:=omega) only[Iw])|apply vT (by omega)|apply vF (by omega)|fail
  all_goals first| (exfalso;omega)|exact aQ e (dB false) rfl rfl (congrArg dB (LW fun h=>hc h.2.count)).symm
 repeat' first| (first|apply vI|apply o|apply x|apply IA f t d A B)<;>(simp only[go_sem,E,I,N];try simp (disch:=omega) only[Iw])|apply vF (by omega)|fail
 refine aK.loop (α:={k:Nat//k<=s.told.length/\ ∀i,i<k->key (s.told.getD i default)∉s.wait.map key/\key (s.told.getD i default)∉s.done.map key}) (fun u=>en [(7,dI u.1),(3,.one (.c (.dQ (eSt s))))]) (fun _=>.nil) _ (fun u=>s.told.length-u.1) ⟨0,by omega,fun i hi=>by omega⟩ (bI (ac1 _) (by repeat' first|exact C1|refine xqI rfl rfl ?_|fail)) ?_;rintro⟨k,L,p⟩ KL C;by_cases l:k<s.told.length
 ·obtain⟨j,b⟩: ∃j,j=s.told.getD k default:=⟨_,rfl⟩
  have a:=b.symm;have hm:j∈s.told:=by rw[b];exact cC l
  by_cases J:0<=bK (cO j.who j.n) s.wait
  ·repeat' first| (first|apply vI|apply Y4 (by omega)|apply lX (show s.wait.length<2^40 by omega))<;>(simp only[go_sem,a])|apply vT (by omega)|refine⟨by omega,?_⟩|fail
   all_goals first| (exfalso;omega)|exact aQ e (dB false) rfl rfl (congrArg dB (LW fun h=>(h.2.apart.2.1 j hm).1 (sU.1 J))).symm
  ·by_cases h2:0<=bK (cO j.who j.n) s.done
   ·repeat' first| (first|apply vI|apply Y5 (by omega)|apply lX (show s.wait.length<2^40 by omega)|apply lX (show s.done.length<2^40 by omega))<;>(simp only[go_sem,a])|apply vT (by omega)|refine⟨by omega,?_⟩|fail
    all_goals first| (exfalso;omega)|exact aQ e (dB false) rfl rfl (congrArg dB (LW fun h=>(h.2.apart.2.1 j hm).2 (sU.1 h2))).symm
   ·repeat' first| (first|apply vI|apply Y5 (by omega)|apply lX (show s.wait.length<2^40 by omega)|apply lX (show s.done.length<2^40 by omega))<;>(simp only[go_sem,a];try simp (disch:=omega) only[Iw])|apply vT (by omega)|apply vF (by omega)|refine⟨by omega,?_⟩|fail
    all_goals first| (exfalso;omega)|exact C _ _ _ ⟨k+1,by omega,bT p (by rw[a];exact⟨fun h=>J (sU.2 h),fun h=>h2 (sU.2 h)⟩)⟩ (by omega) (by(try dsimp only);omega) (bI (ac1 _) (by repeat' first|exact C1|refine xqI rfl rfl ?_|fail))
 ·have F:k=s.told.length:=by omega
  subst F;repeat' first|apply vI<;>(simp only[go_sem])|apply vF (by omega)|fail
  refine aK.loop (α:={k:Nat//k<=s.done.length/\ ∀i,i<k->key (s.done.getD i default)∉s.wait.map key}) (fun u=>en [(8,dI u.1),(3,.one (.c (.dQ (eSt s))))]) (fun _=>.nil) _ (fun u=>s.done.length-u.1) ⟨0,by omega,fun i hi=>by omega⟩ (bI (ac1 _) (by repeat' first|exact C1|refine xqI rfl rfl ?_|fail)) ?_;rintro⟨k,L,q⟩ KM Z;by_cases l:k<s.done.length
  ·obtain⟨j,b⟩: ∃j,j=s.done.getD k default:=⟨_,rfl⟩
   have a:=b.symm;have hm:j∈s.done:=(by rw[b];exact cC l);by_cases J:0<=bK (cO j.who j.n) s.wait
   ·repeat' first| (first|apply vI|apply lX (show s.wait.length<2^40 by omega))<;>(simp only[go_sem,a])|apply vT (by omega)|refine⟨by omega,?_⟩|fail
    all_goals first| (exfalso;omega)|exact aQ e (dB false) rfl rfl (congrArg dB (LW fun h=>(h.2.apart.2.2 j hm) (sU.1 J))).symm
   ·repeat' first| (first|apply vI|apply lX (show s.wait.length<2^40 by omega))<;>(simp only[go_sem,a];try simp (disch:=omega) only[Iw])|apply vT (by omega)|apply vF (by omega)|refine⟨by omega,?_⟩|fail
    all_goals first| (exfalso;omega)|exact Z _ _ _ ⟨k+1,by omega,bT q (by rw[a];exact fun h=>J (sU.2 h))⟩ (by omega) (by(try dsimp only);omega) (bI (ac1 _) (by repeat' first|exact C1|refine xqI rfl rfl ?_|fail))
  ·have F:k=s.done.length:=(by omega);subst F;have aa:kM c s:=Dl g t d hw y M hc (iS (P:=fun j=>key j∉s.wait.map key/\key j∉s.done.map key) p) (iS (P:=fun j=>key j∉s.wait.map key) q);repeat' first|apply vI<;>(simp only[go_sem])|apply vF (by omega)|fail
   exact aQ e (dB true) rfl rfl (congrArg dB (Ya f aa)).symm
end
end Go.Proofs.YtlncecohbakleaaGreat
