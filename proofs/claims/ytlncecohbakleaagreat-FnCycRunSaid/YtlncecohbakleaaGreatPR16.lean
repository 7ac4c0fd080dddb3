/- Rules and contracts. -/
import Derived.Test.YtlncecohbakleaaGreatPR15
set_option linter.unusedVariables false
set_option linter.unusedSimpArgs false
set_option maxRecDepth 100000
set_option maxHeartbeats 8000000
namespace Go.AM
theorem vg{H:aA}{nx t:Nat}{o o':bM}(b:H t=some o)(c:CvO H noF id nx o' o):CvX noF nx H (H.set t o'):=vv (t:=t) (o':=o') (fun j a=>a.elim) aA.aI b (fun h=>h) c fun j a _=>aA.aB a
def wy(H:aA)(F:Nat->Prop)(σ:Nat->Nat)(nh:Nat)(R' R:List (List D1)):Prop:=R'.length=R.length/\ ∀(i:Nat) (r' r:List D1),R'[i]?=some r'->R[i]?=some r->CvL H F σ nh r' r
section
variable {H : aA} {F : Nat -> Prop} {σ : Nat -> Nat} {nh : Nat} {R R' S S' : List (List D1)} {r r' : List D1}
theorem Pa:wy H F σ nh [] []:=⟨rfl,fun i r' r h=>by simp at h⟩
theorem qz(h:CvL H F σ nh r' r)(e:wy H F σ nh R' R):wy H F σ nh (r'::R') (r::R):=by
 refine⟨by simp[e.1],fun i a b c d=> ?_⟩
 match i with
 |0=>simp at c d;subst c;subst d;exact h
 |i+1=>simp at c d;exact e.2 i a b c d
theorem Rp(e: ∀r∈R,∀x∈r,x.eS=true):wy H F σ nh R R:=⟨rfl,fun i a b c d=>by
 rw[c] at d;cases d
 exact w7 fun x f=>e a (abV c) x f⟩
theorem Nx(h:wy H F σ nh R' R)(e:wy H F σ nh S' S):wy H F σ nh (R'++S') (R++S):=by
 refine⟨by simp[h.1,e.1],fun i a b c d=> ?_⟩;rw[ab7] at c d;rw[h.1] at c;by_cases hi:i<R.length;·rw[if_pos hi] at c d;exact h.2 i a b c d
 ·rw[if_neg hi] at c d;exact e.2 _ a b c d
theorem Ym{n m:Nat}(h:wy H F σ nh R' R):CvO H F σ nh ⟨n,m,R'⟩ ⟨n,m,R⟩:=by
 refine⟨rfl,rfl,Nat.le_of_eq h.1,fun _ b=> ?_,fun i a c=> ?_⟩;·dsimp only at b ⊢;have:=h.1;rw[b] at this;exact acX.1 this.symm
 ·have hi:i<R.length:=by rw[<-h.1];exact(abN.1 c).1
  exact⟨R[i],abO hi,h.2 i a _ c (abO hi)⟩
end
theorem aJ.Wa{P:Program}{T:Nat}{e:Env}{H:aA}{nx:Nat}{Q:AQ}{x y:AC}{zs:List AC}{β:Type}(E:β->Env)(Φ:β->aA->Nat->Prop)
 (h: ∀K:Env->aA->Nat->Prop,(∀e' H' nx' b F H2,nx<=nx'->CvE H' F id nx' (E b) e'->CvX F nx' H' H2->Φ b H2 nx'->K e' H' nx')->aJ P T [x] e H nx (AQ.then K Q))
 (i: ∀b H1 a,nx<=a->Φ b H1 a->aJ P T (y::zs) (E b) H1 a Q):aJ P T (.seq x y::zs) e H nx Q:=by
 refine aJ.seq (aJ.cut (fun e' H' nx'=>nx<=nx'/\ ∃b F H2,CvE H' F id nx' (E b) e'/\CvX F nx' H' H2/\Φ b H2 nx') (h _ fun e' H' nx' b F H2 c d f g=>⟨c,b,F,H2,d,f,g⟩) fun e' H' nx' _ ⟨c,b,F,H2,d,f,g⟩=> ?_)
 exact aJ.kH (E b) H2 F (fun t=>.inr (d t)) f (i b H2 nx' c g)
end Go.AM
namespace Go.Proofs.YtlncecohbakleaaGreat
open Go Go.AM
attribute [local irreducible] aJ wv aC vd wvH
section
variable{H:aA}{nx:Nat}{K:afC}
theorem NX{l:List Int}{p i:Nat}(hl:fW l)(ca:p+1000<2^50)(hi:i<nx)(ho:H i=some (rdO l p))
 (h: ∀H' nx' p' (m:List Rng) (I:List Int) (R0:Prog) (Ps:List Prog) bl J M cp mp b0 c0,p<=p'->p'<=p+1000->oC m->I.length=4/\All I 0 3->Ps.length=2->(∀W∈R0::Ps,W.length<=12/\ ∀q∈W,cR q)->H' i=some (rdO l p')->Own aH 1 H' bl J I->Own dM 7 H' b0 c0 R0->H' M=some ⟨1,mp,[.osl 7 b0 0 R0.length c0]::Ps.map kN⟩->3<=cp->cp<=mp->nx<=bl->nx<=M->nx<=b0->bl<nx'->M<nx'->b0<nx'->[bl,M,b0].Nodup->(∀id,id<nx->id≠i->H' id=H id)->
  K (dA [.isl (m.map cX),.osl 1 bl 0 4 J,.osl 1 M 0 3 cp]) H' nx'):afB rP [dP 2 i,dI 6] H nx K:=by
 refine bR.mk Tryz.func200 (by kernel_rfl) X0 rfl fun Q hQ=> ?_
 unfold xK
 have N:aO nx [i]:=AM.apart (by simp) (by simp;omega)
 simp only[aO,bG] at N
 repeat' first| (first|apply vI| (refine lu (p:=p) hl (by omega) (by omega) (by rw[aA.aB (by omega)];exact ho) (fun pm m ei ej aa=> ?_)))<;>(simp only[go_sem,nL,N])|fail
 apply aJ.mM 1
 refine aJ.YQ fun z f=> ?_
 have B:z i=some (rdO l pm):=by rw[f];exact(by simp only[aA.set,aA.del,abH,Nat.reduceAdd,abJ,Nat.reduceEqDiff,abI,abK,if_true,if_false,N];done)
 have C:z nx=some ⟨3,1,[[.osl 0 0 0 0 0,.osl 0 0 0 0 0,.osl 0 0 0 0 0]]⟩:=by rw[f];exact(by simp only[aA.set,aA.del,abH,Nat.reduceAdd,abJ,Nat.reduceEqDiff,abI,abK,if_true,if_false,N];done)
 have D:z (nx+4)=some ⟨3,1,[[.isl (m.map cX),.osl 0 0 0 0 0,.osl 0 0 0 0 0]]⟩:=by rw[f];exact(by simp only[aA.set,aA.del,abH,Nat.reduceAdd,abJ,Nat.reduceEqDiff,abI,abK,if_true,if_false,N];done)
 have L:z (nx+7)=some ⟨1,0,[]⟩:=by rw[f];exact(by simp only[aA.set,aA.del,abH,Nat.reduceAdd,abJ,Nat.reduceEqDiff,abI,abK,if_true,if_false,N];done)
 have O: ∀id,id<nx->id≠i->z id=H id:=fun id s g=>by rw[f,aA.aB (by omega),aA.aB (by omega),aA.aB g,aA.aB (by omega)]
 clear f
 refine aJ.cG (β:=Nat×Nat×List Int×Nat×Nat) (fun u=>en [(6,dI u.1),(5,dP 3 (nx+4)),(4,dP 3 nx),(1,dI 6),(0,dP 2 i)])
  (fun u H1 d=>(u.1<=4/\p<=u.2.1/\u.2.1<=p+8+u.1/\u.2.2.1.length=u.1/\nx+7<=u.2.2.2.1/\u.2.2.2.1<d)/\H1 i=some (rdO l u.2.1)/\H1 nx=some ⟨3,1,[[.osl 0 0 0 0 0,.osl 0 0 0 0 0,.osl 0 0 0 0 0]]⟩/\H1 (nx+4)=some ⟨3,1,[[.isl (m.map cX),.osl 1 u.2.2.2.1 0 u.1 u.2.2.2.2,.osl 0 0 0 0 0]]⟩/\Own aH 1 H1 u.2.2.2.1 u.2.2.2.2 u.2.2.1/\All u.2.2.1 0 3/\ ∀id,id<nx->id≠i->H1 id=H id)
  (fun u=>4-u.1) (0,pm,[],nx+7,0) ⟨noF,z.set (nx+4) ⟨3,1,[[.isl (m.map cX),.osl 1 (nx+7) 0 0 0,.osl 0 0 0 0 0]]⟩,by repeat' first|exact C1|refine xqI rfl rfl ?_|refine xqP (by omega) rfl rfl ?_|fail,vg D (bA (aG (bE rfl) (aG (.BL _ _ _ _ _ _) (aG (.BL _ _ _ _ _ _) cJ)))),by dsimp only;simp;omega,(by simp only[aA.set,aA.del,abH,Nat.reduceAdd,abJ,Nat.reduceEqDiff,abI,abK,if_true,if_false,N,B];done),(by simp only[aA.set,aA.del,abH,Nat.reduceAdd,abJ,Nat.reduceEqDiff,abI,abK,if_true,if_false,N,C];done),(by simp only[aA.set,aA.del,abH,Nat.reduceAdd,abJ,Nat.reduceEqDiff,abI,abK,if_true,if_false,N];done),⟨0,(by simp only[aA.set,aA.del,abH,Nat.reduceAdd,abJ,Nat.reduceEqDiff,abI,abK,if_true,if_false,N,L,ab9];done),abG _,abG _⟩,fun x hx=>absurd hx (by simp),fun id s g=>by rw[aA.aB (by omega)];exact O id s g⟩ ?_
 clear B C D L O
 rintro⟨k,pl,I,bl,J⟩ H1 d X ⟨⟨f1,f2,f3,f4,f5,f6⟩,B,C,D,⟨ml,L,e1,Y⟩,ab,O⟩ KL S
 dsimp only at f1 f2 f3 f4 f5 f6 B C D L e1 Y ab
 have cc:I.take k=I:=abM (by omega)
 have a:aO d [i,nx,nx+4,bl]:=AM.apart (by simp;omega) (by simp;omega)
 simp only[aO,bG] at a
 by_cases cd:k<4
 ·have hM: ∀G:aA,msk (d+2) [4] G (nx+4)=G (nx+4):=fun G=>mk1 (by omega);repeat' first| (first|apply vI|refine aM (p:=pl) hl (by omega) (by omega) (by omega) B (fun x s g=> ?_))<;>(simp only[go_sem,nL,B,C,D,L,a,cc,hM];try simp (disch:=omega) only[Iw])|apply vT (by omega)| (with_reducible first|refine fun(cap:Nat) (A:_<=cap)=> ?_|refine fun(ad:_<=cap)=> ?_)|refine⟨by omega,?_⟩|fail
  exact S _ _ _ (k+1,pl+1,I++[x],d+7,cap) noF _ (by omega) (by dsimp only;omega) (by dsimp only;repeat' first|exact C1|refine xqI rfl rfl ?_|refine xqP (by omega) rfl rfl ?_|fail) aE ⟨by simp;omega,(by simp only[aA.set,aA.del,abH,Nat.reduceAdd,abJ,Nat.reduceEqDiff,abI,abK,if_true,if_false,a];done),(by simp only[aA.set,aA.del,abH,Nat.reduceAdd,abJ,Nat.reduceEqDiff,abI,abK,if_true,if_false,a,C];done),(by simp only[aA.set,aA.del,abH,Nat.reduceAdd,abJ,Nat.reduceEqDiff,abI,abK,if_true,if_false,a];done),⟨cap,(by simp only[aA.set,aA.del,abH,Nat.reduceAdd,abJ,Nat.reduceEqDiff,abI,abK,if_true,if_false,a];done),by simp;omega,abG _⟩,eg ab (by omega) (by omega),fun id s g=>by rw[aA.aB (by omega),aA.aB (by omega),aA.aB (by omega),aA.aB g,aA.cC (by omega)];exact O id s g⟩
 have cf:k=4:=by omega
 subst cf
 have cq:=f4
 repeat' first|apply vI<;>(simp only[go_sem,abH])|apply vF (by omega)|fail
 apply aJ.mM 1
 refine aJ.YQ fun z f=> ?_
 have r0:z i=some (rdO l pl):=by rw[f];exact(by simp only[aA.set,aA.del,abH,Nat.reduceAdd,abJ,Nat.reduceEqDiff,abI,abK,if_true,if_false,a,B];done)
 have r1:z nx=some ⟨3,1,[[.osl 0 0 0 0 0,.osl 0 0 0 0 0,.osl 0 0 0 0 0]]⟩:=by rw[f];exact(by simp only[aA.set,aA.del,abH,Nat.reduceAdd,abJ,Nat.reduceEqDiff,abI,abK,if_true,if_false,a,C];done)
 have r2:z (nx+4)=some ⟨3,1,[[.isl (m.map cX),.osl 1 bl 0 4 J,.osl 0 0 0 0 0]]⟩:=by rw[f];exact(by simp only[aA.set,aA.del,abH,Nat.reduceAdd,abJ,Nat.reduceEqDiff,abI,abK,if_true,if_false,a,D];done)
 have r3:Own aH 1 z bl J I:=⟨ml,by rw[f];exact(by simp only[aA.set,aA.del,abH,Nat.reduceAdd,abJ,Nat.reduceEqDiff,abI,abK,if_true,if_false,a,L];done),e1,Y⟩
 have r4:z (d+3)=some ⟨1,0,[]⟩:=by rw[f];exact(by simp only[aA.set,aA.del,abH,Nat.reduceAdd,abJ,Nat.reduceEqDiff,abI,abK,if_true,if_false,a];done)
 have rf: ∀id,id<nx->id≠i->z id=H id:=fun id s g=>by rw[f,aA.aB (by omega)];exact O id s g
 clear f B C D L O e1 Y
 refine aJ.cG (β:=Nat×Nat×(List (List D1)×Nat×Nat)×(Prog×Nat×Nat)×List Prog) (fun u=>en [(7,dI u.1),(5,dP 3 (nx+4)),(4,dP 3 nx),(1,dI 6),(0,dP 2 i)])
  (fun u H1 d=>((u.1<=3/\p<=u.2.1/\u.2.1<=p+12+300*u.1)/\(nx+5<=u.2.2.1.2.1/\u.2.2.1.2.1<d/\bl≠u.2.2.1.2.1/\bl<d))/\H1 i=some (rdO l u.2.1)/\H1 nx=some ⟨3,1,[[.osl 0 0 0 0 0,.osl 0 0 0 0 0,.osl 0 0 0 0 0]]⟩/\H1 (nx+4)=some ⟨3,1,[[.isl (m.map cX),.osl 1 bl 0 4 J,.osl 1 u.2.2.1.2.1 0 u.1 u.2.2.1.2.2]]⟩/\Own aH 1 H1 bl J I/\
   (∃mp,H1 u.2.2.1.2.1=some ⟨1,mp,u.2.2.1.1⟩/\u.1<=u.2.2.1.2.2/\u.2.2.1.2.2<=mp)/\
   (0<u.1->Own dM 7 H1 u.2.2.2.1.2.1 u.2.2.2.1.2.2 u.2.2.2.1.1/\u.2.2.1.1=[.osl 7 u.2.2.2.1.2.1 0 u.2.2.2.1.1.length u.2.2.2.1.2.2]::u.2.2.2.2.map kN/\u.2.2.2.2.length+1=u.1/\(∀W∈u.2.2.2.1.1::u.2.2.2.2,W.length<=12/\ ∀q∈W,cR q)/\nx+5<=u.2.2.2.1.2.1/\u.2.2.2.1.2.1<d/\[bl,u.2.2.1.2.1,u.2.2.2.1.2.1].Nodup)/\(u.1=0->u.2.2.1.1=[])/\ ∀id,id<nx->id≠i->H1 id=H id)
  (fun u=>3-u.1) (0,pl,([],d+3,0),([],0,0),[]) ⟨noF,z.set (nx+4) ⟨3,1,[[.isl (m.map cX),.osl 1 bl 0 4 J,.osl 1 (d+3) 0 0 0]]⟩,by repeat' first|exact C1|refine xqI rfl rfl ?_|refine xqP (by omega) rfl rfl ?_|fail,vg r2 (bA (aG (bE rfl) (aG (.osl _ _ _ _ _ (by omega)) (aG (.BL _ _ _ _ _ _) cJ)))),by dsimp only;omega,(by simp only[aA.set,aA.del,abH,Nat.reduceAdd,abJ,Nat.reduceEqDiff,abI,abK,if_true,if_false,a,r0];done),(by simp only[aA.set,aA.del,abH,Nat.reduceAdd,abJ,Nat.reduceEqDiff,abI,abK,if_true,if_false,a,r1];done),(by simp only[aA.set,aA.del,abH,Nat.reduceAdd,abJ,Nat.reduceEqDiff,abI,abK,if_true,if_false,a];done),r3.of (by rw[aA.aB (by omega)]),⟨0,(by simp only[aA.set,aA.del,abH,Nat.reduceAdd,abJ,Nat.reduceEqDiff,abI,abK,if_true,if_false,a,r4];done),abG _,abG _⟩,fun h=>by dsimp only at h;omega,fun _=>rfl,fun id s g=>by rw[aA.aB (by omega)];exact rf id s g⟩ ?_
 clear r0 r1 r2 r3 r4 rf
 have eo:nx+8<=d:=by omega
 clear X a
 rintro⟨k,pl,⟨rows,M,cp⟩,⟨R0,b0,c0⟩,Ps⟩ H1 d X ⟨⟨⟨f1,f2,f3⟩,f4,f5,f6,f7⟩,B,C,D,L,⟨mp,q4,e1,Y⟩,q5,q6,O⟩ KL S
 dsimp only at f1 f2 f3 f4 f5 f6 f7 B C D L q4 q5 q6 e1 Y
 have a:aO d [i,nx,nx+4,bl,M]:=AM.apart (by simp;omega) (by simp;omega)
 simp only[aO,bG] at a
 by_cases cd:k<3
 ·repeat' first| (first|apply vI| (refine aM (p:=pl) hl (by omega) (by omega) (by omega) (by simp only[aA.set,aA.del,abH,Nat.reduceAdd,abJ,Nat.reduceEqDiff,abI,abK,if_true,if_false,a,B];done) (fun x ep et=> ?_)))<;>(simp only[go_sem,nL,B,C,D,a];try simp (disch:=omega) only[Iw])|apply vT (by omega)|fail
  refine aJ.YQ fun z f=> ?_;have r0:z i=some (rdO l (pl+1)):=by rw[f];exact(by simp only[aA.set,aA.del,abH,Nat.reduceAdd,abJ,Nat.reduceEqDiff,abI,abK,if_true,if_false,a,B];done)
  have r1:z (d+2)=some ⟨7,0,[]⟩:=by rw[f];exact(by simp only[aA.set,aA.del,abH,Nat.reduceAdd,abJ,Nat.reduceEqDiff,abI,abK,if_true,if_false,a];done)
  have rf: ∀id,id<d->id≠i->z id=H1 id:=fun id s g=>by rw[f,aA.aB g,aA.aB (by omega)]
  clear f
  refine aJ.cG (β:=Nat×Nat×Prog×Nat×Nat) (fun u=>en [(9,dI u.1),(8,.one (.c (.osl 7 u.2.2.2.1 0 u.2.2.1.length u.2.2.2.2))),(7,dI k),(5,dP 3 (nx+4)),(4,dP 3 nx),(1,dI 6),(0,dP 2 i)])
   (fun u H2 n=>(u.1<=6/\p<=u.2.1/\u.2.1<=pl+1+41*(6-u.1)/\(∀q∈u.2.2.1,cR q)/\2*u.1+u.2.2.1.length<=12)/\(d<=u.2.2.2.1/\u.2.2.2.1<n)/\H2 i=some (rdO l u.2.1)/\Own dM 7 H2 u.2.2.2.1 u.2.2.2.2 u.2.2.1/\ ∀id,id<d->id≠i->H2 id=H1 id)
   (fun u=>u.1) (x.toNat,pl+1,[],d+2,0) ⟨noF,_,by repeat' first|exact C1|refine xqI rfl rfl ?_|refine xqP (by omega) rfl rfl ?_|refine xqV rfl (by omega) ?_| (with_reducible apply C2)| ((with_reducible apply C0);exact CC)| ((with_reducible apply D0);apply CJ)|fail,aE,⟨by dsimp only;omega,by dsimp only;omega,by dsimp only;omega,fun q hq=>by simp at hq,by simp;omega⟩,by dsimp only;omega,r0,⟨0,r1,abG _,abG _⟩,rf⟩ ?_
  clear r0 r1 rf;rintro⟨j,pj,rs,b,cr⟩ H2 n ct ⟨⟨g1,g2,g3,g4,g5⟩,⟨g6,g7⟩,Z,⟨mr,s1,d1,d2⟩,P⟩ KN cw;dsimp only at g1 g2 g3 g4 g5 g6 g7 Z s1 d1 d2;have cx:rs.take rs.length=rs:=acI;have w:aO n [i,b]:=AM.apart (by simp;omega) (by simp;omega);simp only[aO,bG] at w;by_cases hj:0<j
  ·apply aJ.seq;repeat' first|apply vR<;>(simp only[go_sem])|apply vT (by omega)|fail
   apply aJ.seq;repeat' first| (first|apply vR|refine lg (p:=pj) hl (by omega) (by omega) Z (fun pq q eu ew bh=> ?_))<;>(simp only[go_sem,nL,Z,s1,w])|fail
   refine aJ.Wa (β:=Nat×Prog×Nat×Nat) (fun u=>en [(10,dP 7 (n+4)),(9,dI j),(8,.one (.c (.osl 7 u.2.2.1 0 u.2.1.length u.2.2.2))),(7,dI k),(5,dP 3 (nx+4)),(4,dP 3 nx),(1,dI 6),(0,dP 2 i)])
    (fun u H3 T=>(p<=u.1/\u.1<=pj+41/\(∀q∈u.2.1,cR q)/\u.2.1.length<=rs.length+1)/\(d<=u.2.2.1/\u.2.2.1<T/\u.2.2.1≠n+4)/\H3 i=some (rdO l u.1)/\H3 (n+4)=some ⟨7,1,[dM q]⟩/\Own dM 7 H3 u.2.2.1 u.2.2.2 u.2.1/\ ∀id,id<d->id≠i->H3 id=H1 id) (fun KJ ah=> ?_) ?_
   ·repeat' first| (first|apply vI|refine Y6 (fun h=> ?_) fun h=> ?_| (refine aM (p:=pq) hl (by omega) (by omega) (by omega) (by simp only[aA.set,aA.del,abH,Nat.reduceAdd,abJ,Nat.reduceEqDiff,abI,abK,if_true,if_false,w];done) (fun x s g=> ?_)))<;>(simp only[go_sem,nL,Z,s1,w,cx])|refine iE (fun h=> ?_) fun h=> ?_| (with_reducible first|refine fun(cap:Nat) (A:_<=cap)=> ?_|refine fun(ad:_<=cap)=> ?_)|refine⟨by omega,?_⟩|fail
    ·refine ah _ _ _ (pq+1,rs++[⟨q.id,3,q.addr,1,false,[],[]⟩],n+26,cap) noF (aA.set _ (n+26) ⟨7,cap,(rs++[(⟨q.id,3,q.addr,1,false,[],[]⟩:Req)]).map dM⟩) (by omega) (by dsimp only;rw[abL,List.length_singleton];repeat' first|exact C1|refine xqI rfl rfl ?_|refine xqP (by omega) rfl rfl ?_|refine xqO (by omega) rfl rfl (by rfl) ?_|fail)
      (vg aA.aI (ft (R:=rs.map dM) (r':=dM ⟨q.id,3,q.addr,1,false,[],[]⟩) (by simp) rfl (fun r hr=>(aN uh rs r hr).2) rfl (aG (bE rfl) (aG (bE rfl) (aG (bE rfl) (aG (bE rfl) (aG (bE rfl) (aG vZ (aG vZ cJ)))))))))
      ⟨⟨by dsimp only;omega,by dsimp only;omega,fun q' v=> ?_,by simp⟩,⟨by dsimp only;omega,by dsimp only;omega,by dsimp only;omega⟩,(by simp only[aA.set,aA.del,abH,Nat.reduceAdd,abJ,Nat.reduceEqDiff,abI,abK,if_true,if_false,w];done),(by simp only[aA.set,aA.del,abH,Nat.reduceAdd,abJ,Nat.reduceEqDiff,abI,abK,if_true,if_false,w];done),⟨cap,aA.aI,by simpa using A,abG _⟩,fun id s g=>by rw[aA.aB (by omega),aA.aB (by omega),aA.aB (by omega),aA.aB (by omega),aA.aB g,aA.cC (by omega)];exact P id s g⟩
     rcases abS.1 v with v|v
     ·exact g4 q' v
     ·simp at v;subst v;exact B7.Jk bh
    ·exact ah _ _ _ (pq+1,rs,b,cr) noF _ (by omega) (by dsimp only;repeat' first|exact C1|refine xqI rfl rfl ?_|refine xqP (by omega) rfl rfl ?_|refine xqO (by omega) rfl rfl (by rfl) ?_|fail) aE ⟨⟨by dsimp only;omega,by dsimp only;omega,g4,by dsimp only;omega⟩,⟨by dsimp only;omega,by dsimp only;omega,by dsimp only;omega⟩,(by simp only[aA.set,aA.del,abH,Nat.reduceAdd,abJ,Nat.reduceEqDiff,abI,abK,if_true,if_false,w];done),(by simp only[aA.set,aA.del,abH,Nat.reduceAdd,abJ,Nat.reduceEqDiff,abI,abK,if_true,if_false,w];done),⟨mr,(by simp only[aA.set,aA.del,abH,Nat.reduceAdd,abJ,Nat.reduceEqDiff,abI,abK,if_true,if_false,w,s1];done),d1,d2⟩,fun id s g=>by rw[aA.aB (by omega),aA.aB g];exact P id s g⟩
    all_goals exact ah _ _ _ (pq,rs,b,cr) noF _ (by omega) (by dsimp only;repeat' first|exact C1|refine xqI rfl rfl ?_|refine xqP (by omega) rfl rfl ?_|refine xqO (by omega) rfl rfl (by rfl) ?_|fail) aE ⟨⟨by dsimp only;omega,by dsimp only;omega,g4,by dsimp only;omega⟩,⟨by dsimp only;omega,by dsimp only;omega,by dsimp only;omega⟩,(by simp only[aA.set,aA.del,abH,Nat.reduceAdd,abJ,Nat.reduceEqDiff,abI,abK,if_true,if_false,w];done),(by simp only[aA.set,aA.del,abH,Nat.reduceAdd,abJ,Nat.reduceEqDiff,abI,abK,if_true,if_false,w];done),⟨mr,(by simp only[aA.set,aA.del,abH,Nat.reduceAdd,abJ,Nat.reduceEqDiff,abI,abK,if_true,if_false,w,s1];done),d1,d2⟩,fun id s g=>by rw[aA.aB (by omega),aA.aB g];exact P id s g⟩
   ·rintro⟨pk,rk,bk,ck⟩ H3 T cy ⟨⟨u1,u2,u3,u4⟩,⟨u5,u6,u7⟩,v0,v1,⟨mk,v2,w1,w2⟩,vf⟩;dsimp only at u1 u2 u3 u4 u5 u6 u7 v0 v2 w1 w2;have da:rk.take rk.length=rk:=acI;have o:aO T [i,bk,n+4]:=AM.apart (by simp;omega) (by simp;omega);simp only[aO,bG] at o;repeat' first|apply vI<;>(simp only[go_sem,nL,v0,v1,v2,o,da];try simp (disch:=omega) only[Iw])| (with_reducible first|refine fun(cap:Nat) (A:_<=cap)=> ?_|refine fun(ad:_<=cap)=> ?_)|refine⟨by omega,?_⟩|fail
    refine cw _ _ _ (j-1,pk,rk++[q],T+3,cap) noF _ (by omega) (by dsimp only;omega) (by dsimp only;rw[abL,List.length_singleton];repeat' first|exact C1|refine xqI rfl rfl ?_|refine xqP (by omega) rfl rfl ?_|refine xqO (by omega) rfl rfl (by rfl) ?_|refine xqV rfl (by omega) ?_|fail) aE ⟨⟨by dsimp only;omega,by dsimp only;omega,by dsimp only;omega,fun q' v=> ?_,by simp;omega⟩,⟨by dsimp only;omega,by dsimp only;omega⟩,(by simp only[aA.set,aA.del,abH,Nat.reduceAdd,abJ,Nat.reduceEqDiff,abI,abK,if_true,if_false,o,v0];done),⟨cap,(by simp only[aA.set,aA.del,abH,Nat.reduceAdd,abJ,Nat.reduceEqDiff,abI,abK,if_true,if_false,o];done),by simpa using A,abG _⟩,fun id s g=>by rw[aA.aB (by omega),aA.aB (by omega),aA.cC (by omega)];exact vf id s g⟩;rcases abS.1 v with v|v;·exact u3 q' v
    ·simp at v;subst v;exact bh
  ·have dc:(rs.length:Int)<=12:=(by omega);have s2:=(P (nx+4) (by omega) (by omega)).trans D;have s3:=(P M (by omega) (by omega)).trans q4;have o:aO n [i,b,nx+4,M]:=AM.apart (by simp;omega) (by simp;omega);simp only[aO,bG] at o;have hM: ∀G:aA,msk (n+2) [7] G (nx+4)=G (nx+4):=fun G=>mk1 (by omega)
   have ff:rows.length=k:=by
    by_cases h0:k=0;·rw[q6 h0,h0];rfl
    ·obtain⟨_,e,Y,_⟩:=q5 (by omega);rw[e,List.length_cons,abT];exact Y
   have df:rows.take k=rows:=abM (by omega);have dh:(if (12:Int)<(rs.length:Int) then (12:Int) else (rs.length:Int)).toNat=rs.length:=(by rw[if_neg (by omega)];simp);repeat' first|apply vI<;>(simp only[go_sem,nL,Z,s1,s2,s3,o,hM,df,dh];try simp (disch:=omega) only[Iw])|apply vF (by omega)| (with_reducible first|refine fun(cap:Nat) (A:_<=cap)=> ?_|refine fun(ad:_<=cap)=> ?_)|refine⟨by omega,?_⟩|fail
   have br:rs.length<=12/\ ∀q∈rs,cR q:=⟨by omega,g4⟩
   have ao: ∀(G:aA),(∀id,id<nx->id≠i->G id=H2 id)->∀id,id<nx->id≠i->G id=H id:=fun G E id s g=>by rw[E id s g,P id (by omega) g];exact O id s g
   have aw:Own aH 1 H2 bl J I:=L.of (P bl (by omega) (by omega));have s4:=(P nx (by omega) (by omega)).trans C;by_cases h0:k=0
   ·subst h0;rw[q6 rfl]
    exact S _ _ _ (1,pj,([[.osl 7 b 0 rs.length cr]],n+10,cap),(rs,b,cr),[]) noF _ (by omega) (by dsimp only;omega) (by dsimp only;repeat' first|exact C1|refine xqI rfl rfl ?_|refine xqP (by omega) rfl rfl ?_|fail) aE ⟨by dsimp only;omega,(by simp only[aA.set,aA.del,abH,Nat.reduceAdd,abJ,Nat.reduceEqDiff,abI,abK,if_true,if_false,o,Z];done),by rw[aA.aB (by omega),aA.aB (by omega),aA.aB (by omega),aA.cC (by omega)];exact s4,(by simp only[aA.set,aA.del,abH,Nat.reduceAdd,abJ,Nat.reduceEqDiff,abI,abK,if_true,if_false,o];done),aw.of (by rw[aA.aB (by omega),aA.aB (by omega),aA.aB (by omega),aA.cC (by omega)]),⟨cap,(by simp only[aA.set,aA.del,abH,Nat.reduceAdd,abJ,Nat.reduceEqDiff,abI,abK,if_true,if_false,o,List.nil_append];done),by dsimp only;omega,by dsimp only;omega⟩,
     fun _=>⟨⟨mr,(by simp only[aA.set,aA.del,abH,Nat.reduceAdd,abJ,Nat.reduceEqDiff,abI,abK,if_true,if_false,o,s1];done),d1,d2⟩,rfl,rfl,fun W y=>by(simp at y;subst y;exact br),by dsimp only;omega,by dsimp only;omega,by simp;omega⟩,fun h=>by dsimp only at h;omega,ao _ fun id s g=>by rw[aA.aB (by omega),aA.aB (by omega),aA.aB (by omega),aA.cC (by omega)]⟩
   ·obtain⟨o0,bw,ds,bb,dv,dx,U⟩:=q5 (by omega);generalize E:aA.set _ (nx+4) _=V;have E:=E.symm;have t0:V i=some (rdO l pj):=(by rw[E];exact(by simp only[aA.set,aA.del,abH,Nat.reduceAdd,abJ,Nat.reduceEqDiff,abI,abK,if_true,if_false,o,Z];done));have t1:V nx=some ⟨3,1,[[.osl 0 0 0 0 0,.osl 0 0 0 0 0,.osl 0 0 0 0 0]]⟩:=(by rw[E,aA.aB (by omega),aA.aB (by omega),aA.aB (by omega),aA.cC (by omega)];exact s4);have t2:V (nx+4)=some ⟨3,1,[[.isl (m.map cX),.osl 1 bl 0 4 J,.osl 1 (n+10) 0 (k+1) cap]]⟩:=(by rw[E];exact(by simp only[aA.set,aA.del,abH,Nat.reduceAdd,abJ,Nat.reduceEqDiff,abI,abK,if_true,if_false,o];done));have t3:Own aH 1 V bl J I:=aw.of (by rw[E,aA.aB (by omega),aA.aB (by omega),aA.aB (by omega),aA.cC (by omega)]);have t4:V (n+10)=some ⟨1,cap,rows++[[.osl 7 b 0 rs.length cr]]⟩:=(by rw[E];exact(by simp only[aA.set,aA.del,abH,Nat.reduceAdd,abJ,Nat.reduceEqDiff,abI,abK,if_true,if_false,o];done));have t5:V b=some ⟨7,mr,rs.map dM⟩:=(by rw[E];exact(by simp only[aA.set,aA.del,abH,Nat.reduceAdd,abJ,Nat.reduceEqDiff,abI,abK,if_true,if_false,o,s1];done));have dy:b0≠M:=(by simp at U;omega);have fh:b0≠bl:=(by simp at U;omega);have t6:Own dM 7 V b0 c0 R0:=o0.of (by rw[E,aA.aB (by omega),aA.aB (by omega),aA.aB (by omega),aA.cC dy];exact P b0 (by omega) (by omega));have tf: ∀id,id<nx->id≠i->V id=H id:=ao _ fun id s g=>by rw[E,aA.aB (by omega),aA.aB (by omega),aA.aB (by omega),aA.cC (by omega)]
    clear E Z s1 s2 s3 s4 B C D L q4 aw O P ao
    refine S _ _ _ (k+1,pj,(rows++[kN rs],n+10,cap),(R0,b0,c0),Ps++[rs]) (fun t=>t=b) ((without (fun t=>t=b) V).set (n+10) ⟨1,cap,rows++[kN rs]⟩) (by omega) (by dsimp only;omega) (by dsimp only;repeat' first|exact C1|refine xqI rfl rfl ?_|refine xqP (by omega) rfl rfl ?_|fail)
     (vv (t:=n+10) (o':=⟨1,cap,rows++[kN rs]⟩) (fun j hj=>by have fi:j=b:=hj;rw[aA.aB (by omega)];exact if_pos hj) aA.aI t4 (by omega) (Ym (Nx (by rw[bw];exact qz (aG (.osl _ _ _ _ _ (by omega)) cJ) (Rp fun r hr=>(aN dr _ r hr).2)) (qz (aG (cP uh t5 rfl d1 rfl) cJ) Pa))) fun j dz eb=>by rw[aA.aB dz,b9 (F:=fun t=>t=b) eb])
     ⟨by dsimp only;omega,by rw[aA.aB (by omega),b9 (by omega)];exact t0,by rw[aA.aB (by omega),b9 (by omega)];exact t1,by rw[aA.aB (by omega),b9 (by omega)];exact t2,t3.of (by rw[aA.aB (by omega),b9 (by omega)]),⟨cap,aA.aI,by dsimp only;omega,abG _⟩,
      fun _=>⟨t6.of (by(try dsimp only);rw[aA.aB (by omega),b9 (by omega)]),by dsimp only;rw[bw,abU];rfl,by dsimp only;rw[abL,List.length_singleton];omega,fun W y=> ?_,by dsimp only;omega,by dsimp only;omega,by simp;omega⟩,fun h=>by dsimp only at h;omega,fun id s g=>by rw[aA.aB (by omega),b9 (by omega)];exact tf id s g⟩
    rw[<-List.cons_append,abS] at y;rcases y with y|y;·exact bb W y
    ·simp at y;subst y;exact br
 have ed:k=3:=by omega
 subst ed
 obtain⟨o0,rfl,ds,bb,dv,dx,U⟩:=q5 (by omega)
 repeat' first|apply vI<;>(simp only[go_sem,nL,B,C,D,a])|apply vF (by omega)|fail
 have hh:=fun H'=>h H' (d+4) pl m I R0 Ps bl J M cp mp b0 c0 f2 (by omega) aa ⟨cq,ab⟩ (by omega) bb
 exact hQ _ _ _ _ _ (.inr rfl) (gP (m:=1) rfl aA.aI rfl) (hh _ (by simp only[aA.set,aA.del,abH,Nat.reduceAdd,abJ,Nat.reduceEqDiff,abI,abK,if_true,if_false,a,B];done) (L.of (by rw[aA.aB (by omega)])) (o0.of (by rw[aA.aB (by omega)])) (by simp only[aA.set,aA.del,abH,Nat.reduceAdd,abJ,Nat.reduceEqDiff,abI,abK,if_true,if_false,a,q4];done) (by omega) Y (by omega) (by omega) (by omega) (by omega) (by omega) (by omega) U fun id s g=>by rw[aA.aB (by omega)];exact O id s g)
theorem ag{F:Nat->Prop}{a mp b0 c0 c len0:Nat}{b:Prog}{Ps:List Prog}(h:H a=some ⟨1,mp,[.osl 7 b0 0 len0 c0]::Ps.map kN⟩)(d:len0=b.length)(o:Own dM 7 H b0 c0 b)(e:F a)(f:F b0)(hc:Ps.length+1<=c):Frz H F (.isl ((b::Ps).map kN)) (.osl 1 a 0 (Ps.length+1) c):=by
 subst d;obtain⟨m,g,j,k⟩:=o;refine IB e h rfl (by simp) (by simp) hc fun i r' hr=> ?_;rw[acS]
 match i with
 |0=>simp only[abZ,List.getElem?_cons_zero,Option.some.injEq] at hr;subst hr;exact⟨rfl,_,rfl,bZ (I6 (σ:=id) (nh:=0) rfl (cP uh g rfl j f)) xC⟩
 |i+1=>rw[abZ,List.getElem?_cons_succ] at hr;have:=aN dr _ _ (abV hr);exact⟨this.1,r',hr,ZD this.2⟩
theorem Ve{F:Nat->Prop}{a mp b:Nat}{r:List D1}{Ps:List Prog}(h:H a=some ⟨1,mp,r::Ps.map kN⟩)(c:F a){len:Nat}(hl:len=Ps.length)(hc:len<=b):Frz H F (.isl (Ps.map kN)) (.osl 1 a 1 len b):=by subst hl;refine IB c h rfl (by simp) (by simp;omega) hc fun i r' hr=> ?_;have:=aN dr _ _ (abV hr);exact⟨this.1,r',by rw[ad4];exact hr,ZD this.2⟩
theorem Sm{m:List Rng}{c:List Int}{P:List Prog}(f:m.length<=8)(g:c.length<=4)(h:P.length<=3)(d: ∀b∈P,b.length<=13/\ ∀q∈b,q.data.length<=8/\q.lanes.length<=8):iN ⟨m,c,P⟩:=⟨by dsimp only;omega,by dsimp only;omega,by dsimp only;omega,fun b a=>by have:=(d b a).1;omega,fun b a q e=>by have:=(d b a).2 q e;omega⟩
theorem Kn{q:Req}(h:cR q):q.data.length<=8/\q.lanes.length<=8:=by obtain⟨_,_,⟨c,_⟩,a,b,_⟩:=h;unfold nG at a b;split at a<;>omega
theorem XE{l:List Int}{p i:Nat}{n:Int}(hn:0<n/\n<9000)(hl:fW l)(bh:p+1200<2^50)(hi:i<nx)(ho:H i=some (rdO l p))
 (h: ∀H' nx' p' (c:Cfg),nx<=nx'->iN c->p<=p'->p'<=p+1200->H' i=some (rdO l p')->(∀id,id<nx->id≠i->H' id=H id)->K (dA (bI c)) H' nx'):afB BU [dP 2 i,dI n] H nx K:=by
 apply aC.kH
 refine bR.mk Tryz.func117 (by kernel_rfl) UG rfl fun Q hQ=> ?_
 unfold pP
 have hA:aO nx [i]:=AM.apart (by simp) (by simp;omega)
 simp only[aO,bG] at hA
 repeat' first| (first|apply vI| (refine NX (p:=p) hl (by omega) (by omega) (by rw[aA.aB (by omega)];exact ho) (fun H1 f pb m P s Ps bl cl t cp mp b0 c0 g e h3 h4 h5 T E B I C e1 e2 u1 u2 u3 u4 u5 u6 bk N=> ?_)))<;>(simp only[go_sem,nL,hA])|fail
 have h3:=h3.1
 have h4:=h4.1
 have T: ∀w∈s::Ps,w.length<=12/\ ∀q∈w,q.data.length<=8/\q.lanes.length<=8:=fun w b=>⟨(T w b).1,fun q hq=>Kn ((T w b).2 q hq)⟩
 have J:H1 nx=some ⟨3,1,[[.osl 0 0 0 0 0,.osl 0 0 0 0 0,.osl 0 0 0 0 0]]⟩:=by rw[N _ (by omega) (by omega)];exact aA.aI
 have N: ∀id,id<nx->id≠i->H1 id=H id:=fun id g e=>by rw[N id (by omega) e,aA.aB (by omega)]
 have ck: ¬bl=t/\ ¬bl=b0/\ ¬t=b0:=by simp at bk;omega
 generalize u:H1.set (nx+3) _=G
 have u:=u.symm
 have r0:G i=some (rdO l pb):=by rw[u,aA.aB (by omega)];exact E
 have r1:G nx=some ⟨3,1,[[.osl 0 0 0 0 0,.osl 0 0 0 0 0,.osl 0 0 0 0 0]]⟩:=by rw[u,aA.aB (by omega)];exact J
 have r2:G (nx+3)=some ⟨3,1,[[.isl (m.map cX),.osl 1 bl 0 4 cl,.osl 1 t 0 3 cp]]⟩:=by rw[u];exact aA.aI
 obtain⟨ml,r3,d1,d2⟩:Own aH 1 G bl cl P:=B.of (by rw[u,aA.aB (by omega)])
 have r4:G t=some ⟨1,mp,[.osl 7 b0 0 s.length c0]::Ps.map kN⟩:=by rw[u,aA.aB (by omega)];exact C
 obtain⟨mr,r5,d3,d4⟩:Own dM 7 G b0 c0 s:=I.of (by rw[u,aA.aB (by omega)])
 have rf: ∀id,id<nx->id≠i->G id=H id:=fun id g e=>by rw[u,aA.aB (by omega)];exact N id g e
 clear u E J B C I N
 have a:aO f [i,nx,nx+3,bl,t,b0]:=AM.apart (by simp;omega) (by simp;omega)
 simp only[aO,bG] at a
 have A: ∀(o:aA) (X:Nat) (m':List Rng) (Y:List Int) (P':List Prog) (d1 d2 d3:D1) (R:Nat) (F:Nat->Prop),f<=X->o nx=some ⟨3,1,[[d1,d2,d3]]⟩->m'.length<=8->Y.length<=4->P'.length<=3->(∀w∈P',w.length<=13/\ ∀q∈w,q.data.length<=8/\q.lanes.length<=8)->p<=R->R<=p+1200->o i=some (rdO l R)->(∀id,id<nx->id≠i->o id=H id)->(∀j,F j->nx+5<=j)->Frz o F (.isl (m'.map cX)) d1->Frz o F (.isl (Y.map aH)) d2->Frz o F (.isl (P'.map kN)) d3->
  ∀{e2:Env},e2 4= .one (.c (.ptr 3 nx 0 0))->Q .ret e2 o X:=fun o X m' Y P' d1 d2 d3 R F g1 g2 g3 g4 g5 g6 g7 g8 g9 br ab bw ca cc e2 he=>by
  refine hQ _ _ _ _ _ (.inr rfl) (gP (m:=1) he g2 rfl) ⟨dA (bI ⟨m',Y,P'⟩),without F o,F,nM (bZ bw (bZ ca (bZ cc xC))),eV,h _ X R _ (by omega) (Sm g3 g4 g5 g6) g7 g8 (by rw[b9 fun Z=>by have:=ab _ Z;omega];exact g9) fun id g e=>by rw[b9 fun Z=>by have:=ab _ Z;omega];exact br id g e⟩
 have fl: ∀(o:aA) (F:Nat->Prop) (L:List Int),L.length=4->o bl=some ⟨1,ml,L.map aH⟩->F bl->Frz o F (.isl (L.map aH)) (.osl 1 bl 0 4 cl):=fun o F L h0 g e=>I6 (σ:=id) (nh:=0) rfl (cP aV g h0.symm (by omega) e)
 have fp: ∀(o:aA) (F:Nat->Prop),o t=some ⟨1,mp,[.osl 7 b0 0 s.length c0]::Ps.map kN⟩->o b0=some ⟨7,mr,s.map dM⟩->F t->F b0->Frz o F (.isl ((s::Ps).map kN)) (.osl 1 t 0 3 cp):=fun o F g e h7 h8=>by have:=ag (F:=F) g rfl ⟨mr,e,d3,d4⟩ h7 h8 (show Ps.length+1<=cp by omega);rwa [show Ps.length+1=3 by omega] at this
 (try simp only[go_sem,nL,r0,r1,r2,r3,r4,r5,a]);repeat' first| (first|apply vI|refine eX (p:=pb) hn hl (by omega) (by omega) r0 (fun W bb ad ah _=> ?_))<;>(simp only[go_sem,nL,r0,r1,r2,r3,r4,r5,a])| ((refine y5 (fun h=> ?_) (fun h=> ?_))<;>try subst h)|fail
 case refine_2=>exact A _ _ m P (s::Ps) _ _ _ W (fun j=>j=bl\/j=t\/j=b0) (by omega) aA.aI (by omega) (by omega) (by simp;omega) (fun w b=>by have:=T w b;exact⟨by omega,this.2⟩) (by omega) (by omega) (by simp only[aA.set,aA.del,abH,Nat.reduceAdd,abJ,Nat.reduceEqDiff,abI,abK,if_true,if_false,a];done) (fun id g e=>by rw[aA.aB (by omega),aA.aB e];exact rf id g e) (fun j Z=>by omega) (.same _ rfl) (fl _ _ _ h4 (by simp only[aA.set,aA.del,abH,Nat.reduceAdd,abJ,Nat.reduceEqDiff,abI,abK,if_true,if_false,a,r3];done) (.inl rfl)) (fp _ _ (by simp only[aA.set,aA.del,abH,Nat.reduceAdd,abJ,Nat.reduceEqDiff,abI,abK,if_true,if_false,a,r4];done) (by simp only[aA.set,aA.del,abH,Nat.reduceAdd,abJ,Nat.reduceEqDiff,abI,abK,if_true,if_false,a,r5];done) (.inr (.inl rfl)) (.inr (.inr rfl))) rfl
 generalize u:aA.set G i _=o
 have u:=u.symm
 have E:o i=some (rdO l W):=by rw[u];exact aA.aI
 have J:o nx=some ⟨3,1,[[.osl 0 0 0 0 0,.osl 0 0 0 0 0,.osl 0 0 0 0 0]]⟩:=by rw[u,aA.aB (by omega)];exact r1
 have S:o (nx+3)=some ⟨3,1,[[.isl (m.map cX),.osl 1 bl 0 4 cl,.osl 1 t 0 3 cp]]⟩:=by rw[u,aA.aB (by omega)];exact r2
 have B:o bl=some ⟨1,ml,P.map aH⟩:=by rw[u,aA.aB (by omega)];exact r3
 have C:o t=some ⟨1,mp,[.osl 7 b0 0 s.length c0]::Ps.map kN⟩:=by rw[u,aA.aB (by omega)];exact r4
 have I:o b0=some ⟨7,mr,s.map dM⟩:=by rw[u,aA.aB (by omega)];exact r5
 have N: ∀id,id<nx->id≠i->o id=H id:=fun id g e=>by rw[u,aA.aB e];exact rf id g e
 clear u r0 r1 r2 r3 r4 r5 rf
 have O: ∀(d k:Nat) (G:aA),msk (f+d) [k] G (nx+3)=G (nx+3):=fun d k G=>mk1 (by omega)
 refine aM (p:=W) hl (by omega) (by omega) (by omega) E fun x g e=> ?_
 (try simp only[go_sem,nL,E,J,S,B,C,I,a,O]);repeat' first| (first|apply vI|refine fa (p:=W+1) hl (by omega) (by omega) aA.aI (fun p2 m2 ad ah ao=> ?_))<;>(simp only[go_sem,nL,E,J,S,B,C,I,a,O])|refine iE (fun h=> ?_) fun h=> ?_|refine⟨by omega,?_⟩|fail
 ·exact A _ _ m2 P (s::Ps) _ _ _ p2 (fun j=>j=bl\/j=t\/j=b0) (by omega) aA.aI (by omega) (by omega) (by simp;omega) (fun w b=>by have:=T w b;exact⟨by omega,this.2⟩) (by omega) (by omega) (by simp only[aA.set,aA.del,abH,Nat.reduceAdd,abJ,Nat.reduceEqDiff,abI,abK,if_true,if_false,a];done) (fun id g e=>by rw[aA.aB (by omega),aA.aB (by omega),aA.aB e];exact N id g e) (fun j Z=>by omega) (.same _ rfl) (fl _ _ _ h4 (by simp only[aA.set,aA.del,abH,Nat.reduceAdd,abJ,Nat.reduceEqDiff,abI,abK,if_true,if_false,a,B];done) (.inl rfl)) (fp _ _ (by simp only[aA.set,aA.del,abH,Nat.reduceAdd,abJ,Nat.reduceEqDiff,abI,abK,if_true,if_false,a,C];done) (by simp only[aA.set,aA.del,abH,Nat.reduceAdd,abJ,Nat.reduceEqDiff,abI,abK,if_true,if_false,a,I];done) (.inr (.inl rfl)) (.inr (.inr rfl))) rfl
 ·refine aM (p:=W+1) hl (by omega) (by omega) (by omega) aA.aI fun y cq cr=> ?_;(try simp only[go_sem,nL,E,J,S,B,C,I,a,O]);repeat' first|apply vI<;>(simp only[go_sem,nL,E,J,S,B,C,I,a,O])|fail
  generalize D:dF (f+9) [4] _ (msk (f+9) [4] o)=U;have k1:U nx=some ⟨3,1,[[.osl 0 0 0 0 0,.osl 0 0 0 0 0,.osl 0 0 0 0 0]]⟩:=by rw[<-D,um1 (by omega),mk1 (by omega)];exact J
  have k2:U (nx+3)=some ⟨3,1,[[.isl (m.map cX),.osl 1 bl 0 4 cl,.osl 1 t 0 3 cp]]⟩:=by rw[<-D,um1 (by omega),mk1 (by omega)];exact S
  have k3:U bl=some ⟨1,ml,P.map aH⟩:=by rw[<-D,um1 (by omega),mk1 (by omega)];exact B
  have k4:U t=some ⟨1,mp,[.osl 7 b0 0 s.length c0]::Ps.map kN⟩:=by rw[<-D,um1 (by omega),mk1 (by omega)];exact C
  have k5:U b0=some ⟨7,mr,s.map dM⟩:=by rw[<-D,um1 (by omega),mk1 (by omega)];exact I
  have kf: ∀id,id<nx->id≠i->U id=H id:=fun id g e=>by rw[<-D,um1 (by omega),mk1 (by omega)];exact N id g e
  have k6:U (f+9+4)=some ⟨1,2,[[.v (.int .i64 (-1))],[.v (.int .i64 4)]]⟩:=by rw[<-D,yt];exact aA.aI
  clear D E J S B C I N;refine⟨fun _=>by rw[k2];rfl,?_⟩;refine aM (p:=W+2) hl (by omega) (by omega) (by omega) aA.aI fun z cd ct=> ?_;(try simp only[go_sem,nL,k2,a,O]);repeat' first|apply vI<;>(simp only[go_sem,nL,k2,a,O])|fail
  generalize D:dF (f+9) [4] _ (msk (f+9) [4] U)=V;have t1:V nx=some ⟨3,1,[[.osl 0 0 0 0 0,.osl 0 0 0 0 0,.osl 0 0 0 0 0]]⟩:=by rw[<-D,um1 (by omega),mk1 (by omega)];exact k1
  have t2:V (nx+3)=some ⟨3,1,[[.isl (m.map cX),.osl 1 bl 0 4 cl,.osl 1 t 0 3 cp]]⟩:=by rw[<-D,um1 (by omega),mk1 (by omega)];exact k2
  have t3:V bl=some ⟨1,ml,P.map aH⟩:=by rw[<-D,um1 (by omega),mk1 (by omega)];exact k3
  have t4:V t=some ⟨1,mp,[.osl 7 b0 0 s.length c0]::Ps.map kN⟩:=by rw[<-D,um1 (by omega),mk1 (by omega)];exact k4
  have t5:V b0=some ⟨7,mr,s.map dM⟩:=by rw[<-D,um1 (by omega),mk1 (by omega)];exact k5
  have tf: ∀id,id<nx->id≠i->V id=H id:=fun id g e=>by rw[<-D,um1 (by omega),mk1 (by omega)];exact kf id g e
  have t6:V (f+13)=some ⟨1,2,[[.v (.int .i64 (-1))],[.v (.int .i64 4)]]⟩:=by rw[show f+13=f+9+4 from rfl,<-D,yt,aA.aB (by omega)];exact k6
  clear D k1 k2 k3 k4 k5 k6 kf;refine⟨fun _=>by rw[t2];rfl,by omega,?_⟩;obtain⟨v,hv⟩:=pY (L:=[[.v (.int .i64 (-1))],[.v (.int .i64 4)]]) (by simp) cd (by simp;omega);(try simp only[go_sem,nL,t1,t2,t3,t4,t5,t6,hv,a,O]);repeat' first|apply vI<;>(simp only[go_sem,nL,t1,t2,t3,t4,t5,t6,hv,a,O])|refine⟨by omega,?_⟩|fail
  exact A _ _ m (P.set y.toNat v) (s::Ps) _ _ _ (W+3) (fun j=>j=bl\/j=t\/j=b0) (by omega) aA.aI (by omega) (by simp;omega) (by simp;omega) (fun w b=>by have:=T w b;exact⟨by omega,this.2⟩) (by omega) (by omega) (by simp only[aA.set,aA.del,abH,Nat.reduceAdd,abJ,Nat.reduceEqDiff,abI,abK,if_true,if_false,a];done) (fun id g e=>by rw[aA.aB (by omega),aA.aB (by omega),aA.aB e];exact tf id g e) (fun j Z=>by omega) (.same _ rfl) (fl _ _ _ (by simp;omega) (by simp only[aA.set,aA.del,abH,Nat.reduceAdd,abJ,Nat.reduceEqDiff,abI,abK,if_true,if_false,a];done) (.inl rfl)) (fp _ _ (by simp only[aA.set,aA.del,abH,Nat.reduceAdd,abJ,Nat.reduceEqDiff,abI,abK,if_true,if_false,a,t4];done) (by simp only[aA.set,aA.del,abH,Nat.reduceAdd,abJ,Nat.reduceEqDiff,abI,abK,if_true,if_false,a,t5];done) (.inr (.inl rfl)) (.inr (.inr rfl))) rfl
 ·exact A _ _ m (P.drop 1) (s::Ps) _ _ _ (W+1) (fun j=>j=bl\/j=t\/j=b0) (by omega) aA.aI (by omega) (by simp;omega) (by simp;omega) (fun w b=>by have:=T w b;exact⟨by omega,this.2⟩) (by omega) (by omega) (by simp only[aA.set,aA.del,abH,Nat.reduceAdd,abJ,Nat.reduceEqDiff,abI,abK,if_true,if_false,a,E];done) (fun id g e=>by rw[aA.aB (by omega),aA.aB (by omega),aA.aB e];exact N id g e) (fun j Z=>by omega) (.same _ rfl) (I6 (σ:=id) (nh:=0) rfl (ZF (aN aV _) (by simp;omega) (.inl rfl) (show aA.set _ nx _ bl=some ⟨1,ml,P.map aH⟩ from (by simp only[aA.set,aA.del,abH,Nat.reduceAdd,abJ,Nat.reduceEqDiff,abI,abK,if_true,if_false,a,B];done)) rfl (by simp;omega) (by rw[abM (by simp),acZ]) (by simp;omega))) (fp _ _ (by simp only[aA.set,aA.del,abH,Nat.reduceAdd,abJ,Nat.reduceEqDiff,abI,abK,if_true,if_false,a,C];done) (by simp only[aA.set,aA.del,abH,Nat.reduceAdd,abJ,Nat.reduceEqDiff,abI,abK,if_true,if_false,a,I];done) (.inr (.inl rfl)) (.inr (.inr rfl))) rfl
 ·exact A _ _ m P Ps _ _ _ (W+1) (fun j=>j=bl\/j=t\/j=b0) (by omega) aA.aI (by omega) (by omega) (by omega) (fun w b=>by have:=T w (acL _ b);exact⟨by omega,this.2⟩) (by omega) (by omega) (by simp only[aA.set,aA.del,abH,Nat.reduceAdd,abJ,Nat.reduceEqDiff,abI,abK,if_true,if_false,a,E];done) (fun id g e=>by rw[aA.aB (by omega),aA.aB (by omega),aA.aB e];exact N id g e) (fun j Z=>by omega) (.same _ rfl) (fl _ _ _ h4 (by simp only[aA.set,aA.del,abH,Nat.reduceAdd,abJ,Nat.reduceEqDiff,abI,abK,if_true,if_false,a,B];done) (.inl rfl)) (Ve (Ps:=Ps) (mp:=mp) (r:=[.osl 7 b0 0 s.length c0]) (by simp only[aA.set,aA.del,abH,Nat.reduceAdd,abJ,Nat.reduceEqDiff,abI,abK,if_true,if_false,a,C];done) (.inr (.inl rfl)) h5.symm (by omega)) rfl
 ·have hN: ∀(d k:Nat) (G:aA),msk (f+d) [k] G t=G t:=fun d k G=>mk1 (by omega);have aw:s.take s.length=s:=acI;(try simp only[go_sem,nL,E,J,S,B,C,I,a,O,hN]);repeat' first|apply vI<;>(simp only[go_sem,nL,E,J,S,B,C,I,a,O,hN])|fail
  refine db (p:=W+1) hl (by omega) (by omega) aA.aI fun p2 q ad ah ao=> ?_;(try simp only[go_sem,nL,E,J,S,B,C,I,a,O,hN,aw]);repeat' first|apply vI<;>(simp only[go_sem,nL,E,J,S,B,C,I,a,O,hN,aw])|refine⟨by omega,?_⟩|fail
  have cf:=T s (by simp);refine⟨by omega,fun cap aa _=>⟨by omega,?_⟩⟩;try apply kI
  repeat' first|apply vI<;>(simp only[go_sem,E,J,S,B,C,I,a])|fail
  refine A _ _ m P ((s++[q])::Ps) _ _ _ p2 (fun j=>j=bl\/j=t\/j=f+22) (by omega) aA.aI (by omega) (by omega) (by simp;omega) (fun w b=> ?_) (by omega) (by omega) (by simp only[aA.set,aA.del,abH,Nat.reduceAdd,abJ,Nat.reduceEqDiff,abI,abK,if_true,if_false,a];done) (fun id g e=>by rw[aA.aB (by omega),aA.aB (by omega),aA.aB (by omega),aA.aB (by omega),aA.aB e,aA.cC (by omega)];exact N id g e) (fun j Z=>by omega) (.same _ rfl) (fl _ _ _ h4 (by simp only[aA.set,aA.del,abH,Nat.reduceAdd,abJ,Nat.reduceEqDiff,abI,abK,if_true,if_false,a,B];done) (.inl rfl)) ?_ rfl
  ·rcases abQ.1 b with b|b
   ·subst b;refine⟨by rw[abL,List.length_singleton];omega,fun q' M=> ?_⟩;rcases abS.1 M with M|M;·exact cf.2 q' M
    ·simp at M;subst M;exact ao
   ·have:=T w (acL _ b);exact⟨by omega,this.2⟩
  ·have e3:(3:Nat)=Ps.length+1:=(by omega);rw[e3];exact ag (mp:=mp) (b0:=f+22) (c0:=cap) (len0:=s.length+1) (by simp only[aA.set,aA.del,abH,Nat.reduceAdd,abJ,Nat.reduceEqDiff,abI,abK,if_true,if_false,a];done) (by simp) ⟨cap,(by simp only[aA.set,aA.del,abH,Nat.reduceAdd,abJ,Nat.reduceEqDiff,abI,abK,if_true,if_false,a];done),by simpa using aa,abG _⟩ (.inr (.inl rfl)) (.inr (.inr rfl)) (by omega)
theorem PU{a:List gD}{b:List gD}(p:a.length<2^40)(q:b.length<2^40)(h:K (dB (decide (a=b))) H nx):afB zV [dS (a.map eCJ),dS (b.map eCJ)] H nx K:=by
 refine aC.pure (args0:=[dS (a.map eCJ),dS (b.map eCJ)]) (R:=fun m=>m=dB (decide (a=b))) ?_ rfl (aK ⟨aF rfl,aF rfl,trivial⟩) (fun r hr=>hr▸h);clear h;refine aR.mk Tryz.func102 (by kernel_rfl) ZX rfl fun Q f=> ?_;unfold wP;by_cases hl:a.length=b.length
 ·repeat' first|apply vI<;>(simp only[go_sem])|apply vF (by omega)|fail
  (refine aJ.loop (α:={k:Nat//k<=a.length/\(∀i,i<k->a.getD i default=b.getD i default)}) (fun u=>en [(5,dI u.1),(1,dS (b.map eCJ)),(0,dS (a.map eCJ))]) (fun _=>.nil) _ (fun u=>a.length-u.1) ⟨0,by omega,(by intros;first|trivial|omega)⟩ (bF (abG _) (by repeat' first|exact C1|refine xqI rfl rfl ?_|fail)) ?_);(rintro⟨k,s,hinv⟩ t g);by_cases o:k<a.length
  ·have d:A4 (eCJ (a.getD k default))=some [(a.getD k default).who,(a.getD k default).n,(a.getD k default).left]:=rfl;have e:A4 (eCJ (b.getD k default))=some [(b.getD k default).who,(b.getD k default).n,(b.getD k default).left]:=rfl;have j: ¬a.getD k default=b.getD k default->¬a=b:=fun d e=>d (by rw[e]);have heq:[(a.getD k default).who,(a.getD k default).n,(a.getD k default).left]=[(b.getD k default).who,(b.getD k default).n,(b.getD k default).left]↔a.getD k default=b.getD k default:=(by generalize a.getD k default=x;generalize b.getD k default=y;obtain⟨v,x2,w⟩:=x;obtain⟨z,A,B⟩:=y;simp);generalize C:[(a.getD k default).who,(a.getD k default).n,(a.getD k default).left]=X at*;generalize D:[(b.getD k default).who,(b.getD k default).n,(b.getD k default).left]=Y at*;by_cases c:X=Y
   ·have l:(¬X=Y)=False:=eq_false (Classical.not_not.2 c);repeat' first|apply vI<;>(simp only[go_sem,d,e,c];try simp (disch:=omega) only[Iw])|apply vT (by omega)|refine⟨by omega,?_⟩|fail
    (refine g _ _ _ ⟨k+1,by omega,bL hinv (heq.1 c)⟩ (by omega) (by(try dsimp only);omega) (bF (abG _) (by repeat' first|exact C1|refine xqI rfl rfl ?_|fail)))
   ·have l:(X=Y)=False:=eq_false c;repeat' first|apply vI<;>(simp only[go_sem,d,e,l])|apply vT (by omega)|refine⟨by omega,?_⟩|fail
    refine aP f _ rfl rfl (fX (j fun he=>c (heq.2 he)))
  ·repeat' first|apply vI<;>(simp only[go_sem])|apply vF (by omega)|fail
   refine aP f _ rfl rfl (l8 (yV hl fun i hi=>hinv i (by omega)))
 ·repeat' first|apply vI<;>(simp only[go_sem])|apply vT (by omega)|fail
  refine aP f _ rfl rfl (fX fun he=>hl (by rw[he]))
theorem va(a b:CSt)(g:CSz a)(l:CSz b):afB i7 [dA (bK a),dA (bK b)] .nil 0 fun r _ _=>r.plain=true/\r=dB (decide (a=b)):=by
 have m:=g.pl;have n:=g.sl;have H:=l.pl;have I:=l.sl;have aw:=g.w;have ah:=g.h;have bw:=l.w;have bh:=l.h;have at1:=g.t.1;have aa:=l.t.1;have at2: ∀j∈a.told,j.rsp.data.length<2^40:=fun j o=>by have:=g.t.2 j o;omega
 have O: ∀j∈b.told,j.rsp.data.length<2^40:=fun j o=>by have:=l.t.2 j o;omega
 refine bR.mk Tryz.func29 (by kernel_rfl) P4 rfl fun Q J=> ?_;unfold nY;repeat' first| (first|apply vI|refine Y6 (fun h=> ?_) fun h=> ?_|apply TH (a:=a.words) (b:=a.holds) (u:=b.words) (v:=b.holds) (by omega) (by omega) (by omega) (by omega)|apply F6 (a:=a.told) (b:=b.told) (by omega) (by omega) at2 O)<;>(simp only[go_sem,m,n,H,I])|refine iE (fun h=> ?_) fun h=> ?_|fail
 ·exact J _ _ _ _ _ (.inr rfl) rfl ⟨rfl,fX fun he=>h (by rw[he];exact⟨rfl,rfl⟩)⟩
 ·exact J _ _ _ _ _ (.inr rfl) rfl ⟨rfl,fX fun he=>h (by rw[he])⟩
 rename_i P;have P:=Classical.not_not.1 P;have e2:=Classical.not_not.1 h;refine aJ.Gn fun L s=> ?_;have c0:L 0=some ⟨5,1,[bK a]⟩:=by rw[s];rfl
 have c1:L 1=some ⟨5,1,[bK b]⟩:=by rw[s];rfl
 clear s
 refine aJ.cG (β:=Nat) (fun k=>en [(5,dI k),(3,.one (.c (.ptr 5 1 0 0))),(2,.one (.c (.ptr 5 0 0 0)))])
  (fun k H1 _=>k<=3/\(∀i,i<k->aL a i=aL b i)/\ ∀id,id<2->H1 id=L id) (fun k=>3-k) 0 ⟨noF,_,by repeat' first|exact C1|refine xqI rfl rfl ?_|refine xqP (by omega) rfl rfl ?_|fail,aE,by omega,by omega,fun _ _=>rfl⟩ ?_
 rintro k H1 R ab ⟨hk,heq,d⟩ KL S;have E:=(d 0 (by omega)).trans c0;have F:=(d 1 (by omega)).trans c1;have G:aO R [0,1]:=AM.apart (by simp) (by simp;omega);simp only[aO,bG] at G;by_cases e:k<3
 ·obtain⟨p,hp⟩: ∃p,p=aL a k:=⟨_,rfl⟩
  obtain⟨q,f⟩: ∃q,q=aL b k:=⟨_,rfl⟩
  have x:a.bC.getD k default=p:=hp.symm;have y:b.bC.getD k default=q:=f.symm;have M:=g.port k e;have N:=l.port k e;rw[<-hp] at M;rw[<-f] at N;have z: ¬p=q->¬a=b:=fun A B=>A (by rw[hp,f,B]);have C:p.next=q.next->p.last=q.last->p.queue=q.queue->p.out=q.out->aL a k=aL b k:=by rw[<-hp,<-f];obtain⟨x1,x2,x3,x4⟩:=p;obtain⟨y1,y2,y3,y4⟩:=q;dsimp only;intro A B T h4;subst A;subst B;subst T;subst h4;rfl
  repeat' first| (first|apply vI|refine Y6 (fun h=> ?_) fun h=> ?_|apply AB (a:=p.queue) (b:=q.queue) (by omega) (by omega)|apply PU (a:=p.out) (b:=q.out) (by omega) (by omega))<;>(simp only[go_sem,nL,x,y,E,F,G,m,H];try simp (disch:=omega) only[Iw])|apply vT (by omega)|refine iE (fun h=> ?_) fun h=> ?_|refine⟨by omega,?_⟩|fail
  all_goals first|exact J _ _ _ _ _ (.inr rfl) rfl ⟨rfl,fX (z fun he=>h (by rw[he]))⟩|skip
  exact S _ _ _ (k+1) noF _ (by omega) (by omega) (by repeat' first|exact C1|refine xqI rfl rfl ?_|refine xqP (by omega) rfl rfl ?_|fail) aE ⟨by omega,bL heq (C (Classical.not_not.1 (by assumption)) (Classical.not_not.1 (by assumption)) (Classical.not_not.1 (by assumption)) (Classical.not_not.1 (by assumption))),fun id D=>by rw[aA.aB (by omega),aA.aB (by omega)];exact d id D⟩
 ·have U:k=3:=by omega
  subst U;repeat' first|apply vI<;>(simp only[go_sem,E,F,m])|apply vF (by omega)|fail
  refine aJ.cG (β:=Nat) (fun k=>en [(8,dI k),(3,.one (.c (.ptr 5 1 0 0))),(2,.one (.c (.ptr 5 0 0 0)))])
   (fun k H1 _=>k<=4/\(∀i,i<k->aS a i=aS b i)/\ ∀id,id<2->H1 id=L id) (fun k=>4-k) 0 ⟨noF,_,by repeat' first|exact C1|refine xqI rfl rfl ?_|refine xqP (by omega) rfl rfl ?_|fail,aE,by omega,by omega,d⟩ ?_
  clear E F G d;rintro k H2 V Z ⟨hk,K,d⟩ KM W;have E:=(d 0 (by omega)).trans c0;have F:=(d 1 (by omega)).trans c1;have G:aO V [0,1]:=AM.apart (by simp) (by simp;omega);simp only[aO,bG] at G;by_cases e:k<4
  ·obtain⟨p,hp⟩: ∃p,p=aS a k:=⟨_,rfl⟩
   obtain⟨q,f⟩: ∃q,q=aS b k:=⟨_,rfl⟩
   have x:a.bN.getD k default=p:=hp.symm;have y:b.bN.getD k default=q:=f.symm;have M:=g.slv k e;have N:=l.slv k e;rw[<-hp] at M;rw[<-f] at N;have z: ¬p=q->¬a=b:=fun A B=>A (by rw[hp,f,B]);have C:p.last=q.last->p.pipe=q.pipe->p.done=q.done->aS a k=aS b k:=(by rw[<-hp,<-f];obtain⟨x1,x2,x3⟩:=p;obtain⟨y1,y2,y3⟩:=q;dsimp only;intro A B T;subst A;subst B;subst T;rfl);repeat' first| (first|apply vI|refine Y6 (fun h=> ?_) fun h=> ?_| (refine F6 (a:=p.done) (b:=q.done) (by omega) (by omega) (fun j o=>by have:=M.2.2 j o;omega) (fun j o=>by have:=N.2.2 j o;omega) ?_)|apply PU (a:=p.pipe) (b:=q.pipe) (by omega) (by omega))<;>(simp only[go_sem,nL,x,y,E,F,G,n,I];try simp (disch:=omega) only[Iw])|apply vT (by omega)|refine iE (fun h=> ?_) fun h=> ?_|refine⟨by omega,?_⟩|fail
   all_goals first|exact J _ _ _ _ _ (.inr rfl) rfl ⟨rfl,fX (z fun he=>h (by rw[he]))⟩|skip
   exact W _ _ _ (k+1) noF _ (by omega) (by omega) (by repeat' first|exact C1|refine xqI rfl rfl ?_|refine xqP (by omega) rfl rfl ?_|fail) aE ⟨by omega,bL K (C (Classical.not_not.1 (by assumption)) (Classical.not_not.1 (by assumption)) (Classical.not_not.1 (by assumption))),fun id D=>by rw[aA.aB (by omega),aA.aB (by omega)];exact d id D⟩
  ·have X:k=4:=(by omega);subst X;have Y:a=b:=by have hP:a.bC=b.bC:=yV (by omega) fun i hi=>heq i (by omega);have hV:a.bN=b.bN:=yV (by omega) fun i hi=>K i (by omega);obtain⟨a1,a2,a3,a4,a5⟩:=a;obtain⟨b1,b2,b3,b4,b5⟩:=b;dsimp only at*;obtain⟨rfl,rfl⟩:=P;subst hP;subst hV;subst e2;rfl
   repeat' first|apply vI<;>(simp only[go_sem,E,F,n])|apply vF (by omega)|fail
   exact J _ _ _ _ _ (.inr rfl) rfl ⟨rfl,l8 Y⟩
theorem tz{a b:CSt}(c:CSz a)(d:CSz b)(h:K (dB (decide (a=b))) H nx):afB i7 [dA (bK a),dA (bK b)] H nx K:=(va a b c d).pure rfl (aK ⟨aF rfl,aF rfl,trivial⟩) fun r hr=>hr▸h
end
theorem KD:bR afA uO Tryz.f35 nK K2:=bR.mk Tryz.func35 (by kernel_rfl) WO
section
variable{H:aA}{nx:Nat}{K:afC}
end
end Go.Proofs.YtlncecohbakleaaGreat
