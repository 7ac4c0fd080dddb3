/- Rules and contracts. -/
import Derived.Test.YtlncecohbakleaaGreatPM12
set_option linter.unusedVariables false
set_option linter.unusedSimpArgs false
set_option maxRecDepth 100000
set_option maxHeartbeats 8000000
namespace Go.AM
structure Part(A:Nat->Prop)(lo hi:Nat)(nm:Nat->Nat):Prop where
 inj: ∀j k,A j->A k->nm j=nm k->j=k
 rng: ∀k,A k->lo<=nm k/\nm k<hi
theorem Part.mono{A:Nat->Prop}{lo hi hi':Nat}{nm:Nat->Nat}(h:Part A lo hi nm)(b:hi<=hi'):Part A lo hi' nm:=⟨h.inj,fun k a=>by have:=h.rng k a;omega⟩
theorem Part.put{A B:Nat->Prop}{lo hi hi' k v:Nat}{nm:Nat->Nat}(h:Part A lo hi nm)(f:lo<=hi)(g:hi<=v)(l:v<hi')(hB: ∀j,B j->A j/\j≠k\/j=k):Part B lo hi' (put nm k v):=by
 refine⟨fun i j hi c he=> ?_,fun j c=> ?_⟩
 ·rcases hB i hi with⟨a,b⟩|rfl<;>rcases hB j c with⟨d,e⟩|rfl;·rw[bV b,bV e] at he;exact h.inj i j a d he
  ·rw[bV b,fS] at he;have:=h.rng i a;omega
  ·rw[bV e,fS] at he;have:=h.rng j d;omega
  ·rfl
 ·rcases hB j c with⟨a,b⟩|rfl;·rw[bV b];have:=h.rng j a;omega
  ·rw[fS];omega
structure CSz(s:CSt):Prop where
 pl:s.bJ.length=3
 sl:s.bR.length=4
 w:s.words.length<2^21
 h:s.holds.length<2^21
 t:s.told.length<2^21/\ ∀j∈s.told,j.rsp.data.length<2^21
 port: ∀k,k<3->(aN s k).queue.length<2^21/\(aN s k).out.length<2^21
 slv: ∀k,k<4->(aU s k).pipe.length<2^21/\(aU s k).done.length<2^21/\ ∀j∈(aU s k).done,j.rsp.data.length<2^21
theorem aK.QK{P:Program}{T:Nat}{e:Env}{H:aA}{nx:Nat}{Q:AQ}{zs:List AC}(h: ∀G,G=H->aK P T zs e G nx Q):aK P T zs e H nx Q:=h H rfl
def ab0(k:Nat)(H:aA)(nm:Nat->Nat)(s:CSt)(rows:List (List D1)):Prop:=rows.length=3/\(∀j,j<k->∃r,rows[j]?=some r/\zK H (nm (5+j)) (nm (8+j)) (aN s j) r)/\ ∀j,k<=j->j<3->rows[j]?=some (dK (aN s j))
def abV(k:Nat)(H:aA)(nm:Nat->Nat)(s:CSt)(rows:List (List D1)):Prop:=rows.length=4/\(∀j,j<k->∃r,rows[j]?=some r/\I1 H (nm (11+j)) (nm (15+j)) (aU s j) r)/\ ∀j,k<=j->j<4->rows[j]?=some (jF (aU s j))
def P4(H:aA)(lo hi t:Nat)(s:CSt)(A:List Int)(W D:List Job):Prop:=
 ∃a b id_ c d e f g md,H t=some ⟨6,1,[[.isl (s.words.map aF),.isl (s.holds.map aF),.osl 1 a 0 A.length c,.osl 5 b 0 W.length d,.osl 5 id_ 0 D.length e,.isl (s.told.map aL)]]⟩/\
  (H a=some ⟨1,f,A.map aF⟩/\A.length<=c/\c<=f)/\(H b=some ⟨5,g,W.map aL⟩/\W.length<=d/\d<=g)/\(H id_=some ⟨5,md,D.map aL⟩/\D.length<=e/\e<=md)/\
  (lo<=a/\a<hi/\lo<=b/\b<hi/\lo<=id_/\id_<hi)/\a≠b/\a≠id_/\b≠id_
theorem P4.frame{H H':aA}{lo hi hi' t:Nat}{s:CSt}{A:List Int}{W D:List Job}(h:P4 H lo hi t s A W D)(r:t<lo)(u:hi<=hi')(a: ∀id,id<hi->(id=t\/lo<=id)->H' id=H id):P4 H' lo hi' t s A W D:=by obtain⟨b,c,id_,d,e,f,g,i,md,j,⟨k,l⟩,⟨m,n⟩,⟨o,p⟩,v,q⟩:=h;exact⟨b,c,id_,d,e,f,g,i,md,by rw[a t (by omega) (.inl rfl)];exact j,⟨by rw[a _ (by omega) (.inr (by omega))];exact k,l⟩,⟨by rw[a _ (by omega) (.inr (by omega))];exact m,n⟩,⟨by rw[a _ (by omega) (.inr (by omega))];exact o,p⟩,by omega,q⟩
theorem HF{H:aA}{nx i:Nat}{o o':bN}(b:H i=some o)(h:CvO H noF id nx o' o):CvX noF nx H (H.set i o'):=fun j x a=>by
 by_cases he:j=i;·subst he;rw[aA.aJ] at a;cases a;exact⟨fun h=>h,o,b,.inr h⟩
 ·rw[aA.aB he] at a;exact⟨fun h=>h,x,a,.inl rfl⟩
theorem uP{β:Type}{f:Nat->List β}{k:Nat}:(List.range (k+1)).flatMap f=(List.range k).flatMap f++f k:=by rw[ae4,agJ];simp
theorem xI{β:Type}{f:Nat->List β}{m:Nat}(n:Nat)(h: ∀k,k<n->(f k).length<=m):((List.range n).flatMap f).length<=m*n:=by
 induction n with
 |zero=>simp
 |succ n a=>rw[uP,ac7];have b:=a fun k c=>h k (by omega);have d:=h n (by omega);rw[Nat.mul_succ];omega
theorem TD{K:Env->aA->Nat->Prop}{e:Env}{G:aA}{n:Nat}(h: ∀a,a=G->K e a n):K e G n:=h G rfl
theorem abI{H2 G:aA}{lo hi t:Nat}{s:CSt}{A:List Int}{W D:List Job}{a b id_ d e f md x2 cap nx':Nat}{k n:Int}
 (h:H2 a=some ⟨1,f,A.map aF⟩) (j:A.length<=d/\d<=f) (l:H2 id_=some ⟨5,md,D.map aL⟩) (m:D.length<=e/\e<=md) (w:lo<=a/\a<hi/\lo<=b/\b<hi/\lo<=id_/\id_<hi) (o:a≠b) (ac:a≠id_) (p:b≠id_) (x:t<lo) (y:hi<=x2/\x2<nx') (c:W.length+1<=cap)
 (q:G t=some ⟨6,1,[[.isl (s.words.map aF),.isl (s.holds.map aF),.osl 1 a 0 A.length d,.osl 5 x2 0 (W.length+1) cap,.osl 5 id_ 0 D.length e,.isl (s.told.map aL)]]⟩) (u:G x2=some ⟨5,cap,W.map aL++[[cI k,cI n,cI 0,cI 0,.osl 0 0 0 0 0]]⟩) (g: ∀id,id<hi->id≠b->id≠t->G id=H2 id):
 ∃H',CvX noF nx' G H'/\P4 H' lo nx' t s A (W++[(⟨k,n,iL⟩:Job)]) D/\ ∀id,id≠x2->H' id=G id:=by
 refine⟨_,HF (i:=x2) (o':=⟨5,cap,(W++[(⟨k,n,iL⟩:Job)]).map aL⟩) u (jb (R:=W.map aL) (r':=aL (⟨k,n,iL⟩:Job)) (by rw[adF];rfl) rfl (fun r hr=>(aG bC _ r hr).2) rfl (aH (bE rfl) (aH (bE rfl) (aH (bE rfl) (aH (bE rfl) (aH (.frz (.nil ..)) cG)))))),?_,fun id v=>aA.aB v⟩
 refine⟨a,x2,id_,d,cap,e,f,cap,md,?_,⟨?_,j⟩,⟨aA.aJ,by simpa using c,ac1 _⟩,⟨?_,m⟩,by omega,by omega,by omega,by omega⟩
 ·rw[aA.aB (by omega),q,ac7];rfl
 ·rw[aA.aB (by omega),g _ (by omega) o (by omega)];exact h
 ·rw[aA.aB (by omega),g _ (by omega) p.symm (by omega)];exact l
theorem yk{F:Nat->Prop}{H H':aA}{nx t:Nat}{o o':bN}(c: ∀j,F j->H' j=none)(d:H' t=some o')(e:H t=some o)(i: ¬F t)(f:CvO H F id nx o' o)(g: ∀j,j≠t->¬F j->H' j=H j):CvX F nx H H':=fun j x a=>by
 have b: ¬F j:=fun h=>by rw[c j h] at a;cases a
 by_cases he:j=t;·subst he;rw[d] at a;cases a;exact⟨b,o,e,.inr f⟩
 ·rw[g j he b] at a;exact⟨b,x,a,.inl rfl⟩
def aaM(b n:Nat)(H:aA):aA:=fun j=>if b<=j/\j<b+n then none else H j
theorem Fg{b n j:Nat}{H:aA}(h: ¬(b<=j/\j<b+n)):aaM b n H j=H j:=if_neg h
theorem zl{b n nx:Nat}{H:aA}:CvX (fun j=>b<=j/\j<b+n) nx H (aaM b n H):=fun j x a=>by
 unfold aaM at a;split at a;·cases a
 ·exact⟨by assumption,x,a,.inl rfl⟩
def fD(f:Nat->Int):Nat->Int
 |0=>0
 |n+1=>fD f n+f n
theorem JS{f:Nat->Int}{m:Int}(a:0<=m): ∀n,(∀k,k<n->0<=f k/\f k<=m)->0<=fD f n/\fD f n<=m*n
 |0,_=>by simp[fD]
 |n+1,h=>by
  have b:=JS a n fun k c=>h k (by omega);have d:=h n (by omega);have e:m*((n+1:Nat):Int)=m*n+m:=by push_cast;rw[Int.mul_add,Int.mul_one]
  simp only[fD];omega
def fw(i:CIn):Prop:=i.ready.length=3/\i.nO.length=4/\i.send.length=3
end Go.AM
namespace Go.Proofs.YtlncecohbakleaaGreat
open Go Go.AM
attribute [local irreducible] aK wv aC vd wvH
section
variable{H:aA}{nx:Nat}{K:ag2}
theorem nZ{s:CSt}(hs:CSz s)
 (h: ∀H' nx' nm cells,nx<=nx'->CM H' nm s cells->Part (fun k=>k<19) nx nx' nm->(∀id,id<nx->H' id=H id)->K (.one (.agg cells)) H' nx'):
 ag1 iP [dA (dX s)] H nx K:=by
 have X:=hs.pl
 have Y:=hs.sl
 refine bW.mk Tryz.func96 (by kernel_rfl) JC rfl fun Q hQ=> ?_
 unfold jV
 refine aK.DN fun ca=> ?_
 have cc: ∀k l,msk (nx+k) l H=H:=fun k l=>BH ca (by omega)
 repeat' first| (first|apply vI|refine nU (w:=s.words) (u:=s.holds) hs.w hs.h (fun m0 m1 dh dm=> ?_)|refine GK (l:=s.bJ) (by omega) (fun m2 ds=> ?_)|refine GH (l:=s.bR) (by omega) (fun m3 dv=> ?_)|refine iT (l:=s.told) hs.t.1 hs.t.2 (fun m4 dx=> ?_))<;>(simp only[go_sem,nL,cc,umS (G:=H),umD (G:=H),umB,msk,List.map,adA,ad4,or_false,X,Y])|fail
 refine aK.QK fun A e=> ?_
 have c0:A nx=some ⟨5,1,[dX s]⟩:=by rw[e];simp only[aA.set,ac4,Nat.reduceEqDiff,ac5,ac3,if_false,if_true]
 have c1:A (nx+1)=some ⟨5,1,[[.osl 0 0 0 0 0,.osl 0 0 0 0 0,.osl 0 0 0 0 0,.osl 0 0 0 0 0,.osl 0 0 0 0 0]]⟩:=by rw[e];simp only[aA.set,ac4,Nat.reduceEqDiff,ac5,ac3,if_false,if_true]
 have cd:A (nx+15)=some ⟨5,1,[[.osl 1 (nx+17) 0 s.words.length s.words.length,.osl 1 (nx+18) 0 s.holds.length s.holds.length,.osl 4 (nx+19) 0 3 3,.osl 3 (nx+20) 0 4 4,.osl 5 (nx+21) 0 s.told.length s.told.length]]⟩:=by rw[e];simp only[aA.set,ac4,Nat.reduceEqDiff,ac5,ac3,if_false,if_true]
 have cf:A (nx+17)=some ⟨1,m0,s.words.map aF⟩:=by rw[e];simp only[aA.set,ac4,Nat.reduceEqDiff,ac5,ac3,if_false,if_true]
 have ck:A (nx+18)=some ⟨1,m1,s.holds.map aF⟩:=by rw[e];simp only[aA.set,ac4,Nat.reduceEqDiff,ac5,ac3,if_false,if_true]
 have cl:A (nx+19)=some ⟨4,m2,s.bJ.map dK⟩:=by rw[e];simp only[aA.set,ac4,Nat.reduceEqDiff,ac5,ac3,if_false,if_true]
 have cp:A (nx+20)=some ⟨3,m3,s.bR.map jF⟩:=by rw[e];simp only[aA.set,ac4,Nat.reduceEqDiff,ac5,ac3,if_false,if_true]
 have cq:A (nx+21)=some ⟨5,m4,s.told.map aL⟩:=by rw[e];simp only[aA.set,ac4,Nat.reduceEqDiff,ac5,ac3,if_false,if_true]
 have cr: ∀id,id<nx->A id=H id:=fun id Z=>by rw[e];simp only[aA.set,show ¬id=nx by omega,show ¬id=nx+1 by omega,show ¬id=nx+15 by omega,show ¬id=nx+17 by omega,show ¬id=nx+18 by omega,show ¬id=nx+19 by omega,show ¬id=nx+20 by omega,show ¬id=nx+21 by omega,if_false]
 clear e
 refine aK.cW (β:=Nat×(Nat->Nat)) (fun u=>en [(24,dI u.1),(23,dI 3),(22,dS (s.bJ.map dK)),(3,.one (.c (.ptr 5 (nx+15) 0 0))),(2,.one (.c (.ptr 5 (nx+1) 0 0))),(1,.one (.c (.ptr 5 nx 0 0)))])
  (fun u H1 g=>u.1<=3/\(∀j,j<5->u.2 j=nx+17+j)/\Part (fun j=>j<5\/(5<=j/\j<5+u.1)\/(8<=j/\j<8+u.1)) (nx+17) g u.2/\(∀id,id<nx+22->id≠nx+19->H1 id=A id)/\ ∃rows,H1 (nx+19)=some ⟨4,m2,rows⟩/\ab0 u.1 H1 u.2 s rows)
  (fun u=>3-u.1) (0,fun j=>nx+17+j) ⟨noF,_,by repeat' first|exact C1|refine xqI rfl rfl ?_|refine xqP (by omega) rfl rfl ?_|fail,aI,by dsimp only;omega,fun _ _=>rfl,⟨fun j k _ _ he=>by dsimp only at he;omega,fun j a=>by dsimp only at a ⊢;omega⟩,fun _ _ _=>rfl,_,cl,by simpa using X,fun j a=>by dsimp only at a;omega,fun j _ a=>by rw[adJ];simp[aN,List.getD,show j<s.bJ.length by omega]⟩ ?_
 rintro⟨k,nm⟩ H1 g dy ⟨hk,C,L,o,rows,ad,ai,R,S⟩ KL ct
 dsimp only at hk C L R S
 have g0:H1 nx=some ⟨5,1,[dX s]⟩:=by rw[o _ (by omega) (by omega)];exact c0
 have aj:H1 (nx+15)=some ⟨5,1,[[.osl 1 (nx+17) 0 s.words.length s.words.length,.osl 1 (nx+18) 0 s.holds.length s.holds.length,.osl 4 (nx+19) 0 3 3,.osl 3 (nx+20) 0 4 4,.osl 5 (nx+21) 0 s.told.length s.told.length]]⟩:=by rw[o _ (by omega) (by omega)];exact cd
 have hA:aT g [nx,nx+1,nx+15,nx+19,nx+20]:=AM.apart (by simp) (by simp;omega)
 simp only[aT,bM] at hA
 by_cases D:k<3
 ·obtain⟨p,q⟩: ∃p,p=aN s k:=⟨_,rfl⟩
  have aa:s.bJ.getD k default=p:=q.symm;obtain⟨hq,ho⟩:=hs.port k D;rw[<-q] at hq ho;have E: ∀r,(rows.set k r)[k]?=some r:=fun r=>by rw[adW (by omega)]
  have F:=S k (ac1 _) D;rw[<-q] at F;refine aK.DN fun I=> ?_;have J: ∀k l,msk (g+k) l H1=H1:=fun k l=>BH I (by omega);repeat' first| (first|apply vI|refine kN (l:=p.queue) hq (fun mq cv=> ?_)|refine sK (l:=p.out) ho (fun mo cw=> ?_))<;>(simp only[go_sem,nL,J,umS (G:=H1),umD (G:=H1),umB,msk,List.map,adA,ad4,or_false,aa,E,F,ad0,g0,aj,ad,hA];try simp (disch:=omega) only[Iw])|apply vT (by omega)|refine⟨by omega,?_⟩|fail
  have O: ∀j,j<5\/(5<=j/\j<5+k)\/(8<=j/\j<8+k)->j≠2->nm j≠nx+19:=fun j a i he=>i (L.inj j 2 a (.inl (by omega)) (by rw[he,C 2 (by omega)]));refine ct _ _ _ (k+1,put (put nm (5+k) (g+25)) (8+k) (g+26)) noF _ (by omega) (by dsimp only;omega) (by repeat' first|exact C1|refine xqI rfl rfl ?_|refine xqP (by omega) rfl rfl ?_|fail) aI ⟨by dsimp only;omega,fun j a=> ?_,?_,fun id x e1=> ?_,_,aA.aJ,?_,fun j a=> ?_,fun j y i=> ?_⟩;·dsimp only;rw[bV (by omega),bV (by omega)];exact C j a
  ·exact(L.put (B:=fun j=>j<5\/(5<=j/\j<5+(k+1))\/(8<=j/\j<8+k)) (hi':=g+26) (by omega) (by omega) (by omega) (fun j a=>by first|omega| (dsimp only at*;omega))).put (by omega) (by omega) (by omega) (fun j a=>by first|omega| (dsimp only at*;omega))
  ·rw[aA.aB e1,aA.aB (by omega),aA.aB (by omega),aA.aB (by omega)];exact o id x e1
  ·rw[adM];exact ai
  ·dsimp only at a ⊢;by_cases T:j=k
   ·subst T;refine⟨_,E _,⟨0,p.queue.length,p.out.length,?_,?_,?_⟩⟩;·rw[bV (by omega),fS,fS,<-q];rfl
    ·rw[bV (by omega),fS,<-q];exact⟨mq,p.queue.map aF,by rw[aA.aB (by omega),aA.aB (by omega)];exact aA.aJ,rfl,by simp,by simp,ac1 _,by omega⟩
    ·rw[fS,<-q];exact⟨mo,p.out.map eCJ,by rw[aA.aB (by omega)];exact aA.aJ,rfl,by simp,by simp,ac1 _,by omega⟩
   ·obtain⟨r,y,i⟩:=R j (by omega);have a5:=L.rng (5+j) (.inr (.inl ⟨by omega,by omega⟩));have a8:=L.rng (8+j) (.inr (.inr ⟨by omega,by omega⟩));refine⟨r,by rw[adX (by omega)];exact y,?_⟩;rw[bV (show 5+j≠8+k by omega),bV (show 5+j≠5+k by omega),bV (show 8+j≠8+k by omega),bV (show 8+j≠5+k by omega)];apply i.frame;·rw[aA.aB (O _ (.inr (.inl ⟨by omega,by omega⟩)) (by omega)),aA.aB (by omega),aA.aB (by omega),aA.aB (by omega)]
    ·rw[aA.aB (O _ (.inr (.inr ⟨by omega,by omega⟩)) (by omega)),aA.aB (by omega),aA.aB (by omega),aA.aB (by omega)]
  ·dsimp only at y ⊢;rw[adX (by omega)];exact S j (by omega) i
 ·repeat' first|apply vI<;>(simp only[go_sem,g0])|apply vF (by omega)|fail
  have cx:k=3:=by omega
  subst cx;have cy:H1 (nx+20)=some ⟨3,m3,s.bR.map jF⟩:=by rw[o _ (by omega) (by omega)];exact cp
  refine aK.cW (β:=Nat×(Nat->Nat)) (fun u=>en [(49,dI u.1),(48,dI 4),(47,dS (s.bR.map jF)),(3,.one (.c (.ptr 5 (nx+15) 0 0))),(2,.one (.c (.ptr 5 (nx+1) 0 0)))])
   (fun u H2 n=>u.1<=4/\(∀j,j<11->u.2 j=nm j)/\Part (fun j=>j<11\/(11<=j/\j<11+u.1)\/(15<=j/\j<15+u.1)) (nx+17) n u.2/\(∀id,id<g->id≠nx+20->H2 id=H1 id)/\ ∃rv,H2 (nx+20)=some ⟨3,m3,rv⟩/\abV u.1 H2 u.2 s rv)
   (fun u=>4-u.1) (0,nm) ⟨noF,_,by repeat' first|exact C1|refine xqI rfl rfl ?_|refine xqP (by omega) rfl rfl ?_|refine xqV rfl (by omega) ?_|fail,aI,by dsimp only;omega,fun _ _=>rfl,⟨fun j k a hk he=>L.inj j k (by first|omega| (dsimp only at*;omega)) (by first|omega| (dsimp only at*;omega)) he,fun j a=>by have:=L.rng j (by first|omega| (dsimp only at*;omega));first|omega| (dsimp only at*;omega)⟩,fun _ _ _=>rfl,_,cy,by simpa using Y,fun j a=>by dsimp only at a;omega,fun j _ a=>by rw[adJ];simp[aU,List.getD,show j<s.bR.length by omega]⟩ ?_
  rintro⟨k,m⟩ H2 n da ⟨hk,b,f,d,rv,ao,bb,U,V⟩ KM dc;dsimp only at hk b f U V;have bk:H2 (nx+15)=some ⟨5,1,[[.osl 1 (nx+17) 0 s.words.length s.words.length,.osl 1 (nx+18) 0 s.holds.length s.holds.length,.osl 4 (nx+19) 0 3 3,.osl 3 (nx+20) 0 4 4,.osl 5 (nx+21) 0 s.told.length s.told.length]]⟩:=by rw[d _ (by omega) (by omega)];exact aj
  have f1:H2 (nx+1)=some ⟨5,1,[[.osl 0 0 0 0 0,.osl 0 0 0 0 0,.osl 0 0 0 0 0,.osl 0 0 0 0 0,.osl 0 0 0 0 0]]⟩:=by rw[d _ (by omega) (by omega),o _ (by omega) (by omega)];exact c1
  have W:aT n [nx,nx+1,nx+15,nx+19,nx+20]:=AM.apart (by simp) (by simp;omega);simp only[aT,bM] at W;have M:m 3=nx+20:=by rw[b 3 (by omega),C 3 (by omega)]
  by_cases D:k<4
  ·obtain⟨v,z⟩: ∃v,v=aU s k:=⟨_,rfl⟩
   have ab:s.bR.getD k default=v:=z.symm;obtain⟨hq,ho,bp⟩:=hs.slv k D;rw[<-z] at hq ho bp;have E: ∀r,(rv.set k r)[k]?=some r:=fun r=>by rw[adW (by omega)]
   have F:=V k (ac1 _) D;rw[<-z] at F;refine aK.DN fun I=> ?_;have J: ∀k l,msk (n+k) l H2=H2:=fun k l=>BH I (by omega);repeat' first| (first|apply vI|refine sK (l:=v.pipe) hq (fun mq cv=> ?_)|refine iT (l:=v.done) ho bp (fun mo cw=> ?_))<;>(simp only[go_sem,nL,J,umS (G:=H2),umD (G:=H2),umB,msk,List.map,adA,ad4,or_false,ab,E,F,ad0,bk,ao,W];try simp (disch:=omega) only[Iw])|apply vT (by omega)|refine⟨by omega,?_⟩|fail
   have P: ∀j,j<11\/(11<=j/\j<11+k)\/(15<=j/\j<15+k)->j≠3->m j≠nx+20:=fun j a i he=>i (f.inj j 3 a (.inl (by omega)) (by rw[he,M]));refine dc _ _ _ (k+1,put (put m (11+k) (n+25)) (15+k) (n+26)) noF _ (by omega) (by dsimp only;omega) (by repeat' first|exact C1|refine xqI rfl rfl ?_|refine xqP (by omega) rfl rfl ?_|fail) aI ⟨by dsimp only;omega,fun j a=> ?_,?_,fun id x e1=> ?_,_,aA.aJ,?_,fun j a=> ?_,fun j y i=> ?_⟩;·dsimp only;rw[bV (by omega),bV (by omega)];exact b j a
   ·exact(f.put (B:=fun j=>j<11\/(11<=j/\j<11+(k+1))\/(15<=j/\j<15+k)) (hi':=n+26) (by omega) (by omega) (by omega) (fun j a=>by first|omega| (dsimp only at*;omega))).put (by omega) (by omega) (by omega) (fun j a=>by first|omega| (dsimp only at*;omega))
   ·rw[aA.aB e1,aA.aB (by omega),aA.aB (by omega),aA.aB (by omega)];exact d id x e1
   ·rw[adM];exact bb
   ·dsimp only at a ⊢;by_cases T:j=k
    ·subst T;refine⟨_,E _,⟨0,v.pipe.length,0,v.done.length,?_,?_,?_⟩⟩;·rw[bV (by omega),fS,fS,<-z];rfl
     ·rw[bV (by omega),fS,<-z];exact⟨mq,v.pipe.map eCJ,by rw[aA.aB (by omega),aA.aB (by omega)];exact aA.aJ,rfl,by simp,by simp,ac1 _,by omega⟩
     ·rw[fS,<-z];exact⟨mo,v.done.map aL,by rw[aA.aB (by omega)];exact aA.aJ,rfl,by simp,by simp,ac1 _,by omega⟩
    ·obtain⟨r,y,i⟩:=U j (by omega);have a5:=f.rng (11+j) (.inr (.inl ⟨by omega,by omega⟩));have a8:=f.rng (15+j) (.inr (.inr ⟨by omega,by omega⟩));refine⟨r,by rw[adX (by omega)];exact y,?_⟩;rw[bV (show 11+j≠15+k by omega),bV (show 11+j≠11+k by omega),bV (show 15+j≠15+k by omega),bV (show 15+j≠11+k by omega)];apply i.frame;·rw[aA.aB (P _ (.inr (.inl ⟨by omega,by omega⟩)) (by omega)),aA.aB (by omega),aA.aB (by omega),aA.aB (by omega)]
     ·rw[aA.aB (P _ (.inr (.inr ⟨by omega,by omega⟩)) (by omega)),aA.aB (by omega),aA.aB (by omega),aA.aB (by omega)]
   ·dsimp only at y ⊢;rw[adX (by omega)];exact V j (by omega) i
  ·repeat' first|apply vI<;>(simp only[go_sem,bk,f1,W])|apply vF (by omega)|fail
   have df:k=4:=(by omega);subst df;have x: ∀j,j<5->m j=nx+17+j:=fun j a=>(b j (by omega)).trans (C j a);have N: ∀id,id<nx+22->id≠nx+1->id≠nx+19->id≠nx+20->(H2.set (nx+1) ⟨5,1,[[.osl 1 (nx+17) 0 s.words.length s.words.length,.osl 1 (nx+18) 0 s.holds.length s.holds.length,.osl 4 (nx+19) 0 3 3,.osl 3 (nx+20) 0 4 4,.osl 5 (nx+21) 0 s.told.length s.told.length]]⟩) id=A id:=fun id y i h3 h4=>by rw[aA.aB i,d id (by omega) h4,o id y h3]
   have br: ∀j,j<19->nx+17<=m j:=fun j a=>(f.rng j (by first|omega| (dsimp only;omega))).1;refine hQ _ _ _ _ _ (.inr rfl) (iM rfl aA.aJ rfl) (h _ _ m _ (by omega) ⟨⟨s.words.length,s.holds.length,3,4,s.told.length,?_,?_,?_,?_,ac1 _,ac1 _⟩,⟨m2,rows,?_,ai,fun j a=> ?_⟩,⟨m3,rv,?_,bb,fun j a=> ?_⟩⟩ ⟨fun j k a hk he=>f.inj j k (by first|omega| (dsimp only;omega)) (by first|omega| (dsimp only;omega)) he,fun j a=>by have:=f.rng j (by first|omega| (dsimp only;omega));omega⟩ fun id Z=> ?_);·rw[I6,x 0 (by omega),x 1 (by omega),x 2 (by omega),x 3 (by omega),x 4 (by omega)]
   ·rw[x 0 (by omega)];exact⟨m0,s.words.map aF,(N _ (by omega) (by omega) (by omega) (by omega)).trans cf,rfl,by simp,by simp,ac1 _,by omega⟩
   ·rw[x 1 (by omega)];exact⟨m1,s.holds.map aF,(N _ (by omega) (by omega) (by omega) (by omega)).trans ck,rfl,by simp,by simp,ac1 _,by omega⟩
   ·rw[x 4 (by omega)];exact⟨m4,s.told.map aL,(N _ (by omega) (by omega) (by omega) (by omega)).trans cq,rfl,by simp,by simp,ac1 _,by omega⟩
   ·rw[x 2 (by omega),aA.aB (by omega),d _ (by omega) (by omega)];exact ad
   ·obtain⟨r,y,i⟩:=R j a;have a5:=L.rng (5+j) (.inr (.inl ⟨by omega,by omega⟩));have a8:=L.rng (8+j) (.inr (.inr ⟨by omega,by omega⟩));have b5:m (5+j)≠nx+20:=fun he=>by have:=f.inj (5+j) 3 (.inl (by omega)) (.inl (by omega)) (by rw[he,M]);omega
    have b8:m (8+j)≠nx+20:=fun he=>by have:=f.inj (8+j) 3 (.inl (by omega)) (.inl (by omega)) (by rw[he,M]);omega
    rw[b _ (by omega)] at b5 b8;refine⟨r,y,?_⟩;rw[b _ (by omega),b _ (by omega)];exact i.frame (by rw[aA.aB (by omega),d _ (by omega) b5]) (by rw[aA.aB (by omega),d _ (by omega) b8])
   ·rw[M,aA.aB (by omega)];exact ao
   ·obtain⟨r,y,i⟩:=U j a;exact⟨r,y,i.frame (aA.aB (by have:=br (11+j) (by omega);omega)) (aA.aB (by have:=br (15+j) (by omega);omega))⟩
   ·rw[N id (by omega) (by omega) (by omega) (by omega)];exact cr id Z
end
section
variable{H:aA}{nx:Nat}{K:ag2}
end
section
variable{H:aA}{nx:Nat}{K:ag2}
end
end Go.Proofs.YtlncecohbakleaaGreat
namespace Go.AM
theorem CM.frame{H H':aA}{nm:Nat->Nat}{s:CSt}{cells:List D1}(h:CM H nm s cells)(a: ∀k,k<19->H' (nm k)=H (nm k)):CM H' nm s cells:=by
 obtain⟨⟨wc,hc,f,vc,g,i,j,l,n,o⟩,⟨m,rows,p,q,t⟩,⟨u,b,v,w,x⟩⟩:=h;refine⟨⟨wc,hc,f,vc,g,i,j.frame (a _ (by omega)),l.frame (a _ (by omega)),n.frame (a _ (by omega)),o⟩,⟨m,rows,by rw[a 2 (by omega)];exact p,q,fun k c=> ?_⟩,⟨u,b,by rw[a 3 (by omega)];exact v,w,fun k c=> ?_⟩⟩;·obtain⟨r,d,e⟩:=t k c;exact⟨r,d,e.frame (a _ (by omega)) (a _ (by omega))⟩
 ·obtain⟨r,d,e⟩:=x k c;exact⟨r,d,e.frame (a _ (by omega)) (a _ (by omega))⟩
variable{s:CSt}
theorem COk.sz{c:Cfg}(d:bG c)(h:COk c s):CSz s:=by
 obtain⟨e,_,f,_⟩:=h.atm;have g:s.told.length<=36:=by have:=h.st.lens d;simp only[dN] at this;omega
 have i: ∀j∈s.told,j.rsp.data.length<2^21:=fun j b=>by have:=(h.st.YF j (aeN _ b)).1;unfold jY at this;omega
 refine⟨h.pl,h.sl,by omega,by omega,⟨by omega,i⟩,fun k a=> ?_,fun k a=> ?_⟩;·have l:=(h.port k a).ql;have m:=(h.port k a).ol;omega
 ·have l:=(h.slv k a).pl;have m:=(h.slv k a).dl;refine⟨by omega,by omega,fun j b=> ?_⟩;have:=((h.slv k a).rsp j b).1;unfold jY at this;omega
theorem zn{c:Cfg}{i:CIn}:(WL c i s).length<=10:=by have a:(iE c s (N2 c i s)).length<=3:=aeB Go.Proofs.YtlncecohbakleaaGreat.S7 Go.Proofs.YtlncecohbakleaaGreat.NG;have b:(iE c (F9 c i s) (GY c i (F9 c i s))).length<=4:=aeB Go.Proofs.YtlncecohbakleaaGreat.S7 Go.Proofs.YtlncecohbakleaaGreat.NG;have d:(iE c (KX c i s) (XG c i (KX c i s))).length<=3:=aeB Go.Proofs.YtlncecohbakleaaGreat.S7 Go.Proofs.YtlncecohbakleaaGreat.NG;rw[Go.Proofs.YtlncecohbakleaaGreat.yb];simp only[ac7,List.length_nil];omega
variable{H:aA}{nx:Nat}
theorem aC.Jh{P:Program}{f:FuncId}{args args':List D}{K:ag2}(H':aA)(F:Nat->Prop)(hl:args.length=args'.length)(m: ∀(i:Nat) (k d:D),args'[i]?=some k->args[i]?=some d->CvD H F id nx k d)(n:CvX F nx H H')(h:aC P f args' H' nx K):aC P f args H nx K:=by
 refine⟨h.1,fun c vs hs l hlen e=> ?_⟩;obtain⟨p,q⟩:=vv hs (Step.refl c H) l n;refine(h.2 (c.conv nx nx id (c.frI H F)) vs p (fun i hi=> ?_) (by omega) fun i d v a g=> ?_).mono ?_
 ·rcases hi with⟨_,hi⟩|⟨a,g,j⟩
  ·exact l i hi
  ·omega
 ·have hi:i<args.length:=by have:=(adB.1 a).1;omega
  exact EB hs (fun b h=>.inl h) (fun id o a g j=>.inr ⟨id,o,a,g,j,rfl⟩) (fun _ _=>rfl) (m i d _ a (ac8 hi)) (e i _ v (ac8 hi) g)
 ·rintro x B ⟨v,c2,r,H2,s,rfl,rfl,t,u,w,y,z,A⟩;refine⟨v,c2,r,H2,s,rfl,rfl,t,q.trans u,fun i hi=> ?_,y,z,A⟩;rcases w i hi with h|h
  ·rcases h with⟨_,hi⟩|⟨a,g,j⟩
   ·exact .inl hi
   ·omega
  ·exact .inr h
open Classical in
noncomputable def without(F:Nat->Prop)(H:aA):aA:=fun j=>if F j then none else H j
theorem dM{F:Nat->Prop}{j:Nat}(h: ¬F j):without F H j=H j:=by unfold without;rw[if_neg h]
theorem kK{F:Nat->Prop}:CvX F nx H (without F H):=fun j x a=>by
 by_cases h:F j;·unfold without at a;rw[if_pos h] at a;cases a
 ·rw[dM h] at a;exact⟨h,x,a,.inl rfl⟩
theorem aK.ec{P:Program}{T:Nat}{e:Env}{Q:AQ}{zs:List AC}(h: ∀G,G=H->aK P T zs e G nx Q):aK P T zs e H nx Q:=h H rfl
def Own{α:Type}(enc:α->List D1)(n:Nat)(H:aA)(b cap:Nat)(l:List α):Prop:=∃m,H b=some ⟨n,m,l.map enc⟩/\l.length<=cap/\cap<=m
variable{n b cap:Nat}
theorem Own.of{α:Type}{enc:α->List D1}{l:List α}{H':aA}(h:Own enc n H b cap l)(he:H' b=H b):Own enc n H' b cap l:=by obtain⟨m,a,c⟩:=h;exact⟨m,he.trans a,c⟩
theorem Own.frz{α:Type}{enc:α->List D1}{nh:Nat}{l:List α}{F:Nat->Prop}{σ:Nat->Nat}(h:Own enc n H b cap l)(he: ∀x,(enc x).length=n/\(enc x).all D1.eW=true)(a:F b):Cv1 H F σ nh (.isl (l.map enc)) (.osl n b 0 l.length cap):=by obtain⟨m,c,d,e⟩:=h;exact cM he c rfl d a
theorem um1{k i:Nat}{A B:aA}(h:i≠b+k):c8 b [k] A B i=B i:=by unfold c8;rw[if_neg (by simp;omega)]
theorem yy{k:Nat}{A B:aA}:c8 b [k] A B (b+k)=A (b+k):=by unfold c8;rw[if_pos (by simp)]
theorem mk1{k i:Nat}{A:aA}(h:i≠b+k):msk b [k] A i=A i:=by unfold msk;rw[if_neg (by simp;omega)]
theorem Yd{l:List Nat}{G:aA}:c8 b l G (msk b l G)=G:=by
 funext i;unfold c8 msk;split;·rfl
 ·rfl
theorem bz{F:Nat->Prop}{σ:Nat->Nat}{nh:Nat}{rows:List (List D1)}{id off len:Nat}{o:bN}(hi:vw n rows)(hl:len=rows.length)(d:F id)(e:H id=some o)(f:o.n=n)(hlen:off+rows.length<=o.rows.length)(hr:(o.rows.drop off).take rows.length=rows)(hc:rows.length<=cap):Cv1 H F σ nh (.isl rows) (.osl n id off len cap):=by
 subst hl
 have g: ∀i:Nat,∀r',rows[i]?=some r'->o.rows[off+i]?=some r':=by
  intro i r' h;rw[<-hr,ad2] at h;split at h;·rw[adO] at h;exact h
  ·cases h
 refine .frz (.frz rows n id off cap o (fun i j=>((rows[i]?.getD [])[j]?).getD .dead) d e f hlen hc (fun i r' h=>(hi r' (adI h)).1) (fun i j r' c a b=>⟨r',g i r' a,by rw[a];simp[b]⟩) fun i j r' c a b=> ?_);rw[a];simp only[Option.getD_some,b];exact .same c ((hi r' (adI a)).2 c (adI b))
structure kW(X:Nat->Prop)(H:aA)(nx:Nat)(nm:Nat->Nat)(s:CSt)(cells:List D1):Prop where
 rep:CM H nm s cells
 names:Names X nx nm
 x: ∀id,X id->id<nx
variable{nm:Nat->Nat}{cells:List D1}
theorem kW.box{X:Nat->Prop}{H':aA}{nx' i0:Nat}(h:kW X H nx nm s cells)(f:nx<=i0)(hi:i0<nx')(c:H' i0=some ⟨5,1,[cells]⟩)(d: ∀id,id<nx->H' id=H id):Rep X H' nx' i0 nm s:=⟨⟨cells,c,h.rep.frame fun k a=>d _ (h.names.lt k a)⟩,h.names.mono (by omega),fun k a he=>by have:=h.names.lt k a;omega,⟨hi,fun e=>by have:=h.x _ e;omega⟩,fun id b=>by have:=h.x id b;omega⟩
theorem kW.frame{X:Nat->Prop}{H H':aA}{nx nx':Nat}{nm:Nat->Nat}{s:CSt}{cells:List D1}(h:kW X H nx nm s cells)(c:nx<=nx')(d: ∀id,id<nx->¬X id->H' id=H id):kW X H' nx' nm s cells:=⟨h.rep.frame fun k b=>d _ (h.names.lt k b) (h.names.av k b),h.names.mono c,fun id a=>by have:=h.x id a;omega⟩
theorem kW.UD{X:Nat->Prop}{G:aA}(h:kW X H nx nm s cells)(hp:s.bJ.length=3)(hs:s.bR.length=4)(a: ∀id,id<nx->G id=H id):CvD G (fun _=>True) id 0 (dA (dX s)) (dA cells):=oH (CL ((h.rep.frame fun k b=>a _ (h.names.lt k b)).XD (fun _ _=>trivial) hp hs))
theorem kW.len{X:Nat->Prop}(h:kW X H nx nm s cells):cells.length=5:=by obtain⟨⟨_,_,_,_,_,rfl,_⟩,_,_⟩:=h.rep;rfl
theorem kW.get{X:Nat->Prop}(h:kW X H nx nm s cells):
 ∃wc hc a vc d mp b l c,cells=[.osl 1 (nm 0) 0 s.words.length wc,.osl 1 (nm 1) 0 s.holds.length hc,.osl 4 (nm 2) 0 3 a,.osl 3 (nm 3) 0 4 vc,.osl 5 (nm 4) 0 s.told.length d]/\H (nm 2)=some ⟨4,mp,b⟩/\H (nm 3)=some ⟨3,l,c⟩/\
  mI H 1 (nm 0) 0 s.words.length wc (s.words.map aF)/\mI H 1 (nm 1) 0 s.holds.length hc (s.holds.map aF)/\mI H 5 (nm 4) 0 s.told.length d (s.told.map aL)/\3<=a/\4<=vc/\b.length=3/\c.length=4/\
  (∀k,k<3->∃e f g,b[k]?=some [cI (aN s k).next,.osl 1 (nm (5+k)) e (aN s k).queue.length f,.osl 3 (nm (8+k)) 0 (aN s k).out.length g,cI (aN s k).last]/\mI H 1 (nm (5+k)) e (aN s k).queue.length f ((aN s k).queue.map aF)/\mI H 3 (nm (8+k)) 0 (aN s k).out.length g ((aN s k).out.map eCJ))/\
  ∀k,k<4->∃i a do_ j,c[k]?=some [.osl 3 (nm (11+k)) i (aU s k).pipe.length a,.osl 5 (nm (15+k)) do_ (aU s k).done.length j,cI (aU s k).last]/\mI H 3 (nm (11+k)) i (aU s k).pipe.length a ((aU s k).pipe.map eCJ)/\mI H 5 (nm (15+k)) do_ (aU s k).done.length j ((aU s k).done.map aL):=by
 obtain⟨⟨wc,hc,a,vc,d,rfl,p,q,t,u,v⟩,⟨mp,b,w,x,y⟩,⟨l,c,z,A,B⟩⟩:=h.rep
 refine⟨wc,hc,a,vc,d,mp,b,l,c,rfl,w,z,p,q,t,u,v,x,A,fun k m=> ?_,fun k m=> ?_⟩
 ·obtain⟨r,n,⟨e,f,g,rfl,o⟩⟩:=y k m;exact⟨e,f,g,n,o⟩
 ·obtain⟨r,n,⟨i,a,do_,j,rfl,o⟩⟩:=B k m;exact⟨i,a,do_,j,n,o⟩
theorem Rep.acI{X:Nat->Prop}{H':aA}{nx' i0:Nat}(h:Rep X H nx i0 nm s)(who st:Nat)(b:Nat->Nat)(s':CSt)(u:nx<=nx')(v:Names X nx' b)
 (g: ∀k,k<19->b k=nm k\/((k=4\/k=5+who\/k=8+who\/k=11+st\/k=15+st)/\nx<=b k))
 (e: ∀id,id<nx->id≠i0->(∀k,k<5\/k=5+who\/k=8+who\/k=11+st\/k=15+st->k<19->id≠nm k)->H' id=H id)
 (w: ∃wc hc p vc q,H' i0=some ⟨5,1,[I6 b s' wc hc p vc q]⟩/\mI H' 1 (b 0) 0 s'.words.length wc (s'.words.map aF)/\mI H' 1 (b 1) 0 s'.holds.length hc (s'.holds.map aF)/\mI H' 5 (b 4) 0 s'.told.length q (s'.told.map aL)/\3<=p/\4<=vc)
 (y: ∃m rows m0 c,H (nm 2)=some ⟨4,m0,c⟩/\H' (nm 2)=some ⟨4,m,rows⟩/\rows.length=3/\(∀k,k<3->k≠who->rows[k]?=c[k]?)/\(who<3->∃r,rows[who]?=some r/\zK H' (b (5+who)) (b (8+who)) (aN s' who) r))
 (z: ∃m rows m0 c,H (nm 3)=some ⟨3,m0,c⟩/\H' (nm 3)=some ⟨3,m,rows⟩/\rows.length=4/\(∀k,k<4->k≠st->rows[k]?=c[k]?)/\(st<4->∃r,rows[st]?=some r/\I1 H' (b (11+st)) (b (15+st)) (aU s' st) r))
 (hw:who<3\/who=14) (hs:st<4\/st=8) (hp: ∀k,k<3->k≠who->aN s' k=aN s k) (A: ∀k,k<4->k≠st->aU s' k=aU s k):Rep X H' nx' i0 b s'/\ ∀id,X id->H' id=H id:=by
 have l:=h.names.av
 have n:=h.i0
 have o:=h.names.lt
 refine⟨h.upd (who:=who) (st:=st) u v (fun k a=> ?_) (fun k a i B C D E=> ?_) (fun k E a i B C D=> ?_) w y z hw hs hp A,fun id d=>e id (h.x id d) (fun he=>n.2 (he▸d)) fun k _ g he=>l k g (he▸d)⟩
 ·rcases g k a with i|i;·rw[i];exact h.ne k a
  ·omega
 ·rcases g k a with t|t;·exact t
  ·omega
 ·refine e _ (o k a) (h.ne k a) fun j F f he=> ?_;have:=h.names.inj k j a f he;omega
theorem Df{R:List (List D1)}(h:vw n R):vw n (R.drop 1):=fun r hr=>h r (agL hr)
theorem Yc{F:Nat->Prop}{a e:D}(h:CvD H F id nx e a): ∀(i:Nat) (b d:D),[e][i]?=some b->[a][i]?=some d->CvD H F id nx b d:=by
 intro i b d c f
 match i with
 |0=>simp at c f;subst c;subst f;exact h
 |i+1=>simp at c
theorem abN{F:Nat->Prop}{a g b:D}(h:CvD H F id nx g a)(j:b.imm=true): ∀(i:Nat) (f d:D),[g,b][i]?=some f->[a,b][i]?=some d->CvD H F id nx f d:=by
 intro i f d c e
 match i with
 |0=>simp at c e;subst c;subst e;exact h
 |1=>simp at c e;subst c;subst e;exact aE j
 |i+2=>simp at c
theorem mI.cvD{F:Nat->Prop}{id0 off len:Nat}{R:List (List D1)}(h:mI H n id0 off len cap R)(hi:vw n R)(a:F id0):CvD H F id nx (dS R) (.one (.c (.osl n id0 off len cap))):=.frz (h.frz hi a)
theorem mI.abO{id0 off len:Nat}{R:List (List D1)}(h:mI H n id0 off len cap R)(c:0<len):mI H n id0 (off+1) (len-1) (cap-1) (R.drop 1):=by obtain⟨m,rows,a,b,d,e,f,g⟩:=h.ex;exact⟨m,rows,a,by rw[<-b,aeP],by omega,by rw[adL];omega,by omega,by omega⟩
theorem Oa{l:List gX}{n:Int}(h:l.Pairwise fun a b=>a.n<b.n)(he: ∃j∈l,j.n=n):l.filter (fun j=>decide (¬j.n=n))=SF l n:=by
 induction l with
 |nil=>obtain⟨j,c,_⟩:=he;simp at c
 |cons x l o=>
  rw[ad9] at h;by_cases d:x.n=n
  ·have i: ∀j∈l,decide (¬j.n=n)=true:=fun j c=>by have:=h.1 j c;exact decide_eq_true (by omega)
   rw[af2,if_neg (by simpa using d),List.filter_eq_self.2 i];unfold SF HU;rw[show bK (isC n) (x::l)=0 by unfold bK;rw[List.findIdx?_cons,if_pos (show isC n x=true from decide_eq_true d)];rfl];rfl
  ·obtain⟨j,c,f⟩:=he;have g: ∃j∈l,j.n=n:=⟨j,by rcases adA.1 c with rfl|p;exact absurd f d;exact p,f⟩
   have m:0<=bK (isC n) l:=dU.2 (by obtain⟨j,q,r⟩:=g;exact⟨j,q,decide_eq_true r⟩);rw[af2,if_pos (by simpa using d),o h.2 g];unfold SF HU
   have e:bK (isC n) (x::l)=bK (isC n) l+1:=by
    unfold bK at m ⊢;rw[List.findIdx?_cons,if_neg (show ¬isC n x=true from fun h=>d (of_decide_eq_true h))]
    cases i:List.findIdx? (isC n) l with
    |none=>rw[i] at m;dsimp only at m;omega
    |some k=>rfl
   rw[e,show (bK (isC n) l+1).toNat=(bK (isC n) l).toNat+1 by omega];rfl
end Go.AM
namespace Go.Proofs.YtlncecohbakleaaGreat
open Go Go.AM
attribute [local irreducible] aK wv aC vd wvH
section
variable{H:aA}{nx:Nat}{K:ag2}
theorem kV{l:List Job}(hl:l.length<2^21)(w: ∀j∈l,j.rsp.data.length<2^21)
 (h: ∀H' nx' b cap,nx<=b->b<nx'->Own aL 5 H' b cap l->(∀id,id<nx->H' id=H id)->K (.one (.c (.osl 5 b 0 l.length cap))) H' nx'):ag1 gQ [dS (l.map aL)] H nx K:=by
 refine bW.mk Tryz.func193 (by kernel_rfl) MS rfl fun Q x=> ?_
 unfold mZ
 repeat' first|apply vI<;>(simp only[go_sem,nL])|fail
 refine aK.cW (β:=Nat×Nat×Nat) (fun u=>en [(4,dI u.1),(3,.one (.c (.osl 5 u.2.1 0 u.1 u.2.2))),(0,dS (l.map aL))])
  (fun u H1 a=>u.1<=l.length/\(∃m,H1 u.2.1=some ⟨5,m,(l.take u.1).map aL⟩/\u.1<=u.2.2/\u.2.2<=m)/\(nx<=u.2.1/\u.2.1<a)/\ ∀id,id<nx->H1 id=H id)
  (fun u=>l.length-u.1) (0,nx+1,0) ⟨noF,_,by repeat' first|exact C1|refine xqI rfl rfl ?_| (with_reducible apply C2)| ((with_reducible apply C0);exact CC)| ((with_reducible apply D0);apply CJ)|fail,aI,by dsimp only;omega,⟨0,by simp only[aA.set,if_true];rfl,by dsimp only;omega,by dsimp only;omega⟩,by dsimp only;omega,fun id d=>by simp only[aA.set,show ¬id=nx+1 by omega,if_false]⟩ ?_
 rintro⟨k,b,cap⟩ H1 a y ⟨z,⟨m,i,r,s⟩,⟨e,n⟩,f⟩ C o
 dsimp only at z i r s e n
 have p:(l.take k).take k=l.take k:=ac6 (by simp;omega)
 have t:aT a [b]:=AM.apart (by simp) (by simp;omega)
 simp only[aT,bM] at t
 by_cases g:k<l.length
 ·have hm:=w _ (cC g);have A:b<a+(4+2):=by omega
  repeat' first| (first|apply vI|apply UX hm)<;>(simp only[go_sem,p,So,i,t,nL];try simp (disch:=omega) only[Iw])|apply vT (by omega)| (with_reducible first|refine fun(cap:Nat) (v:_<=cap)=> ?_|refine fun(B:_<=cap)=> ?_)|refine⟨by omega,?_⟩| (refine⟨by(rw[adP];omega),?_⟩)|fail
  refine o _ _ _ (k+1,a+23,cap) noF _ (by omega) (by dsimp only;omega) (by dsimp only;repeat' first|exact C1|refine xqI rfl rfl ?_|refine xqO (by omega) rfl rfl (by rfl) ?_|fail) aI ⟨by dsimp only;omega,⟨cap,by rw[gP g];exact aA.aJ,by dsimp only;omega,ac1 _⟩,by dsimp only;omega,fun id d=> ?_⟩;rw[aA.aB (by omega),aA.aB (by omega),aA.cL (by omega)];exact f id d
 ·repeat' first|apply vI<;>(simp only[go_sem])|apply vF (by omega)|fail
  have q:k=l.length:=by omega
  subst q;refine x _ _ _ _ _ (.inr rfl) rfl (h _ _ b cap e (by omega) ⟨m,?_,r,s⟩ f);rw[i,ad1]
theorem bg{w:List Int}(hl:w.length<2^21)(h: ∀H' nx' b cap,nx<=b->b<nx'->Own aF 1 H' b cap w->(∀id,id<nx->H' id=H id)->K (dA [.osl 1 b 0 w.length cap]) H' nx'):ag1 sW [dA [.isl (w.map aF)]] H nx K:=by
 refine bW.mk Tryz.func269 (by kernel_rfl) NV rfl fun Q c=> ?_;unfold nF;repeat' first|apply vI<;>(simp only[go_sem,nL])| (with_reducible first|refine fun(cap:Nat) (a:_<=cap)=> ?_|refine fun(d:_<=cap)=> ?_)|refine⟨by omega,?_⟩|fail
 refine c _ _ _ _ _ (.inr rfl) (iM (m:=1) rfl (by simp only[aA.set,ac4,Nat.reduceEqDiff,if_false,if_true]) rfl) (h _ _ (nx+2+3) cap (by omega) (by omega) ⟨cap,by simp only[aA.set,ac2,ac4,Nat.reduceEqDiff,Nat.reduceAdd,if_false,if_true],by assumption,ac1 _⟩ fun id e=> ?_);rw[aA.aB (by omega),aA.aB (by omega),aA.aB (by omega),aA.cL (by omega)]
theorem ND{w u:List Int}(hl:w.length<2^21)(hu:u.length<2^21)(h: ∀H' nx' b0 d c0 c1,nx<=d->d<b0->b0<nx'->Own aF 1 H' b0 c0 w->Own aF 1 H' d c1 u->(∀id,id<nx->H' id=H id)->K (dA [.osl 1 b0 0 w.length c0,.osl 1 d 0 u.length c1]) H' nx'):ag1 mF [dA [.isl (w.map aF),.isl (u.map aF)]] H nx K:=by
 refine bW.mk Tryz.func192 (by kernel_rfl) N1 rfl fun Q j=> ?_;unfold nA;repeat' first| (first|apply vI|refine bg hl (fun H1 k b0 c0 l n o a=> ?_))<;>(simp only[go_sem,nL])|fail
 obtain⟨G,b⟩: ∃G,G=c8 (nx+2) [3] (((H.set nx ⟨2,1,[[.isl (w.map aF),.isl (u.map aF)]]⟩).set (nx+1) ⟨2,1,[[.osl 0 0 0 0 0,.osl 0 0 0 0 0]]⟩).set (nx+5) ⟨1,0,[]⟩) H1:=⟨_,rfl⟩
 rw[<-b];have e:G nx=some ⟨2,1,[[.isl (w.map aF),.isl (u.map aF)]]⟩:=by rw[b,um1 (by omega),a _ (by omega),aA.aB (by omega)];exact aA.aJ
 have f:G (nx+1)=some ⟨2,1,[[.osl 0 0 0 0 0,.osl 0 0 0 0 0]]⟩:=by rw[b,um1 (by omega),a _ (by omega)];exact aA.aJ
 have g:G (nx+5)=some ⟨1,0,[]⟩:=by rw[b,yy];exact aA.aJ
 have p:Own aF 1 G b0 c0 w:=o.of (by rw[b,um1 (by omega)]);have q: ∀id,id<nx->G id=H id:=fun id c=>by rw[b,um1 (by omega),a _ (by omega),aA.aB (by omega),aA.aB (by omega),mk1 (by omega)]
 clear b;have m0: ∀G:aA,msk (nx+2) [3] G nx=G nx:=fun G=>mk1 (by omega);refine⟨fun _=>by rw[m0,e];rfl,?_⟩;simp only[go_sem,e,f,g,m0,nL];repeat' first|apply vI<;>(simp only[go_sem,e,f,g,m0,nL])| (with_reducible first|refine fun(cap:Nat) (i:_<=cap)=> ?_|refine fun(r:_<=cap)=> ?_)|refine⟨by omega,?_⟩|fail
 exact j _ _ _ _ _ (.inr rfl) (iM (m:=1) rfl aA.aJ rfl) (h _ _ b0 (nx+8) c0 cap (by omega) (by omega) (by omega) (p.of (by rw[aA.aB (by omega),aA.aB (by omega),aA.cL (by omega)])) ⟨cap,by rw[aA.aB (by omega)];exact aA.aJ,by assumption,ac1 _⟩ fun id c=>by rw[aA.aB (by omega),aA.aB (by omega),aA.cL (by omega)];exact q id c)
theorem bm{s:TSt}(c:Dh s)(h: ∀H' nx' b0 f u k l n c0 c1 c2 c3 c4 c5,nx<=u->u<f->f<b0->b0<k->k<l->l<n->n<nx'->Own aF 1 H' b0 c0 s.words->Own aF 1 H' f c1 s.holds->Own aF 1 H' u c2 s.asked->Own aL 5 H' k c3 s.wait->Own aL 5 H' l c4 s.done->Own aL 5 H' n c5 s.told->(∀id,id<nx->H' id=H id)->
 K (dA [.osl 1 b0 0 s.words.length c0,.osl 1 f 0 s.holds.length c1,.osl 1 u 0 s.asked.length c2,.osl 5 k 0 s.wait.length c3,.osl 5 l 0 s.done.length c4,.osl 5 n 0 s.told.length c5]) H' nx'):ag1 IF [dA (eSt s)] H nx K:=by
 have w: ∀j∈s.wait,j.rsp.data.length<2^21:=fun j o=>c.data j (by simp[o])
 have x: ∀j∈s.done,j.rsp.data.length<2^21:=fun j o=>c.data j (by simp[o])
 have y: ∀j∈s.told,j.rsp.data.length<2^21:=fun j o=>c.data j (by simp[o])
 have O:=c.asked
 refine bW.mk Tryz.func218 (by kernel_rfl) al rfl fun Q P=> ?_
 unfold wD
 repeat' first| (first|apply vI|refine ND c.words c.holds (fun H1 R b0 f c0 c1 S T U p q d=> ?_))<;>(simp only[go_sem,nL])|fail
 obtain⟨G,g⟩: ∃G,G=c8 (nx+2) [3] (((H.set nx ⟨6,1,[eSt s]⟩).set (nx+1) ⟨6,1,[[.osl 0 0 0 0 0,.osl 0 0 0 0 0,.osl 0 0 0 0 0,.osl 0 0 0 0 0,.osl 0 0 0 0 0,.osl 0 0 0 0 0]]⟩).set (nx+5) ⟨1,0,[]⟩) H1:=⟨_,rfl⟩
 rw[<-g]
 have v:G nx=some ⟨6,1,[eSt s]⟩:=by rw[g,um1 (by omega),d _ (by omega),aA.aB (by omega)];exact aA.aJ
 have z:G (nx+1)=some ⟨6,1,[[.osl 0 0 0 0 0,.osl 0 0 0 0 0,.osl 0 0 0 0 0,.osl 0 0 0 0 0,.osl 0 0 0 0 0,.osl 0 0 0 0 0]]⟩:=by rw[g,um1 (by omega),d _ (by omega)];exact aA.aJ
 have I:G (nx+5)=some ⟨1,0,[]⟩:=by rw[g,yy];exact aA.aJ
 have r:Own aF 1 G b0 c0 s.words:=p.of (by rw[g,um1 (by omega)])
 have t:Own aF 1 G f c1 s.holds:=q.of (by rw[g,um1 (by omega)])
 have J: ∀id,id<nx->G id=H id:=fun id b=>by rw[g,um1 (by omega),d _ (by omega),aA.aB (by omega),aA.aB (by omega),mk1 (by omega)]
 clear g p q d
 have m0: ∀G:aA,msk (nx+2) [3] G nx=G nx:=fun G=>mk1 (by omega)
 simp only[m0,v]
 refine⟨⟨fun _=>rfl,fun _=>rfl,fun _=>rfl,fun _=>rfl⟩,?_⟩
 simp only[go_sem,v,z,I,nL]
 refine⟨by omega,fun c2 A _=> ?_⟩
 refine kV c.wait w fun H2 B k c3 p1 p2 V a=> ?_
 have L:H2 nx=some ⟨6,1,[eSt s]⟩:=by rw[a _ (by omega),aA.aB (by omega),aA.cL (by omega)];exact v
 have W:H2 (nx+1)=some ⟨6,1,[[.osl 0 0 0 0 0,.osl 0 0 0 0 0,.osl 0 0 0 0 0,.osl 0 0 0 0 0,.osl 0 0 0 0 0,.osl 0 0 0 0 0]]⟩:=by rw[a _ (by omega),aA.aB (by omega),aA.cL (by omega)];exact z
 have C:Own aF 1 H2 b0 c0 s.words:=r.of (by rw[a _ (by omega),aA.aB (by omega),aA.cL (by omega)])
 have D:Own aF 1 H2 f c1 s.holds:=t.of (by rw[a _ (by omega),aA.aB (by omega),aA.cL (by omega)])
 have E:Own aF 1 H2 (nx+8) c2 s.asked:=⟨c2,by rw[a _ (by omega)];exact aA.aJ,A,ac1 _⟩
 have X: ∀id,id<nx->H2 id=H id:=fun id b=>by rw[a _ (by omega),aA.aB (by omega),aA.cL (by omega)];exact J id b
 clear v z I r t J a
 simp only[go_sem,L]
 refine kV c.done x fun Y Z l c4 p3 p4 o4 i=> ?_
 have l0:Y nx=some ⟨6,1,[eSt s]⟩:=by rw[i _ (by omega)];exact L
 simp only[go_sem,l0]
 refine kV c.told y fun F aa n c5 p5 p6 o5 e=> ?_
 have M:F nx=some ⟨6,1,[eSt s]⟩:=by rw[e _ (by omega)];exact l0
 have N:F (nx+1)=some ⟨6,1,[[.osl 0 0 0 0 0,.osl 0 0 0 0 0,.osl 0 0 0 0 0,.osl 0 0 0 0 0,.osl 0 0 0 0 0,.osl 0 0 0 0 0]]⟩:=by rw[e _ (by omega),i _ (by omega)];exact W
 have fr: ∀id,id<B->F id=H2 id:=fun id b=>by rw[e _ (by omega),i _ (by omega)]
 simp only[go_sem,M,N]
 repeat' first|apply vI<;>(simp only[go_sem,M,N])|fail
 exact P _ _ _ _ _ (.inr rfl) (iM (m:=1) rfl aA.aJ rfl) (h _ _ b0 f (nx+8) k l n c0 c1 c2 c3 c4 c5 (by omega) (by omega) (by omega) (by omega) (by omega) (by omega) (by omega)
  (C.of (by rw[aA.aB (by omega),fr _ (by omega)])) (D.of (by rw[aA.aB (by omega),fr _ (by omega)])) (E.of (by rw[aA.aB (by omega),fr _ (by omega)])) (V.of (by rw[aA.aB (by omega),fr _ (by omega)])) (o4.of (by rw[aA.aB (by omega),e _ (by omega)])) (o5.of (by rw[aA.aB (by omega)])) fun id b=>by rw[aA.aB (by omega),fr _ (by omega)];exact X id b)
def UA(n:Int)(l:List gX):List gX:=l.filter fun j=>decide (¬j.n=n)
theorem Lu{n:Int}{l:List gX}{k:Nat}(a:k<l.length):UA n (l.take (k+1))=if (l.getD k default).n=n then UA n (l.take k) else UA n (l.take k)++[l.getD k default]:=by
 unfold UA;rw[gP a,List.filter_append];by_cases h:(l.getD k default).n=n;·rw[if_pos h,af2,if_neg (by simpa using h)];simp
 ·rw[if_neg h,af2,if_pos (by simpa using h)];simp
theorem nu{l:List gX}{n:Int}(hl:l.length<2^21)
 (h: ∀H' nx' b cap,nx<=b->b<nx'->Own eCJ 3 H' b cap (UA n l)->(∀id,id<nx->H' id=H id)->K (.one (.c (.osl 3 b 0 (UA n l).length cap))) H' nx'):ag1 HX [dS (l.map eCJ),dI n] H nx K:=by
 refine bW.mk Tryz.func208 (by kernel_rfl) cz rfl fun Q C=> ?_
 unfold wW
 repeat' first|apply vI<;>(simp only[go_sem,nL])|fail
 refine aK.cW (β:=Nat×Nat×Nat) (fun u=>en [(6,dI u.1),(5,.one (.c (.osl 3 u.2.1 0 (UA n (l.take u.1)).length u.2.2))),(1,dI n),(0,dS (l.map eCJ))])
  (fun u H1 a=>u.1<=l.length/\Own eCJ 3 H1 u.2.1 u.2.2 (UA n (l.take u.1))/\(nx<=u.2.1/\u.2.1<a)/\ ∀id,id<nx->H1 id=H id)
  (fun u=>l.length-u.1) (0,nx+1,0) ⟨noF,_,by repeat' first|exact C1|refine xqI rfl rfl ?_| (with_reducible apply C2)| ((with_reducible apply C0);exact CC)| ((with_reducible apply D0);apply CJ)|fail,aI,by dsimp only;omega,⟨0,by simp only[aA.set,if_true];rfl,ac1 _,ac1 _⟩,by dsimp only;omega,fun id f=>by simp only[aA.set,show ¬id=nx+1 by omega,if_false]⟩ ?_
 rintro⟨k,b,z⟩ H1 a D ⟨E,⟨m,g,o,q⟩,⟨i,s⟩,d⟩ G j
 dsimp only at E g o q i s
 have A:aT a [b]:=AM.apart (by simp) (by simp;omega)
 simp only[aT,bM] at A
 by_cases t:k<l.length
 ·obtain⟨x,v⟩: ∃x,l.getD k default=x:=⟨_,rfl⟩
  have hs:=Lu (n:=n) t;rw[v] at hs;have w: ∀r:List gX,r.take r.length=r:=fun r=>ad1;by_cases p:x.n=n
  ·rw[if_pos p] at hs;have e:(x.n=n)=True:=eq_true p;repeat' first|apply vI<;>(simp only[go_sem,v,e,nL];try simp (disch:=omega) only[Iw])|apply vT (by omega)|refine⟨by omega,?_⟩|fail
   exact j _ _ _ (k+1,b,z) noF _ (by omega) (by dsimp only;omega) (by dsimp only;rw[hs];repeat' first|exact C1|refine xqI rfl rfl ?_|refine xqO (by omega) rfl rfl (by rfl) ?_|fail) aI ⟨by dsimp only;omega,by dsimp only;rw[hs];exact⟨m,g,o,q⟩,by dsimp only;omega,d⟩
  ·rw[if_neg p] at hs;have e:(x.n=n)=False:=eq_false p;have hle:(UA n (l.take k)).length<=k:=aeB (List.length_filter_le _ _) (by rw[adP];omega);repeat' first|apply vI<;>(simp only[go_sem,v,e,w,g,A,nL];try simp (disch:=omega) only[Iw])|apply vT (by omega)| (with_reducible first|refine fun(cap:Nat) (B:_<=cap)=> ?_|refine fun(F:_<=cap)=> ?_)|refine⟨by omega,?_⟩|fail
   refine j _ _ _ (k+1,a+17,cap) noF _ (by omega) (by dsimp only;omega) (by dsimp only;rw[hs,ac7,List.length_singleton];repeat' first|exact C1|refine xqI rfl rfl ?_|refine xqO (by omega) rfl rfl (by rfl) ?_|fail) aI ⟨by dsimp only;omega,by dsimp only;rw[hs];exact⟨cap,aA.aJ,by rw[ac7,List.length_singleton];omega,ac1 _⟩,by dsimp only;omega,fun id f=> ?_⟩;rw[aA.aB (by omega),aA.aB (by omega),aA.cL (by omega)];exact d id f
 ·repeat' first|apply vI<;>(simp only[go_sem])|apply vF (by omega)|fail
  have y:k=l.length:=by omega
  subst y;rw[ad1] at g o;rw[show (UA n (l.take l.length))=UA n l by rw[ad1]];exact C _ _ _ _ _ (.inr rfl) rfl (h _ _ b z i (by omega) ⟨m,g,o,q⟩ d)
end
end Go.Proofs.YtlncecohbakleaaGreat
namespace Go.Proofs.YtlncecohbakleaaGreat.B7
open Go Go.AM Go.Proofs.YtlncecohbakleaaGreat
section
variable{H:aA}{nx:Nat}{K:ag2}
theorem Kk{q:Req}(h:cR q):cR ⟨q.id,3,q.addr,1,false,[],[]⟩:=by obtain⟨b,d,⟨e,c,f⟩,g⟩:=h;refine⟨b,by dsimp only;omega,⟨by dsimp only;omega,c,.inr (by dsimp only;omega)⟩,by simp[oE],by simp[oE],fun x a=>by simp at a,fun x a=>by simp at a,.inr (.inr rfl)⟩
theorem Ja{q:Req}(h:cR q):q.data.length<2^40/\q.lanes.length<2^40:=by
 obtain⟨c,d,⟨e,f,g⟩,a,b,i⟩:=h;unfold oE at a b;constructor;·split at a<;>omega
 ·split at b<;>omega
theorem cj(l:List Int):ag1 xF [dS (l.map eU8)] (hp []) 0 fun r H' n'=>n'=1/\H'=hp [(0,rdO (l.take 2000) 0)]/\r=dP 2 0:=by
 refine aR.mk Tryz.func91 (by kernel_rfl) X1 rfl fun Q a=> ?_;unfold uA;repeat' first|apply vI<;>(simp only[go_sem])|refine iR (fun h=> ?_) fun h=> ?_|refine⟨by omega,?_⟩|fail
 ·have e:l.take 2000=(l.take 2000).take 2000:=by rw[afZ];simp
  (refine a _ _ _ _ _ 1 (dP 2 0) (hp [(0,rdO (l.take 2000) 0)]) _ _ (.inr rfl) rfl (fT [9] (by omega) (by repeat' first| ((with_reducible apply C0);exact CE (by omega) rfl)| ((with_reducible apply D0);apply CJ)|fail) ⟨⟨by simp,by simp[sgL],_,rfl,cP (bU _ _)⟩,trivial⟩ (by simp[sgL])) ?_);exact⟨rfl,rfl,rfl⟩
 · (refine a _ _ _ _ _ 1 (dP 2 0) (hp [(0,rdO l 0)]) _ _ (.inr rfl) rfl (fT [6] (by omega) (by repeat' first| ((with_reducible apply C0);exact CE (by omega) rfl)| ((with_reducible apply D0);apply CJ)|fail) ⟨⟨by simp,by simp[sgL],_,rfl,cP (bU _ _)⟩,trivial⟩ (by simp[sgL])) ?_)
   exact⟨rfl,by rw[ac6 (by omega)],rfl⟩
theorem iz{l:List Int}(h:K (dP 2 nx) (H.set nx (rdO (l.take 2000) 0)) (nx+1)):ag1 xF [dS (l.map eU8)] H nx K:=by
 refine(cj l).DD (l0:=[]) [] rfl ⟨aE rfl,trivial⟩ trivial (by simp) (by simp) (by simp) fun r H' n' _ ⟨a,b,c⟩=> ?_;subst a;subst b;subst c;have d:back (tau 0 nx (nth [])) (hp [(0,rdO (l.take 2000) 0)]) 1 H=H.set nx (rdO (l.take 2000) 0):=by simp only[back,hp,aA.set,tau,adV,if_true,if_false,Nat.sub_zero,Nat.add_zero,Option.map_some,mW (bU _ _),aA.fI]
 rw[<-d] at h;exact h
end
end Go.Proofs.YtlncecohbakleaaGreat.B7
namespace Go.Proofs.YtlncecohbakleaaGreat
open Go Go.AM
attribute [local irreducible] aK wv aC vd wvH
section
variable{H:aA}{nx:Nat}{K:ag2}
theorem vq(h: ∀H' nx',nx+4<=nx'->H' (nx+1)=some ⟨1,3,[true,true,true].map gE⟩->H' (nx+2)=some ⟨1,4,[false,false,false,false].map gE⟩->H' (nx+3)=some ⟨1,3,[true,true,true].map gE⟩->(∀id,id<nx->H' id=H id)->K (dA [.osl 1 (nx+1) 0 3 3,.osl 1 (nx+2) 0 4 4,.osl 1 (nx+3) 0 3 3]) H' nx'):ag1 JY [] H nx K:=by
 refine bW.mk Tryz.func95 (by kernel_rfl) ly rfl fun Q a=> ?_;unfold BI;repeat' first|apply vI<;>(simp only[go_sem,nL])|fail
 refine a _ _ _ _ _ (.inr rfl) (iM (m:=1) rfl (by simp only[aA.set,ac3,Nat.reduceEqDiff,if_false,if_true,ae8,reduceIte]) rfl) (h _ _ (by omega) ?_ ?_ ?_ fun id b=> ?_);·simp only[aA.set,ac4,Nat.reduceEqDiff,if_false,if_true];rfl
 ·simp only[aA.set,ac4,Nat.reduceEqDiff,if_false,if_true];rfl
 ·simp only[aA.set,ac4,Nat.reduceEqDiff,if_false,if_true];rfl
 ·simp only[aA.set,show ¬id=nx by omega,show ¬id=nx+1 by omega,show ¬id=nx+2 by omega,show ¬id=nx+3 by omega,if_false]
theorem UL{l:List Int}{p i:Nat}{slow:Int}(hl:gD l)(R:p+20<2^50)(aa:0<slow/\slow<1000)(hi:i<nx)(ho:H i=some (rdO l p))
 (h: ∀H' nx' S x,nx<=nx'->S<=p+10->fw x->H' i=some (rdO l S)->(∀id,id<nx->id≠i->H' id=H id)->K (dA (eIn x)) H' nx'):ag1 EK [dP 2 i,dI slow] H nx K:=by
 apply aC.qC
 refine bW.mk Tryz.func109 (by kernel_rfl) kq rfl fun Q hQ=> ?_
 unfold BR
 repeat' first| (first|apply vI|refine vq (fun H' nx' hx T U V e=> ?_))<;>(simp only[go_sem,nL])|fail
 refine aK.QK fun o b=> ?_
 have c0:o nx=some ⟨3,1,[[.osl 0 0 0 0 0,.osl 0 0 0 0 0,.osl 0 0 0 0 0]]⟩:=by rw[b,aA.aB (by omega),e _ (by omega)];exact aA.aJ
 have c2:o (nx+2)=some ⟨3,1,[[.osl 1 (nx+5) 0 3 3,.osl 1 (nx+6) 0 4 4,.osl 1 (nx+7) 0 3 3]]⟩:=by rw[b];exact aA.aJ
 have c5:o (nx+5)=some ⟨1,3,[true,true,true].map gE⟩:=by rw[b,aA.aB (by omega)];exact T
 have c6:o (nx+6)=some ⟨1,4,[false,false,false,false].map gE⟩:=by rw[b,aA.aB (by omega)];exact U
 have c7:o (nx+7)=some ⟨1,3,[true,true,true].map gE⟩:=by rw[b,aA.aB (by omega)];exact V
 have ci:o i=some (rdO l p):=by rw[b,aA.aB (by omega),e _ (by omega),aA.aB (by omega)];exact ho
 have z: ∀id,id<nx->o id=H id:=fun id ab=>by rw[b,aA.aB (by omega),e _ (by omega),aA.aB (by omega)]
 clear b T U V e
 refine aK.cW (β:=Nat×Nat×List Bool×List Bool) (fun u=>en [(6,dI u.1),(5,.one (.c (.ptr 3 (nx+2) 0 0))),(4,.one (.c (.ptr 3 nx 0 0))),(1,dI slow),(0,dP 2 i)])
  (fun u H1 _=>u.1<=3/\u.2.1<=p+2*u.1/\u.2.2.1.length=3/\u.2.2.2.length=3/\H1 i=some (rdO l u.2.1)/\H1 (nx+5)=some ⟨1,3,u.2.2.1.map gE⟩/\H1 (nx+7)=some ⟨1,3,u.2.2.2.map gE⟩/\ ∀id,id<nx+8->id≠i->id≠nx+5->id≠nx+7->H1 id=o id)
  (fun u=>3-u.1) (0,p,[true,true,true],[true,true,true]) ⟨noF,_,by repeat' first|exact C1|refine xqI rfl rfl ?_|refine xqP (by omega) rfl rfl ?_|fail,aI,by dsimp only;omega,by dsimp only;omega,rfl,rfl,ci,c5,c7,fun _ _ _ _ _=>rfl⟩ ?_
 rintro⟨k,q,A,rc⟩ H1 t ad ⟨B,hq,f,g,w,C,D,d⟩ KL E
 dsimp only at B hq f g w C D
 have W:=(d (nx+2) (by omega) (by omega) (by omega) (by omega)).trans c2
 have F:aT t [i,nx,nx+2,nx+5,nx+6,nx+7]:=AM.apart (by simp;omega) (by simp;omega)
 simp only[aT,bM] at F
 by_cases G:k<3
 ·repeat' first| (first|apply vI|refine aO (p:=q) hl (by omega) (by omega) (by omega) w (fun y ai aj=> ?_)|refine aO (p:=q+1) hl (by omega) (by omega) (by omega) (by simp only[aA.set,F,if_false,if_true,w]) (fun x h1 h2=> ?_))<;>(simp only[go_sem,nL,W,C,D,w,F];try simp (disch:=omega) only[Iw])|apply vT (by omega)|refine⟨by omega,?_⟩|fail
  have er: ∀(r:List Bool) (y:Int),(r.map gE).set k [D1.v (.bool (decide (0<y)))]=(r.set k (decide (0<y))).map gE:=fun r y=>by rw[aeH];rfl
  rw[er,er];refine E _ _ _ (k+1,q+1+1,A.set k (decide (0<y)),rc.set k (decide (0<x))) noF _ (by omega) (by dsimp only;omega) (by repeat' first|exact C1|refine xqI rfl rfl ?_|refine xqP (by omega) rfl rfl ?_|fail) aI ⟨by dsimp only;omega,by dsimp only;omega,by simpa using f,by simpa using g,?_,?_,?_,fun id d1 d2 d3 X=> ?_⟩;·dsimp only;rw[aA.aB (by omega),aA.aB (by omega)];exact aA.aJ
  ·dsimp only;rw[aA.aB (by omega)];exact aA.aJ
  ·exact aA.aJ
  ·rw[aA.aB X,aA.aB d3,aA.aB d2];exact d id d1 d2 d3 X
 ·repeat' first|apply vI<;>(simp only[go_sem])|apply vF (by omega)|fail
  have I:k=3:=by omega
  subst I;have g6:=(d (nx+6) (by omega) (by omega) (by omega) (by omega)).trans c6
  refine aK.cW (β:=Nat×Nat×List Bool) (fun u=>en [(7,dI u.1),(5,.one (.c (.ptr 3 (nx+2) 0 0))),(4,.one (.c (.ptr 3 nx 0 0))),(1,dI slow),(0,dP 2 i)])
   (fun u H2 _=>u.1<=4/\u.2.1<=p+6+u.1/\u.2.2.length=4/\H2 i=some (rdO l u.2.1)/\H2 (nx+6)=some ⟨1,4,u.2.2.map gE⟩/\ ∀id,id<t->id≠i->id≠nx+6->H2 id=H1 id)
   (fun u=>4-u.1) (0,q,[false,false,false,false]) ⟨noF,_,by repeat' first|exact C1|refine xqI rfl rfl ?_|refine xqP (by omega) rfl rfl ?_|fail,aI,by dsimp only;omega,by dsimp only;omega,rfl,w,g6,fun _ _ _ _=>rfl⟩ ?_
  rintro⟨k,J,L⟩ H2 M Y ⟨B,N,m,n,O,a⟩ KM P;dsimp only at B N m n O;have Z:=(a (nx+2) (by omega) (by omega) (by omega)).trans W;have b0:=(a nx (by omega) (by omega) (by omega)).trans ((d nx (by omega) (by omega) (by omega) (by omega)).trans c0);have s:aT M [i,nx,nx+2,nx+5,nx+6,nx+7]:=AM.apart (by simp;omega) (by simp;omega);simp only[aT,bM] at s;by_cases G:k<4
  ·repeat' first| (first|apply vI|refine aO (p:=J) hl (by omega) (by omega) (by omega) n (fun x h1 h2=> ?_))<;>(simp only[go_sem,nL,Z,O,n,s];try simp (disch:=omega) only[Iw])|apply vT (by omega)|refine⟨by omega,?_⟩|fail
   have er: ∀(r:List Bool) (y:Int),(r.map gE).set k [D1.v (.bool (decide (y=0)))]=(r.set k (decide (y=0))).map gE:=fun r y=>by rw[aeH];rfl
   rw[er];refine P _ _ _ (k+1,J+1,L.set k (decide (x=0))) noF _ (by omega) (by dsimp only;omega) (by repeat' first|exact C1|refine xqI rfl rfl ?_|refine xqP (by omega) rfl rfl ?_|fail) aI ⟨by dsimp only;omega,by dsimp only;omega,by simpa using m,?_,?_,fun id d1 d2 d3=> ?_⟩;·dsimp only;rw[aA.aB (by omega)];exact aA.aJ
   ·exact aA.aJ
   ·rw[aA.aB d3,aA.aB d2];exact a id d1 d2 d3
  ·repeat' first|apply vI<;>(simp only[go_sem,nL,Z,b0,s])|apply vF (by omega)|fail
   have b5:=(a (nx+5) (by omega) (by omega) (by omega)).trans C;have b7:=(a (nx+7) (by omega) (by omega) (by omega)).trans D;refine hQ _ _ _ _ _ (.inr rfl) (iM rfl aA.aJ rfl) ⟨dA (eIn ⟨A,L,rc⟩),_,fun j=>nx+5<=j/\j<nx+5+3,oH (aH (cM im ((aA.aB (by omega)).trans b5) f.symm (by dsimp only;omega) (by omega)) (aH (cM im ((aA.aB (by omega)).trans O) m.symm (by dsimp only;omega) (by omega)) (aH (cM im ((aA.aB (by omega)).trans b7) g.symm (by dsimp only;omega) (by omega)) cG))),zl,h _ _ J ⟨A,L,rc⟩ (by omega) (by omega) ⟨f,m,g⟩ ?_ fun id d1 d2=> ?_⟩;·rw[Fg (by omega),aA.aB (by omega)];exact n
   ·rw[Fg (by omega),aA.aB (by omega),a id (by omega) d2 (by omega),d id (by omega) d2 (by omega) (by omega)];exact z id d1
end
theorem jO{H:aA}{e:Env}{t n id m:Nat}{cs:List D1}(he:e t= .one (.c (.ptr n id 0 0)))(a:H id=some ⟨n,m,[cs]⟩)(hl:cs.length=n):nP H e [.cell t n true]=some (dA cs):=by subst hl;simp[nP,V0,he,rI,a,mkV]
section
variable{H:aA}{nx:Nat}{K:ag2}
theorem QL{X:Nat->Prop}{c:Cfg}{i:CIn}{s:CSt}{k:Nat}{nm:Nat->Nat}{cells:List D1}(hb:bG c)(hs:COk c s)(hk:k<3)(hr:i.ready.getD k default=true)(B:kW X H nx nm s cells)
 (h: ∀H' nx' f t,nx<=nx'->kW X H' nx' f (TO c s (pY i s k)) t->(∀id,X id->H' id=H id)->K (dA t) H' nx'):
 ag1 A6 [dA cells,dI k] H nx K:=by
 refine bW.mk Tryz.func121 (by kernel_rfl) ZY rfl fun Q hQ=> ?_
 unfold wG
 have hX:=B.x
 obtain⟨wc,hc,pc,vc,tc,mp,rp,mv,rv,M,g1,g2,g3,g4,g5,g6,g7,g8,g9,ga,gb⟩:=B.get
 subst M
 repeat' first| (first|apply vI|refine II hs hk hr (B.UD hs.pl hs.sl (fun id g=>by rw[aA.aB (by omega),aA.aB (by omega)])) (fun r cl=> ?_))<;>(simp only[go_sem,nL])|fail
 generalize hG:aA.set (aA.set H nx _) (nx+1) _=G
 have f0:G nx=some ⟨5,1,[[.osl 1 (nm 0) 0 s.words.length wc,.osl 1 (nm 1) 0 s.holds.length hc,.osl 4 (nm 2) 0 3 pc,.osl 3 (nm 3) 0 4 vc,.osl 5 (nm 4) 0 s.told.length tc]]⟩:=by rw[<-hG,aA.aB (by omega)];exact aA.aJ
 have f1:G (nx+1)=some ⟨5,1,[[D1.osl 0 0 0 0 0,D1.osl 0 0 0 0 0,D1.osl 0 0 0 0 0,D1.osl 0 0 0 0 0,D1.osl 0 0 0 0 0]]⟩:=by rw[<-hG];exact aA.aJ
 have C: ∀id,id<nx->G id=H id:=fun id g=>by rw[<-hG,aA.aB (by omega),aA.aB (by omega)]
 clear hG
 have cp:Rep X G (nx+1) nx nm s:=B.box (ac1 _) (by omega) f0 C
 rcases cl with⟨ho,rfl⟩|⟨st,m,ho,rfl⟩
 · (try simp only[go_sem,nL,f0,f1,nL]);repeat' first|apply vI<;>(simp only[go_sem,nL,f0,f1,nL])|fail
   rw[ho] at h
   refine hQ _ _ _ _ _ (.inr rfl) (jO rfl aA.aJ rfl) (h _ _ nm _ (by omega) (B.frame (by omega) fun id g _=>by rw[aA.aB (by omega)];exact C id g) fun id g=> ?_)
   have:=hX id g
   rw[aA.aB (by omega)];exact C id this
 ·have aa:=JU hs hk ho;obtain⟨_,_,N,ab⟩:=aa;obtain⟨p,hp⟩: ∃p,aN s k=p:=⟨_,rfl⟩
  obtain⟨v,hv⟩: ∃v,aU s st=v:=⟨_,rfl⟩
  obtain⟨qo,qc,oc,O,gq,go⟩:=ga k hk;obtain⟨po,ad,do_,dc,gs,gp,gd⟩:=gb st m;rw[hp] at O gq go;rw[hv] at gs gp gd N ab;obtain⟨d,hd⟩: ∃d,v.done.getD 0 default=d:=⟨_,rfl⟩
  rw[hd] at ab;have lt:=B.names.lt;have n2:=lt 2 (by omega);have n3:=lt 3 (by omega);have n4:=lt 4 (by omega);have n8:=lt (8+k) (by omega);have ai:=lt (15+st) (by omega);have a:aT nx ([2,3,4,5+k,8+k,11+st,15+st].map nm):=AM.apart (B.names.list (by simp;omega) (by simp;omega)) (fun x hx=>by obtain⟨j,D,rfl⟩:=ac9.1 hx;exact lt j (by simp at D;omega));simp only[aT,bM,List.map] at a;have P:G (nm 2)=some ⟨4,mp,rp⟩:=(C _ n2).trans g1;have R:G (nm 3)=some ⟨3,mv,rv⟩:=(C _ n3).trans g2;obtain⟨md,rd,d1,d2,d3,d4,d5,d6⟩:=gd.ex;have d7:rd[do_]?=some (aL d):=by have:(rd.drop do_)[0]?=some (aL d):=(by rw[d2,adJ,<-hd];simp[List.getD,N]);rwa [adO,Nat.add_zero] at this
  have aj:G (nm (15+st))=some ⟨5,md,rd⟩:=(C _ ai).trans d1;(try simp only[go_sem,nL,f0,f1,P,R,O,gs,aj,d7,a,nL]);repeat' first| (first|apply vI|refine aC.Jh (args':=[dS ((v.done.drop 1).map aL)]) (without (fun j=>j=nm (15+st)) _) (fun j=>j=nm (15+st)) rfl (Yc ?_) kK (kV ?_ ?_ fun H2 ao J c5 e1 e2 e3 e4=> ?_))<;>(simp only[go_sem,nL,f0,f1,P,R,O,gs,aj,d7,a,nL])|apply vF (by omega)|refine⟨by omega,?_⟩|fail
  refine aC.Jh (args':=[dS ((v.done.drop 1).map aL)]) (without (fun j=>j=nm (15+st)) _) (fun j=>j=nm (15+st)) rfl (Yc ?_) kK (kV ?_ ?_ fun H2 ao J c5 e1 e2 e3 e4=> ?_);·rw[aeI];exact((gd.frame (by rw[aA.aB (by omega)];exact C _ ai)).abO N).cvD (Df (aG bC _)) rfl
  ·have:=(hs.slv st m).dl;rw[hv] at this;rw[adL];omega
  ·intro j D;have:=(hs.slv st m).rsp j (by rw[hv];exact agL D);have:=this.1.2.2.1;omega
  have q0:H2 nx=some ⟨5,1,[[.osl 1 (nm 0) 0 s.words.length wc,.osl 1 (nm 1) 0 s.holds.length hc,.osl 4 (nm 2) 0 3 pc,.osl 3 (nm 3) 0 4 vc,.osl 5 (nm 4) 0 s.told.length tc]]⟩:=by rw[e4 _ (by omega),dM (by omega),aA.aB (by omega)];exact f0
  have q1:H2 (nx+1)=some ⟨5,1,[[D1.osl 0 0 0 0 0,D1.osl 0 0 0 0 0,D1.osl 0 0 0 0 0,D1.osl 0 0 0 0 0,D1.osl 0 0 0 0 0]]⟩:=by rw[e4 _ (by omega),dM (by omega),aA.aB (by omega)];exact f1
  have qj:H2 (nx+16)=some ⟨5,1,[aL d]⟩:=by rw[e4 _ (by omega),dM (by omega)];exact aA.aJ
  have qf: ∀id,id<nx->id≠nm (15+st)->H2 id=H id:=fun id E u=>by rw[e4 _ (by omega),dM (F:=fun j=>j=nm (15+st)) u,aA.aB (by omega)];exact C _ E
  have S:H2 (nm 2)=some ⟨4,mp,rp⟩:=(qf _ n2 (by simp[a])).trans g1;have bb:H2 (nm 3)=some ⟨3,mv,rv⟩:=(qf _ n3 (by simp[a])).trans g2;(try simp only[go_sem,nL,q0,q1,qj,S,bb,O,gs,a,ad0,nL]);repeat' first|apply vI<;>(simp only[go_sem,nL,q0,q1,qj,S,bb,O,gs,a,ad0,nL])|refine⟨by omega,?_⟩|fail
  refine aC.Jh (args':=[dS (p.out.map eCJ),dI d.n]) (without (fun j=>j=nm (8+k)) _) (fun j=>j=nm (8+k)) rfl (abN ?_ rfl) kK (nu ?_ fun H3 o b6 c6 u1 u2 u3 u4=> ?_);·exact(go.frame (by rw[aA.aB (by simp[a]),qf _ n8 (by simp[a])])).cvD (aG DL _) rfl
  ·have:=(hs.port k hk).ol;rw[hp] at this;omega
  have a3: ∀id,id<ao+15->id≠nm (8+k)->id≠nm 3->H3 id=H2 id:=fun id E u I=>by rw[u4 _ E,dM (F:=fun j=>j=nm (8+k)) u,aA.aB I]
  have r0:=(a3 nx (by omega) (by omega) (by omega)).trans q0;have r1:=(a3 (nx+1) (by omega) (by omega) (by omega)).trans q1;have rj:=(a3 (nx+16) (by omega) (by omega) (by omega)).trans qj;have bk:H3 (nm 2)=some ⟨4,mp,rp⟩:=(a3 _ (by omega) (by simp[a]) (by simp[a])).trans S;have T:H3 (nm 3)=some ⟨3,mv,rv.set st [D1.osl 3 (nm (11+st)) po v.pipe.length ad,D1.osl 5 J 0 (List.drop 1 v.done).length c5,cI v.last]⟩:=by rw[u4 _ (by omega),dM (F:=fun j=>j=nm (8+k)) (by simp[a])];exact aA.aJ
  have rf: ∀id,id<nx->id≠nm (15+st)->id≠nm (8+k)->id≠nm 3->H3 id=H id:=fun id E u I L=>(a3 id (by omega) I L).trans (qf id E u);obtain⟨mt,rt,t1,t2,t3,t4,t5,t6⟩:=g5.ex;rw[ad6] at t2;subst t2;have bp:H3 (nm 4)=some ⟨5,mt,s.told.map aL⟩:=(rf _ n4 (by simp[a]) (by simp[a]) (by simp[a])).trans t1;have cv:s.told.length<=36:=by have:=hs.st.lens hb;simp only[dN] at this;omega
  have U: ∀r,(rp.set k r)[k]?=some r:=fun r=>by rw[adW (by omega)]
  have V:aT o ([2,3,4,5+k,8+k,11+st,15+st].map nm):=AM.apart (B.names.list (by simp;omega) (by simp;omega)) (fun x hx=>by obtain⟨j,D,rfl⟩:=ac9.1 hx;have:=lt j (by simp at D;omega);omega);simp only[aT,bM,List.map] at V;have Y:aT o [nx,nx+1]:=AM.apart (by simp) (by simp;omega);simp only[aT,bM] at Y;(try simp only[go_sem,nL,r0,r1,rj,bk,T,bp,O,gs,U,Y,V,a,ad0,nL]);repeat' first|apply vI<;>(simp only[go_sem,nL,r0,r1,rj,bk,T,bp,O,gs,U,Y,V,a,ad0,nL])| (with_reducible first|refine fun(cap:Nat) (cq:_<=cap)=> ?_|refine fun(cw:_<=cap)=> ?_)|refine⟨by omega,?_⟩|fail
  refine hQ _ _ _ _ _ (.inr rfl) (jO rfl aA.aJ rfl) ?_;generalize hW:aA.set _ (nx+1) _=W;have w0:W nx=some ⟨5,1,[[.osl 1 (nm 0) 0 s.words.length wc,.osl 1 (nm 1) 0 s.holds.length hc,.osl 4 (nm 2) 0 3 pc,.osl 3 (nm 3) 0 4 vc,.osl 5 (o+11) 0 (s.told.length+1) cap]]⟩:=by rw[<-hW,aA.aB (by omega)];exact aA.aJ
  have w2:W (nm 2)=some ⟨4,mp,rp.set k [cI p.next,.osl 1 (nm (5+k)) qo p.queue.length qc,.osl 3 b6 0 (UA d.n p.out).length c6,cI st]⟩:=by rw[<-hW,aA.aB (by omega),aA.aB (by omega),aA.aB (by omega),aA.aB (by omega)];exact aA.aJ
  have wo: ∀id,id<o->id≠nx->id≠nx+1->id≠nm 2->id≠nm 4->W id=H3 id:=fun id E u I L h5=>by rw[<-hW,aA.aB I,aA.aB u,aA.aB (by omega),aA.aB (by omega),aA.aB L,aA.cL h5]
  have w4:W (o+11)=some ⟨5,cap,(s.told++[d]).map aL⟩:=by rw[<-hW,aA.aB (by omega),aA.aB (by omega)];exact aA.aJ
  clear hW;have n5:=lt (5+k) (by omega);have cr:=lt (11+st) (by omega);have n0:=lt 0 (by omega);have n1:=lt 1 (by omega);have wf: ∀id,id<nx->id≠nm 2->id≠nm 3->id≠nm 4->id≠nm (8+k)->id≠nm (15+st)->W id=H id:=fun id E u I L h5 h6=>(wo id (by omega) (by omega) (by omega) u L).trans (rf id E h6 h5 I);have w3:=(wo (nm 3) (by omega) (by omega) (by omega) (by simp[a]) (by simp[a])).trans T;have w5:Own aL 5 W J c5 (v.done.drop 1):=e3.of ((wo J (by omega) (by omega) (by omega) (by omega) (by omega)).trans (a3 J (by omega) (by omega) (by omega)));have w6:Own eCJ 3 W b6 c6 (UA d.n p.out):=u3.of (wo b6 (by omega) (by omega) (by omega) (by omega) (by omega));have inj:=B.names.inj;obtain⟨f,q⟩: ∃f,f=put (put (put nm (15+st) J) (8+k) b6) 4 (o+11):=⟨_,rfl⟩
  have w: ∀j,j≠4->j≠8+k->j≠15+st->f j=nm j:=fun j E u I=>by rw[q,bV E,bV u,bV I]
  have p4:f 4=o+11:=by rw[q,fS]
  have p8:f (8+k)=b6:=by rw[q,bV (by omega),fS]
  have br:f (15+st)=J:=by rw[q,bV (by omega),bV (by omega),fS]
  obtain⟨s',l⟩: ∃s',s'=bS c s (.tell k st):=⟨_,rfl⟩
  have ca:nX s st=d:=by rw[<-hd,<-hv];rfl
  have cc:=hs.port k hk;rw[hp] at cc;have hex: ∃j∈p.out,j.n=d.n:=by obtain⟨_,j,x1,x2,_⟩:=(hs.slv st m).out (key d) (by rw[hv];exact jn (by rw[<-hd];exact cC (by omega)));have e:(key d).1.toNat=k:=(by show d.who.toNat=k;omega);rw[e,hp] at x1;exact⟨j,x1,x2⟩
  have cd:UA d.n p.out=SF p.out d.n:=Oa cc.za hex;have y:aN s' k= {p with out:=SF p.out d.n,last:=st}:=by rw[l,cJ rfl (by rw[hs.pl];omega),if_pos rfl,ca,hp]
  have A:aU s' st= {v with done:=v.done.drop 1}:=by rw[l,dE rfl (by rw[hs.sl];omega),if_pos rfl,hv]
  have cf:s'.told=s.told++[d]:=by rw[l,<-ca];rfl
  have Z: ∀z,nx<=z->¬X z:=fun z hz hn=>by have:=hX z hn;omega
  have key:=cp.acI (H':=W) (nx':=o+16) k st f s' (by omega) ?_ ?_ ?_ ?_ ?_ ?_ (.inl hk) (.inl m) (fun j D b=>by rw[l,cJ rfl (by rw[hs.pl];omega),if_neg b]) (fun j D b=>by rw[l,dE rfl (by rw[hs.sl];omega),if_neg b]);·obtain⟨⟨⟨cells,k1,k2⟩,k3,_,_,k4⟩,k5⟩:=key;rw[w0] at k1;have hc:=(bN.mk.inj (Option.some.inj k1)).2.2;have hc:_=cells:=(List.cons.inj hc).1;rw[<-hc] at k2;rw[ho] at h;refine h _ _ f _ (by omega) ⟨?_,k3,k4⟩ fun id g=>(k5 id g).trans (C id (hX id g));rw[show TO c s (some (.tell k st))=s' from l.symm];exact k2
  ·rw[q];exact((B.names.put (nx':=J+1) (by omega) (by omega) (Z _ (by omega))).put (nx':=b6+1) (by omega) (by omega) (Z _ (by omega))).put (by omega) (by omega) (Z _ (by omega))
  ·intro j D;by_cases L:j=4;·subst L;exact .inr ⟨.inl rfl,by omega⟩
   ·by_cases h8:j=8+k;·subst h8;exact .inr ⟨.inr (.inr (.inl rfl)),by omega⟩
    ·by_cases ck:j=15+st;·subst ck;exact .inr ⟨.inr (.inr (.inr (.inr rfl))),by omega⟩
     ·exact .inl (w j L h8 ck)
  ·intro id g h0 b;have g2:=b 2 (by omega) (by omega);have g3:=b 3 (by omega) (by omega);have g4:=b 4 (by omega) (by omega);have g8:=b (8+k) (by omega) (by omega);have ct:=b (15+st) (by omega) (by omega);rw[wf id (by omega) g2 g3 g4 g8 ct,C id (by omega)]
  ·refine⟨wc,hc,pc,vc,cap,?_,?_,?_,?_,g6,g7⟩;·rw[w0];simp only[I6,cf,w 0 (by omega) (by omega) (by omega),w 1 (by omega) (by omega) (by omega),w 2 (by omega) (by omega) (by omega),w 3 (by omega) (by omega) (by omega),p4,ac7,List.length_singleton];rw[l];rfl
   ·rw[w 0 (by omega) (by omega) (by omega),l];exact g3.frame (wf _ n0 (fun he=>by have:=inj 0 2 (by omega) (by omega) he;omega) (fun he=>by have:=inj 0 3 (by omega) (by omega) he;omega) (fun he=>by have:=inj 0 4 (by omega) (by omega) he;omega) (fun he=>by have:=inj 0 (8+k) (by omega) (by omega) he;omega) (fun he=>by have:=inj 0 (15+st) (by omega) (by omega) he;omega))
   ·rw[w 1 (by omega) (by omega) (by omega),l];exact g4.frame (wf _ n1 (fun he=>by have:=inj 1 2 (by omega) (by omega) he;omega) (fun he=>by have:=inj 1 3 (by omega) (by omega) he;omega) (fun he=>by have:=inj 1 4 (by omega) (by omega) he;omega) (fun he=>by have:=inj 1 (8+k) (by omega) (by omega) he;omega) (fun he=>by have:=inj 1 (15+st) (by omega) (by omega) he;omega))
   ·rw[p4,cf];exact⟨cap,(s.told++[d]).map aL,w4,rfl,by simp,by simp,by rw[ac7,List.length_singleton];omega,by simp⟩
  ·refine⟨mp,_,mp,rp,P,w2,by rw[adM,g8],fun j D b=>by rw[adX (Ne.symm b)],fun _=>⟨_,U _,⟨qo,qc,c6,?_,?_,?_⟩⟩⟩;·rw[y,w (5+k) (by omega) (by omega) (by omega),p8,cd];rfl
   ·rw[y,w (5+k) (by omega) (by omega) (by omega)];exact gq.frame (wf _ n5 (by simp[a]) (by simp[a]) (by simp[a]) (by simp[a]) (by simp[a]))
   ·obtain⟨m6,y1,y2,y3⟩:=w6;rw[cd] at y1 y2;rw[y,p8];exact⟨m6,(SF p.out d.n).map eCJ,y1,rfl,by simp,by simp,y2,by omega⟩
  ·refine⟨mv,_,mv,rv,R,w3,by rw[adM,g9],fun j D b=>by rw[adX (Ne.symm b)],fun _=>⟨_,adW (by omega),⟨po,ad,0,c5,?_,?_,?_⟩⟩⟩;·rw[A,w (11+st) (by omega) (by omega) (by omega),br];rfl
   ·rw[A,w (11+st) (by omega) (by omega) (by omega)];exact gp.frame (wf _ cr (by simp[a]) (by simp[a]) (by simp[a]) (by simp[a]) (by simp[a]))
   ·obtain⟨m5,y1,y2,y3⟩:=w5;rw[A,br];exact⟨m5,(v.done.drop 1).map aL,y1,rfl,by simp,by simp,y2,by omega⟩
theorem HR{X:Nat->Prop}{c:Cfg}{i:CIn}{s:CSt}{st:Nat}{nm:Nat->Nat}{cells:List D1}(hb:bG c)(hs:COk c s)(p:st<4)(hr:i.nO.getD st default=false)(F:kW X H nx nm s cells)
 (h: ∀H' nx' g B,nx<=nx'->kW X H' nx' g (TO c s (mQ i s st)) B->(∀id,X id->H' id=H id)->K (dA B) H' nx'):
 ag1 A8 [dA (bO c),dA cells,dI st] H nx K:=by
 refine bW.mk Tryz.func123 (by kernel_rfl) ic rfl fun Q hQ=> ?_
 unfold yN
 have hX:=F.x
 obtain⟨dx,fp⟩:=eM hb
 have dy: ∀{A:Prop},¬(i.nO.getD st default=true\/A)↔¬A:=fun {A}=>by rw[hr];simp
 obtain⟨wc,hc,pc,vc,tc,mp,rp,mv,rv,aa,g1,g2,g3,g4,g5,g6,g7,g8,g9,ga,gb⟩:=F.get
 obtain⟨v,C⟩: ∃v,aU s st=v:=⟨_,rfl⟩
 obtain⟨po,dz,do_,dc,gs,gp,gd⟩:=gb st p
 rw[C] at gs gp gd
 have ao:=F
 subst aa
 have lt:=F.names.lt
 have U:aT nx ([0,1,2,3,4,11+st,15+st].map nm):=AM.apart (F.names.list (by simp;omega) (by simp;omega)) (fun x hx=>by obtain⟨j,hj,rfl⟩:=ac9.1 hx;exact lt j (by simp at hj;omega))
 simp only[aT,bM,List.map] at U
 by_cases cp:v.pipe.length=0
 ·have hlen:((v.pipe.length:Int)=0)=True:=eq_true (by omega);repeat' first|apply vI<;>(simp only[go_sem,nL,g2,gs,hlen,U])|refine⟨by omega,?_⟩|fail
  refine hQ _ _ _ _ _ (.inr rfl) (jO rfl (by rw[aA.aB (by omega)];exact aA.aJ) rfl) ?_;rw[NW (.inr (by rw[C];exact cp))] at h;exact h _ _ nm _ (by omega) (F.frame (by omega) fun id b _=>by rw[aA.aB (by omega),aA.aB (by omega),aA.aB (by omega),aA.aB (by omega)]) fun id b=>by have:=hX id b;rw[aA.aB (by omega),aA.aB (by omega),aA.aB (by omega),aA.aB (by omega)]
 have bb: ¬(i.nO.getD st default=true\/(aU s st).pipe.length=0):=by rw[C];exact dy.2 cp
 have hlen:((v.pipe.length:Int)=0)=False:=eq_false (by omega)
 obtain⟨j,hj⟩: ∃j,v.pipe.getD 0 default=j:=⟨_,rfl⟩
 have t:eL s st=j:=by unfold eL;rw[C,hj]
 obtain⟨md,rd,d1,d2,d3,d4,d5,d6⟩:=gd.ex
 obtain⟨me,re,p1,p2,p3,p4,p5,p6⟩:=gp.ex
 rw[adE] at d4 p4
 have p7:re[po]?=some (eCJ j):=by
  have:(re.drop po)[0]?=some (eCJ j):=by rw[p2,adJ,<-hj];simp[List.getD,show 0<v.pipe.length by omega]
  rwa [adO,Nat.add_zero] at this
 have cq:=hs.slv st p
 have eb:=(cq.left 0 (by rw[C];omega)).1
 rw[C,hj] at eb
 have ed:=U7 hb p
 have fs:=lt (11+st) (by omega)
 have fx:=lt (15+st) (by omega)
 by_cases bk:0<j.left
 ·have M:decide (0<(aU s st).pipe.length/\(eL s st).left=0/\(aU s st).done.length<2)=false:=decide_eq_false (by rw[t];omega);repeat' first| (first|apply vI|refine pX hs p (ao.UD hs.pl hs.sl (fun id b=>by rw[aA.aB (by omega),aA.aB (by omega),aA.aB (by omega),aA.aB (by omega)])) ?_)<;>(simp only[go_sem,nL,g2,gs,hlen,M,p1,p7,U];try simp (disch:=omega) only[Iw])|apply vT (by omega)|refine⟨by omega,?_⟩|fail
  refine hQ _ _ _ _ _ (.inr rfl) (jO rfl (by rw[aA.aB (by omega),aA.aB (by omega)];exact aA.aJ) rfl) ?_;have hO:mQ i s st=some (.tick st):=aw bb (by rw[t];exact bk);rw[hO] at h;obtain⟨s',d⟩: ∃s',s'=bS c s (.tick st):=⟨_,rfl⟩
  rw[show TO c s (some (.tick st))=s' from d.symm] at h;have f:aU s' st= {v with pipe:=v.pipe.set 0 {j with left:=j.left-1}}:=by rw[d,dE rfl (by rw[hs.sl];omega),if_pos rfl,t,C]
  generalize J:aA.set _ (nm (11+st)) _=W;have w0:W (nx+1)=some ⟨5,1,[[.osl 1 (nm 0) 0 s.words.length wc,.osl 1 (nm 1) 0 s.holds.length hc,.osl 4 (nm 2) 0 3 pc,.osl 3 (nm 3) 0 4 vc,.osl 5 (nm 4) 0 s.told.length tc]]⟩:=by rw[<-J,aA.aB (by omega),aA.aB (by omega),aA.aB (by omega)];exact aA.aJ
  have ei:W (nm (11+st))=some ⟨3,me,re.set po [cI j.who,cI j.n,cI (j.left-1)]⟩:=by rw[<-J];exact aA.aJ
  have wf: ∀id,id<nx->id≠nm (11+st)->W id=H id:=fun id L V=>by rw[<-J,aA.aB V,aA.aB (by omega),aA.aB (by omega),aA.aB (by omega),aA.aB (by omega)]
  clear J;have inj:=F.names.inj;have u: ∀a,a<19->a≠11+st->W (nm a)=H (nm a):=fun a L V=>wf _ (lt a L) fun he=>V (inj a (11+st) L (by omega) he);refine h W _ nm _ (by omega) ⟨⟨⟨wc,hc,pc,vc,tc,?_,?_,?_,?_,g6,g7⟩,⟨mp,rp,(u 2 (by omega) (by omega)).trans g1,g8,fun k hk=> ?_⟩,⟨mv,rv,(u 3 (by omega) (by omega)).trans g2,g9,fun k hk=> ?_⟩⟩,F.names.mono (by omega),fun id b=>by have:=hX id b;omega⟩ fun id b=>wf id (hX id b) fun he=>F.names.av (11+st) (by omega) (he▸b);·rw[d];rfl
  ·rw[d];exact g3.frame (u 0 (by omega) (by omega))
  ·rw[d];exact g4.frame (u 1 (by omega) (by omega))
  ·rw[d];exact g5.frame (u 4 (by omega) (by omega))
  ·obtain⟨qo,qc,oc,x1,x2,x3⟩:=ga k hk;have e:aN s' k=aN s k:=(by rw[d];rfl);exact⟨_,x1,⟨qo,qc,oc,by rw[e];rfl,by rw[e];exact x2.frame (u (5+k) (by omega) (by omega)),by rw[e];exact x3.frame (u (8+k) (by omega) (by omega))⟩⟩
  ·by_cases I:k=st
   ·subst I;refine⟨_,gs,⟨po,dz,do_,dc,?_,?_,?_⟩⟩;·rw[f];simp only[lz,adM]
    ·rw[f];refine⟨me,_,ei,?_,by simpa using p3,by simp,by simpa using p5,p6⟩;rw[List.drop_set,if_neg (by omega),aeZ,p2,aeH];rfl
    ·rw[f];exact gd.frame (u (15+k) (by omega) (by omega))
   ·obtain⟨bp,br,ca,cc,x1,x2,x3⟩:=gb k hk;have e:aU s' k=aU s k:=(by rw[d,dE rfl (by rw[hs.sl];omega),if_neg I]);exact⟨_,x1,⟨bp,br,ca,cc,by rw[e];rfl,by rw[e];exact x2.frame (u (11+k) (by omega) (by omega)),by rw[e];exact x3.frame (u (15+k) (by omega) (by omega))⟩⟩
 by_cases cr:v.done.length<2
 ·have M:decide (0<(aU s st).pipe.length/\(eL s st).left=0/\(aU s st).done.length<2)=true:=decide_eq_true (by rw[t,C];omega);have ej:j∈(aU s st).pipe:=by rw[C,<-hj];exact cC (by omega)
  obtain⟨ct,Y,cd⟩:=hs.vIn p (VB ej);dsimp only at ct Y cd;have Z:kL c j.who j.n:=by have:=(hs.port j.who.toNat (by omega)).asks (n:=j.n) (by omega) Y (by omega);rwa [show ((j.who.toNat:Nat):Int)=j.who by omega] at this
  have cv:=FE hb Z;have gf:=hb.1.1;obtain⟨cw,cx,ab⟩:=Z;obtain⟨P,hP⟩: ∃P,c.cH.getD j.who.toNat default=P:=⟨_,rfl⟩
  rw[hP] at ab;obtain⟨q,hq⟩: ∃q,P.getD j.n.toNat default=q:=⟨_,rfl⟩
  have cy:bF c j.who j.n=q:=by unfold bF;rw[hP,hq]
  rw[cy] at cv;obtain⟨mw,gi,w1,w2,w3,w4,w5,w6⟩:=g3.ex;obtain⟨mh,gq,eo,da,gr,ha,hd,hf⟩:=g4.ex;rw[ad6] at w2 da;subst w2;subst da;have n0:=lt 0 (by omega);have n1:=lt 1 (by omega);have ep:=hs.atm;obtain⟨hg,R,hh,ho⟩:=hs.atm;have N:s.words.length=64:=by omega
  have O:s.holds.length=6:=by omega
  refine aK.DN fun et=> ?_;have cf: ∀k l,msk (nx+k) l H=H:=fun k l=>BH et (by omega);repeat' first| (first|apply vI|refine pX hs p (ao.UD hs.pl hs.sl (fun id b=>by rw[aA.aB (by omega),aA.aB (by omega),aA.aB (by omega),aA.aB (by omega)])) ?_)<;>(simp only[go_sem,nL,g2,gs,hlen,M,p1,p7,dx,hP,hq,cf,U])|refine⟨by omega,?_⟩|fail
  simp only[N,O];apply Ai (m:=c.map) (w:=s.words) (hs:=s.holds) (wc:=wc) (hc:=hc) (i:=nm 0) (j:=nm 1) (wm:=mw) (hm:=mh) (by omega) ep (by omega) (by omega) ct cv (by omega) (by omega) (by simp[U]);·rw[aA.aB (by omega),aA.aB (by omega),aA.aB (by omega),aA.aB (by omega),aA.aB (by omega)];exact w1
  ·rw[aA.aB (by omega),aA.aB (by omega),aA.aB (by omega),aA.aB (by omega),aA.aB (by omega)];exact eo
  obtain⟨D,hD⟩: ∃D,doM c.map s.words s.holds j.who q=D:=⟨_,rfl⟩
  rw[hD];have df: ∀r,(rv.set st r)[st]?=some r:=fun r=>by rw[adW (by omega)]
  have ck:=cq.pl;rw[C] at ck;have ad:List.take v.done.length (List.drop do_ rd)=v.done.map aL:=by rw[d2,ac6 (by simp)]
  have ai:(po+(1+(v.pipe.length-1))<=re.length)=True:=eq_true (by omega);have aj:List.take (v.pipe.length-1) (List.drop (po+1) re)=(v.pipe.drop 1).map eCJ:=by rw[<-aeP,p2,<-aeI,ac6 (by simp)]
  (try simp only[go_sem,nL,g2,gs,df,ai,aj,ad,List.nil_append,adE,adL,ad0,p1,p7,d1,umS (G:=H),umD (G:=H),umB,cf,N,O,U,nL]);repeat' first|apply vI<;>(simp only[go_sem,nL,g2,gs,df,ai,aj,ad,List.nil_append,adE,adL,ad0,p1,p7,d1,umS (G:=H),umD (G:=H),umB,cf,N,O,U,nL])| (with_reducible first|refine fun(cap:Nat) (eu:_<=cap)=> ?_|refine fun(ht:_<=cap)=> ?_)|refine⟨by omega,?_⟩|fail
  rename_i y dh ew;refine hQ _ _ _ _ _ (.inr rfl) (jO rfl aA.aJ rfl) ?_;have hO:mQ i s st=some (.work st):=jm bb (by rw[t];exact bk) (by rw[C];exact cr);have R:K6 c s st=D:=by unfold K6;rw[t,cy,hD]
  rw[hO] at h;obtain⟨s',d⟩: ∃s',s'=bS c s (.work st):=⟨_,rfl⟩
  rw[show TO c s (some (.work st))=s' from d.symm] at h;have f:aU s' st= {v with pipe:=v.pipe.drop 1,done:=v.done++[⟨j.who,j.n,D.2⟩]}:=by rw[d,dE rfl (by rw[hs.sl];omega),if_pos rfl,R,t,C]
  have S:s'.words=D.1.1:=by rw[d,<-R];rfl
  have T:s'.holds=D.1.2:=by rw[d,<-R];rfl
  have cl:COk c s':=by rw[d];exact CW hb hs (I9 hs p hO)
  obtain⟨ff,_,fh,_⟩:=cl.atm;generalize J:aA.set _ (nx+2) _=W;have n3:=lt 3 (by omega);have inj:=F.names.inj;have hy:nm 0≠nm 3:=fun he=>by have:=inj 0 3 (by omega) (by omega) he;omega
  have ia:nm 0≠nm 1:=fun he=>by have:=inj 0 1 (by omega) (by omega) he;omega
  have ih:nm 1≠nm 3:=fun he=>by have:=inj 1 3 (by omega) (by omega) he;omega
  have fi:W (nx+58)=some ⟨3,y,(v.pipe.drop 1).map eCJ⟩:=by rw[<-J,aA.aB (by omega),aA.aB (by omega),aA.aB (by omega),aA.aB (by omega)];exact aA.aJ
  have fl:W (nx+74)=some ⟨5,cap,v.done.map aL++[cI j.who::cI j.n::lP D.2]⟩:=by rw[<-J,aA.aB (by omega)];exact aA.aJ
  have w3:W (nm 3)=some ⟨3,mv,rv.set st [.osl 3 (nx+58) 0 (v.pipe.length-1) y,.osl 5 (nx+74) 0 (v.done.length+1) cap,cI v.last]⟩:=by rw[<-J,aA.aB (by omega),aA.aB (by omega),aA.aB (by omega)];exact aA.aJ
  have fm:W (nm 1)=some ⟨1,mh,D.1.2.map aF⟩:=by rw[<-J];simp (disch:=omega) only[aA.aB,aA.aJ]
  have fo:W (nm 0)=some ⟨1,mw,D.1.1.map aF⟩:=by rw[<-J];simp (disch:=omega) only[aA.aB,aA.aJ]
  have wf: ∀id,id<nx->id≠nm 0->id≠nm 1->id≠nm 3->id≠nm (15+st)->W id=H id:=fun id L V h3 h4 h5=>by rw[<-J];simp (disch:=omega) only[aA.aB,aA.cL]
  clear J;have u: ∀a,a<19->a≠0->a≠1->a≠3->a≠15+st->W (nm a)=H (nm a):=fun a L V h3 h4 h5=>wf _ (lt a L) (fun he=>V (inj a 0 L (by omega) he)) (fun he=>h3 (inj a 1 L (by omega) he)) (fun he=>h4 (inj a 3 L (by omega) he)) (fun he=>h5 (inj a (15+st) L (by omega) he));obtain⟨g,E⟩: ∃g,g=put (put nm (11+st) (nx+58)) (15+st) (nx+74):=⟨_,rfl⟩
  have o: ∀a,a≠11+st->a≠15+st->g a=nm a:=fun a L V=>by rw[E,bV V,bV L]
  have dm:g (11+st)=nx+58:=by rw[E,bV (by omega),fS]
  have ds:g (15+st)=nx+74:=by rw[E,fS]
  have dv: ∀z,nx<=z->¬X z:=fun z hz hn=>by have:=hX z hn;omega
  have hN:Names X (nx+80) g:=by rw[E];exact(F.names.put (nx':=nx+59) (by omega) (by omega) (dv _ (by omega))).put (by omega) (by omega) (dv _ (by omega))
  refine h W _ g _ (by omega) ⟨⟨⟨wc,hc,pc,vc,tc,?_,?_,?_,?_,g6,g7⟩,⟨mp,rp,?_,g8,fun k hk=> ?_⟩,⟨mv,rv.set st [.osl 3 (nx+58) 0 (v.pipe.length-1) y,.osl 5 (nx+74) 0 (v.done.length+1) cap,cI v.last],?_,by rw[adM,g9],fun k hk=> ?_⟩⟩,hN,fun id b=>by have:=hX id b;omega⟩ fun id b=> ?_;·have e:s'.told=s.told:=(by rw[d];rfl);rw[I6,S,T,e,o 0 (by omega) (by omega),o 1 (by omega) (by omega),o 2 (by omega) (by omega),o 3 (by omega) (by omega),o 4 (by omega) (by omega),show D.1.1.length=64 by rw[<-S];omega,show D.1.2.length=6 by rw[<-T];omega]
  ·rw[o 0 (by omega) (by omega),S];exact⟨mw,_,fo,rfl,by simp,by simp,by rw[<-S];omega,by omega⟩
  ·rw[o 1 (by omega) (by omega),T];exact⟨mh,_,fm,rfl,by simp,by simp,by rw[<-T];omega,by omega⟩
  ·rw[o 4 (by omega) (by omega),d];exact g5.frame (u 4 (by omega) (by omega) (by omega) (by omega) (by omega))
  ·rw[o 2 (by omega) (by omega)];exact(u 2 (by omega) (by omega) (by omega) (by omega) (by omega)).trans g1
  ·obtain⟨qo,qc,oc,x1,x2,x3⟩:=ga k hk;have e:aN s' k=aN s k:=(by rw[d];rfl);exact⟨_,x1,⟨qo,qc,oc,by rw[e,o (5+k) (by omega) (by omega),o (8+k) (by omega) (by omega)];rfl,by rw[e,o (5+k) (by omega) (by omega)];exact x2.frame (u (5+k) (by omega) (by omega) (by omega) (by omega) (by omega)),by rw[e,o (8+k) (by omega) (by omega)];exact x3.frame (u (8+k) (by omega) (by omega) (by omega) (by omega) (by omega))⟩⟩
  ·rw[o 3 (by omega) (by omega)];exact w3
  ·by_cases I:k=st
   ·subst I;refine⟨_,adW (by omega),⟨0,y,0,cap,?_,?_,?_⟩⟩;·rw[f,dm,ds];simp only[lz,adL,ac7,List.length_singleton]
    ·rw[f,dm];exact⟨y,_,fi,rfl,by simp,by simp,by rw[adL];omega,by omega⟩
    ·rw[f,ds];exact⟨cap,_,fl,by first| (rw[adF];done)| (rw[adF];rfl),by simp,by simp,by rw[ac7,List.length_singleton];omega,by omega⟩
   ·obtain⟨bp,br,ca,cc,x1,x2,x3⟩:=gb k hk;have e:aU s' k=aU s k:=(by rw[d,dE rfl (by rw[hs.sl];omega),if_neg I]);exact⟨_,by rw[adX (Ne.symm I)];exact x1,⟨bp,br,ca,cc,by rw[e,o (11+k) (by omega) (by omega),o (15+k) (by omega) (by omega)];rfl,by rw[e,o (11+k) (by omega) (by omega)];exact x2.frame (u (11+k) (by omega) (by omega) (by omega) (by omega) (by omega)),by rw[e,o (15+k) (by omega) (by omega)];exact x3.frame (u (15+k) (by omega) (by omega) (by omega) (by omega) (by omega))⟩⟩
  ·have av:=F.names.av;exact wf id (hX id b) (fun he=>av 0 (by omega) (he▸b)) (fun he=>av 1 (by omega) (he▸b)) (fun he=>av 3 (by omega) (he▸b)) (fun he=>av (15+st) (by omega) (he▸b))
 ·have M:decide (0<(aU s st).pipe.length/\(eL s st).left=0/\(aU s st).done.length<2)=false:=decide_eq_false (by rw[C];omega);repeat' first| (first|apply vI|refine pX hs p (ao.UD hs.pl hs.sl (fun id b=>by rw[aA.aB (by omega),aA.aB (by omega),aA.aB (by omega),aA.aB (by omega)])) ?_)<;>(simp only[go_sem,nL,g2,gs,hlen,M,p1,p7,U])|apply vF (by omega)|refine⟨by omega,?_⟩|fail
  refine hQ _ _ _ _ _ (.inr rfl) (jO rfl (by rw[aA.aB (by omega)];exact aA.aJ) rfl) ?_;rw[ZE bb (by rw[t];exact bk) (by rw[C];exact cr)] at h;exact h _ _ nm _ (by omega) (F.frame (by omega) fun id b _=>by rw[aA.aB (by omega),aA.aB (by omega),aA.aB (by omega),aA.aB (by omega)]) fun id b=>by have:=hX id b;rw[aA.aB (by omega),aA.aB (by omega),aA.aB (by omega),aA.aB (by omega)]
end
theorem umM{b:Nat}{l:List Nat}{H:aA}:c8 b l H (msk b l H)=H:=by funext j;simp only[c8,msk];split<;>rfl
theorem muM{b:Nat}{l:List Nat}{H G:aA}:msk b l (c8 b l H G)=msk b l G:=by funext j;simp only[c8,msk];split<;>rfl
section
variable{H:aA}{nx:Nat}{K:ag2}
theorem Ah(h:K (dB true) H nx):ag1 G8 [] H nx K:=by
 refine aC.pure (args0:=[]) (R:=fun a=>a=dB true) ?_ rfl (aM trivial) (fun r hr=>hr▸h);clear h;refine aR.mk Tryz.func33 (by kernel_rfl) yp rfl fun Q b=> ?_;unfold EV;repeat' first| (first|apply vI|apply EM)<;>(simp only[go_sem])|fail
 all_goals first|with_reducible refine aQ b _ rfl rfl ?_|skip
 all_goals exact(nB (by decide)).symm
end
theorem LS:bW ag0 GG Tryz.f35 oP K5:=bW.mk Tryz.func35 (by kernel_rfl) X4
section
variable{H:aA}{nx:Nat}{K:ag2}
end
end Go.Proofs.YtlncecohbakleaaGreat
