/- Texts laid together by a program: rules, contracts and the walk that leads to the law. -/
import Derived.Test.YtlncecohbakleaaGreatPS18
import Derived.Test.YtlncecohbakleaaGreatPS17
import Derived.Test.YtlncecohbakleaaGreatPS16
set_option linter.unusedVariables false
set_option linter.unusedSimpArgs false
set_option linter.unusedSectionVars false
set_option maxRecDepth 100000
set_option maxHeartbeats 8000000
namespace Go.AM
theorem a7H{l:List Job}{x:Job}:jX (l++[x])=BM (jX l) x:=by unfold jX;rw[List.foldl_append];rfl
theorem bbP{l:List Job}:(jX l).length=l.length:=(fH l).length_eq
theorem bE5{f:Nat->List D1}{u:Nat}{r:List D1}(i:Nat)(h:f u=r):bB4 f u r i=f i:=by
 unfold bB4;split;·rename_i e;rw[e,h]
 ·rfl
def Ren{α:Type}(RowP:bAT α):Prop:=∀(H H2:aA) (t:Nat->Nat) (r:List D1) (x:α) (F:Nat->Prop),(∀a b,t a=t b->a=b)->RowP H r x F->(∀j o,F j->H j=some o->H2 (t j)=some (o.rn t))->RowP H2 (r.map (rn1 t)) x fun k=>∃j,F j/\k=t j
theorem bFS{n:Nat}{f:Nat->List D1}{t:Nat->Nat}:(rng n f).map (·.map (rn1 t))=rng n fun i=>(f i).map (rn1 t):=by unfold rng;rw[bGT];rfl
theorem bFA{α:Type}{e:α->List D1}(h: ∀t x,(e x).map (rn1 t)=e x):Ren (byQ e):=fun H H2 t r x F _ hr _=>by unfold byQ at hr ⊢;subst hr;exact h t x
theorem SlS.ren{α:Type}{RowP:bAT α}{H H2:aA}{t:Nat->Nat}{n:Nat}{d:D1}{l:List α}{F:Nat->Prop}(s:Ren RowP)(e: ∀a b,t a=t b->a=b)(h:SlS n RowP H d l F)(q: ∀j o,F j->H j=some o->H2 (t j)=some (o.rn t)):SlS n RowP H2 (rn1 t d) l fun k=>∃j,F j/\k=t j:=by
 rcases h with⟨rfl,u,id,off,rfl⟩|⟨id,m,cap,rfl,v,w,y,f,G,boT⟩
 ·exact .inl ⟨rfl,u,t id,off,rfl⟩
 ·refine .inr ⟨t id,m,cap,rfl,v,w,y,fun i=>(f i).map (rn1 t),fun i k=>∃j,G i j/\k=t j,?_,⟨id,boT.self,rfl⟩,fun i x r=> ?_,?_,?_⟩;·rw[q id _ boT.self boT.blk];simp only[bA.rn,bFS]
  ·have hi:=(m3.1 r).1;exact s H H2 t _ x _ e (boT.row i x r) fun j o c z=>q j o (boT.sub i j hi c).1 z
  ·rintro i k hi ⟨j,c,rfl⟩;exact⟨⟨j,(boT.sub i j hi c).1,rfl⟩,fun he=>(boT.sub i j hi c).2 (e _ _ he)⟩
  ·rintro i A k hi hi' g ⟨j,c,rfl⟩ ⟨B,p,he⟩;have:=e _ _ he;subst this;exact boT.sep i A j hi hi' g c p
theorem bEN:Ren (byQ aJ):=bFA fun _ _=>rfl
theorem bFH{H0 H:aA}{nx c j:Nat}(h:j<nx):back (fun i=>nx+i) H0 c H j=H j:=by
 rcases WM (fun i=>nx+i) H0 H c j (fun a b _ _ h=>by omega) with⟨i,_,d,_⟩|⟨_,d⟩
 ·omega
 ·exact d
theorem bFI{H0 H:aA}{nx c i:Nat}{o:bA}(h:i<c)(d:H0 i=some o):back (fun i=>nx+i) H0 c H (nx+i)=some (o.rn fun i=>nx+i):=by
 rcases WM (fun i=>nx+i) H0 H c (nx+i) (fun a b _ _ h=>by omega) with⟨e,_,j,f⟩|⟨g,_⟩
 ·have:e=i:=by omega
  subst this;rw[f,d];rfl
 ·exact absurd rfl (g i h)
theorem bFG{α:Type}{RowP:bAT α}(f:Ren RowP){H0 H:aA}{nx c:Nat}{r:List D1}{x:α}{F:Nat->Prop}(h:RowP H0 r x F)(e: ∀j,F j->j<c): ∃F':Nat->Prop,RowP (back (fun i=>nx+i) H0 c H) (r.map (rn1 fun i=>nx+i)) x F'/\ ∀j,F' j->nx<=j/\j<nx+c:=⟨_,f H0 _ _ r x F (fun a b h=>by omega) h fun j o d g=>bFI (e j d) g,by rintro k ⟨j,d,rfl⟩;have:=e j d;omega⟩
theorem bMR:Ren (byQ eCJ):=bFA fun _ _=>rfl
theorem bD1:Ren bzL:=fun H H2 t r x F a ⟨d,b,c⟩ e=>⟨rn1 t d,by subst b;rfl,c.ren bEN a e⟩
theorem bM6:Ren bJA:=fun H H2 t r x F b ⟨d1,d2,bF4,bF5,g,h⟩ f=>⟨rn1 t d1,rn1 t d2,fun k=>∃j,bF4 j/\k=t j,fun k=>∃j,bF5 j/\k=t j,by subst g;rfl,⟨h.s1.ren bEN b fun j o a c=>f j o (h.aUV j a) c,h.s2.ren bMR b fun j o a c=>f j o (h.aUW j a) c,fun k ⟨j,a,e⟩=>⟨j,h.aUV j a,e⟩,fun k ⟨j,a,e⟩=>⟨j,h.aUW j a,e⟩,fun k ⟨j,a,e⟩ ⟨i,d,e'⟩=>h.x12 j a (by rw[b _ _ (e.symm.trans e')];exact d)⟩⟩
theorem bM4:Ren bIV:=fun H H2 t r x F b ⟨d1,d2,bF4,bF5,g,h⟩ f=>⟨rn1 t d1,rn1 t d2,fun k=>∃j,bF4 j/\k=t j,fun k=>∃j,bF5 j/\k=t j,by subst g;rfl,⟨h.s1.ren bMR b fun j o a c=>f j o (h.aUV j a) c,h.s2.ren bD1 b fun j o a c=>f j o (h.aUW j a) c,fun k ⟨j,a,e⟩=>⟨j,h.aUV j a,e⟩,fun k ⟨j,a,e⟩=>⟨j,h.aUW j a,e⟩,fun k ⟨j,a,e⟩ ⟨i,d,e'⟩=>h.x12 j a (by rw[b _ _ (e.symm.trans e')];exact d)⟩⟩
theorem bM2:Ren bIO:=fun H H2 t r x F c ⟨d1,d2,d3,bkS,bk2,bF4,bF5,bF6,bF7,bF8,i,h⟩ g=>⟨rn1 t d1,rn1 t d2,rn1 t d3,rn1 t bkS,rn1 t bk2,fun k=>∃j,bF4 j/\k=t j,fun k=>∃j,bF5 j/\k=t j,fun k=>∃j,bF6 j/\k=t j,fun k=>∃j,bF7 j/\k=t j,fun k=>∃j,bF8 j/\k=t j,by subst i;rfl,⟨h.s1.ren bEN c fun j o a d=>g j o (h.aUV j a) d,h.s2.ren bEN c fun j o a d=>g j o (h.aUW j a) d,h.bp7.ren bM6 c fun j o a d=>g j o (h.aIG j a) d,h.bp8.ren bM4 c fun j o a d=>g j o (h.aII j a) d,h.bp9.ren bD1 c fun j o a d=>g j o (h.aUX j a) d,fun k ⟨j,a,e⟩=>⟨j,h.aUV j a,e⟩,fun k ⟨j,a,e⟩=>⟨j,h.aUW j a,e⟩,fun k ⟨j,a,e⟩=>⟨j,h.aIG j a,e⟩,fun k ⟨j,a,e⟩=>⟨j,h.aII j a,e⟩,fun k ⟨j,a,e⟩=>⟨j,h.aUX j a,e⟩,fun k ⟨j,a,e⟩ ⟨f,b,e'⟩=>h.x12 j a (by rw[c _ _ (e.symm.trans e')];exact b),fun k ⟨j,a,e⟩ ⟨f,b,e'⟩=>h.x13 j a (by rw[c _ _ (e.symm.trans e')];exact b),fun k ⟨j,a,e⟩ ⟨f,b,e'⟩=>h.x14 j a (by rw[c _ _ (e.symm.trans e')];exact b),fun k ⟨j,a,e⟩ ⟨f,b,e'⟩=>h.x15 j a (by rw[c _ _ (e.symm.trans e')];exact b),fun k ⟨j,a,e⟩ ⟨f,b,e'⟩=>h.x23 j a (by rw[c _ _ (e.symm.trans e')];exact b),fun k ⟨j,a,e⟩ ⟨f,b,e'⟩=>h.x24 j a (by rw[c _ _ (e.symm.trans e')];exact b),fun k ⟨j,a,e⟩ ⟨f,b,e'⟩=>h.x25 j a (by rw[c _ _ (e.symm.trans e')];exact b),fun k ⟨j,a,e⟩ ⟨f,b,e'⟩=>h.x34 j a (by rw[c _ _ (e.symm.trans e')];exact b),fun k ⟨j,a,e⟩ ⟨f,b,e'⟩=>h.x35 j a (by rw[c _ _ (e.symm.trans e')];exact b),fun k ⟨j,a,e⟩ ⟨f,b,e'⟩=>h.x45 j a (by rw[c _ _ (e.symm.trans e')];exact b)⟩⟩
theorem w5.fit{s:CSt}(h:w5 (2^21) s):beL s:=by
 obtain⟨⟨c,d⟩,⟨e,k9⟩,⟨l1,bOW⟩,bO2,bPH⟩:=h
 have hp: ∀k,f9 (2^21) (aF s k):=fun k=>by
  by_cases a:k<s.bM.length;·exact k9 _ (cC a)
  ·have:aF s k=default:=(by unfold aF;simp[List.getD,a]);rw[this];exact⟨by decide,by decide⟩
 have b: ∀k,dP (2^21) (aL s k):=fun k=>by
  by_cases a:k<s.dD.length;·exact bOW _ (cC a)
  ·have:aL s k=default:=(by unfold aL;simp[List.getD,a]);rw[this];exact⟨by decide,by decide,fun x f=>absurd f (bq7)⟩
 exact⟨c,d,bO2,bPH,e,l1,hp,fun k=>⟨(b k).1,(b k).2.1,(b k).2.2⟩⟩
theorem bcA.fit{s:TSt}(h:bcA (2^21) s):aTQ s:=by
 obtain⟨⟨b,c⟩,d,⟨k9,l1⟩,⟨bOW,bO2⟩,bPH,bO3⟩:=h;refine⟨b,c,d,k9,bOW,bPH,fun j a=> ?_⟩;simp only[o3] at a;rcases a with(a|a)|a;·exact l1 j a
 ·exact bO2 j a
 ·exact bO3 j a
end Go.AM
namespace Go.Proofs.YtlncecohbakleaaGreat
open Go Go.AM
attribute [local irreducible] aM wv aB vd wvH
section
variable{H:aA}{nx:Nat}{K:bNX}
theorem bdR{s:CSt}(hf:bdV s)(h:K (boR (eSt (cX s))) H nx):bNW aIZ [boR (eI s)] H nx K:=by
 refine aB.fresh (R:=fun rr=>rr=boR (eSt (cX s))) ?_ rfl (fun r hr=>hr▸h);clear h;refine aN.mk Tryz.func130 (by kernel_rfl) aK2 rfl fun Q hQ=> ?_;unfold aJA;have M:=hf.pl;have bg:=hf.sl;obtain⟨N,l2⟩: ∃N,N=s.dD.length:=⟨_,rfl⟩
 rw[<-l2] at bg;have z:=l2.symm;have D:=hf.st;have cg:s.words.length<2^21:=D.words;have ch:s.holds.length<2^21:=D.holds;have cj:s.told.length<2^21:=D.told;have bh: ∀j∈s.told,j.rsp.data.length<2^21:=fun j Z=>D.data j (brH _ Z);repeat' first| (first|apply bn1|apply aKA (w:=s.words) (u:=s.holds) (by omega) (by omega)|apply aI1 (l:=s.told) (by omega) bh)<;>(simp only[go_sem,umB,umS,umM,muM])|fail
 apply aM.EJ 1;refine aM.tW _ _ noF (fun t=>.inl rfl) (KO (i:=9) (o':=⟨6,1,[[.isl (s.words.map aJ),.isl (s.holds.map aJ),.osl 1 12 0 0 0,.isl ((jX []).map aS),.isl ((jX []).map aS),.isl (s.told.map aS)]]⟩) (by rw[aA.aC (by omega)];exact aA.bH) (aP (aH (bB rfl) (aH (bB rfl) (aH (.VS ..) (aH xG (aH xG (aH (bB rfl) eP)))))))) ?_;refine aM.TF fun bqO E=> ?_;have c0:bqO 0=some ⟨5,1,[eI s]⟩:=by rw[E];rfl
 have bPB:bqO 1=some ⟨6,1,[[.osl 0 0 0 0 0,.osl 0 0 0 0 0,.osl 0 0 0 0 0,.osl 0 0 0 0 0,.osl 0 0 0 0 0,.osl 0 0 0 0 0]]⟩:=by rw[E];rfl
 have bf1:bqO 9=some ⟨6,1,[[.isl (s.words.map aJ),.isl (s.holds.map aJ),.osl 1 12 0 0 0,.isl ((jX []).map aS),.isl ((jX []).map aS),.isl (s.told.map aS)]]⟩:=by rw[E];exact aA.bH
 have ba:bqO 12=some ⟨1,0,[]⟩:=by rw[E];rfl
 clear E;obtain⟨A,O⟩: ∃A:Nat->List Int,A=fun k=>(s.bM.take k).map (·.next):=⟨_,rfl⟩
 have ab: ∀k,k<=3->(A k).length=k:=fun k I=>by rw[O];simp;omega
 have bj: ∀k,k<3->A (k+1)=A k++[(s.bM.getD k default).next]:=fun k I=>by rw[O];dsimp only;rw[brQ (by omega),bqX];simp[List.getD,show k<s.bM.length by omega]
 have o:A 3=(cX s).asked:=by rw[O];dsimp only;rw[boL (by omega)];rfl
 have bb: ∀k,k<3->(jJ s k).length<=3:=fun k I=>by have:=hf.q k I;simpa [jJ] using this
 have ad: ∀k,k<N->(hJ s k).length<=3/\(aL s k).done.length<=3:=fun k I=>⟨by have:=(hf.v k (by omega)).1;simpa [hJ] using this,(hf.v k (by omega)).2⟩
 obtain⟨bf5,S⟩: ∃bf5:Nat->List Job,bf5=fun k=>(List.range k).flatMap (jJ s):=⟨_,rfl⟩
 have ae: ∀k,bf5 (k+1)=bf5 k++jJ s k:=fun k=>by rw[S];exact CL
 have aa: ∀k,k<=3->(bf5 k).length<=3*k:=fun k I=>by rw[S];exact QU k fun j Z=>bb j (by omega)
 have af:bf5 0=[]:=by rw[S];rfl
 refine aM.gP (β:=Nat×Nat×Nat) (fun u=>en [(4,boP u.1),(3,.one (.c (.ptr 6 9 0 0))),(2,.one (.c (.ptr 6 1 0 0))),(1,.one (.c (.ptr 5 0 0 0)))])
  (fun u H1 bp0=>u.1<=3/\H1 0=some ⟨5,1,[eI s]⟩/\H1 1=some ⟨6,1,[[.osl 0 0 0 0 0,.osl 0 0 0 0 0,.osl 0 0 0 0 0,.osl 0 0 0 0 0,.osl 0 0 0 0 0,.osl 0 0 0 0 0]]⟩/\H1 9=some ⟨6,1,[[.isl (s.words.map aJ),.isl (s.holds.map aJ),.osl 1 u.2.1 0 u.1 u.2.2,.isl ((jX (bf5 u.1)).map aS),.isl ((jX []).map aS),.isl (s.told.map aS)]]⟩/\(∃m,H1 u.2.1=some ⟨1,m,(A u.1).map aJ⟩/\u.1<=u.2.2/\u.2.2<=m)/\12<=u.2.1/\u.2.1<bp0) (fun u=>3-u.1) (0,12,0)
  ⟨noF,_,by repeat' first|exact bo2|refine xqI rfl rfl ?_|refine xqP (by omega) rfl rfl ?_|fail,aK,by dsimp only;omega,c0,bPB,by dsimp only;rw[af];exact bf1,⟨0,by rw[ba,O];rfl,m5 _,m5 _⟩,by dsimp only;omega,by dsimp only;omega⟩ ?_
 clear c0 bPB bf1 ba;rintro⟨k,y,ca⟩ H1 p bk ⟨I,bqC,b,bp5,⟨m,g,ag,bm⟩,ah,ai⟩ bpQ bn;dsimp only at I bp5 g ag bm ah ai;have C:bQ p [0,1,9,y]:=AM.apart (by simp;omega) (by simp;omega);simp only[bQ,eZ] at C;have bc:=ab k I;by_cases aj:k<3
 ·obtain⟨P,boS⟩: ∃P,P=aF s k:=⟨_,rfl⟩
  have T:s.bM.getD k default=P:=boS.symm;have bo:=hf.q k aj;rw[<-boS] at bo;have a6: ∀G:aA,msk (p+5) [8] G 9=G 9:=fun G=>by unfold msk;rw[if_neg (by simp)]
  rw[<-bc] at bp5 ag;repeat' first|apply bn1<;>(simp only[go_sem,boC,bqC,b,bp5,a6,g,M,T,C])|apply bn2 (by omega)| (with_reducible first|refine fun(cap:Nat) (bp:_<=cap)=> ?_|refine fun(ck:_<=cap)=> ?_)|refine⟨by omega,?_⟩|fail
  refine aM.TF fun aHF J=> ?_;have hc:A k++[P.next]=A (k+1):=by rw[bj k aj,T]
  have d0:aHF 0=some ⟨5,1,[eI s]⟩:=by rw[J];simp[aA.set,aA.del,C,bqC]
  have d1:aHF 1=some ⟨6,1,[[.osl 0 0 0 0 0,.osl 0 0 0 0 0,.osl 0 0 0 0 0,.osl 0 0 0 0 0,.osl 0 0 0 0 0,.osl 0 0 0 0 0]]⟩:=by rw[J];simp[aA.set,aA.del,C,b]
  have aHG:aHF 9=some ⟨6,1,[[.isl (s.words.map aJ),.isl (s.holds.map aJ),.osl 1 (p+14) 0 (k+1) cap,.isl ((jX (bf5 k)).map aS),.isl ((jX []).map aS),.isl (s.told.map aS)]]⟩:=by rw[J,bc];exact aA.bH
  have boR:aHF (p+14)=some ⟨1,cap,(A (k+1)).map aJ⟩:=by rw[J,aA.aC (by omega),<-hc];exact aA.bH
  clear J bqC b bp5 g C
  refine aM.gP (β:=Nat) (fun j=>en [(5,boP j),(4,boP k),(3,.one (.c (.ptr 6 9 0 0))),(2,.one (.c (.ptr 6 1 0 0))),(1,.one (.c (.ptr 5 0 0 0)))])
   (fun j H2 _=>j<=P.queue.length/\H2 0=some ⟨5,1,[eI s]⟩/\H2 1=some ⟨6,1,[[.osl 0 0 0 0 0,.osl 0 0 0 0 0,.osl 0 0 0 0 0,.osl 0 0 0 0 0,.osl 0 0 0 0 0,.osl 0 0 0 0 0]]⟩/\H2 9=some ⟨6,1,[[.isl (s.words.map aJ),.isl (s.holds.map aJ),.osl 1 (p+14) 0 (k+1) cap,.isl ((jX (bf5 k++(jJ s k).take j)).map aS),.isl ((jX []).map aS),.isl (s.told.map aS)]]⟩/\H2 (p+14)=some ⟨1,cap,(A (k+1)).map aJ⟩) (fun j=>P.queue.length-j) 0
   ⟨noF,_,by repeat' first|exact bo2|refine xqI rfl rfl ?_|refine xqP (by omega) rfl rfl ?_|fail,aK,by omega,d0,d1,by rw[List.take_zero,bq6];exact aHG,boR⟩ ?_
  clear d0 d1 aHG boR;rintro j H2 ak al ⟨Z,bqC,b,bp5,g⟩ bqG an;obtain⟨W,aYL⟩: ∃W,W=bf5 k++(jJ s k).take j:=⟨_,rfl⟩
  rw[<-aYL] at bp5;have B:(jX W).length<2^21:=by have h1:=aa k I;have h2:=bb k aj;rw[bbP,aYL,t2,CG];omega
  have C:bQ ak [0,1,9,p+14]:=AM.apart (by simp) (by simp;omega);simp only[bQ,eZ] at C;by_cases a:j<P.queue.length
  ·obtain⟨n,hn⟩: ∃n,P.queue.getD j default=n:=⟨_,rfl⟩
   repeat' first| (first|apply bn1|apply aR1 B)<;>(simp only[go_sem,boC,bqC,b,bp5,M,T,hn,C];try simp (disch:=omega) only[Iw])|apply bn2 (by omega)|refine⟨by omega,?_⟩|fail
   have e:bf5 k++(jJ s k).take (j+1)=W++[(⟨k,n,oW⟩:Job)]:=(by rw[nK (by simpa [jJ,<-boS] using a),<-C0,<-aYL];congr 2;rw[<-hn];simp[jJ,<-boS,List.getD,a]);exact an _ _ _ (j+1) noF _ (by omega) (by omega) (by repeat' first|exact bo2|refine xqI rfl rfl ?_|refine xqP (by omega) rfl rfl ?_|fail) aK ⟨by omega,by rw[aA.aC (by omega)];exact bqC,by rw[aA.aC (by omega)];exact b,by rw[e,a7H];exact aA.bH,by rw[aA.aC (by omega)];exact g⟩
  ·have ao:j=P.queue.length:=(by omega);have e:W=bf5 (k+1):=(by rw[aYL,ae,boL (by simp[jJ,<-boS];omega)]);repeat' first|apply bn1<;>(simp only[go_sem,bqC,M,T];try simp (disch:=omega) only[Iw])|apply bn3 (by omega)|refine⟨by omega,?_⟩|fail
   exact bn _ _ _ (k+1,p+14,cap) noF _ (by omega) (by dsimp only;omega) (by repeat' first|exact bo2|refine xqI rfl rfl ?_|refine xqP (by omega) rfl rfl ?_|fail) aK ⟨by dsimp only;omega,bqC,b,by dsimp only;rw[<-e];exact bp5,⟨cap,g,by dsimp only;omega,m5 _⟩,by dsimp only;omega,by dsimp only;omega⟩
 ·have bq:k=3:=by omega
  subst bq;repeat' first|apply bn1<;>(simp only[go_sem,bqC,b,bp5])|apply bn3 (by omega)|fail
  obtain⟨bf6,U⟩: ∃bf6:Nat->List Job,bf6=fun k=>bf5 3++(List.range k).flatMap (hJ s):=⟨_,rfl⟩
  have aq: ∀k,bf6 (k+1)=bf6 k++hJ s k:=fun k=>by rw[U];dsimp only;rw[CL,C0]
  have ar: ∀k,k<=N->(bf6 k).length<=9+3*k:=fun k I=>by have h1:=aa 3 (by omega);have h2:=QU (f:=hJ s) (m:=3) k fun j Z=>(ad j (by omega)).1;rw[U];dsimp only;rw[t2];omega
  have au:bf6 0=bf5 3:=by rw[U];simp
  obtain⟨bf7,X⟩: ∃bf7:Nat->List Job,bf7=fun k=>(List.range k).flatMap fun k=>(aL s k).done:=⟨_,rfl⟩
  have aw: ∀k,bf7 (k+1)=bf7 k++(aL s k).done:=fun k=>by rw[X];exact CL
  have ax: ∀k,k<=N->(bf7 k).length<=3*k:=fun k I=>by rw[X];exact QU k fun j Z=>(ad j (by omega)).2
  have ay:bf7 0=[]:=by rw[X];rfl
  refine aM.gP (β:=Nat) (fun k=>en [(6,boP k),(3,.one (.c (.ptr 6 9 0 0))),(2,.one (.c (.ptr 6 1 0 0))),(1,.one (.c (.ptr 5 0 0 0)))])
   (fun k H2 _=>k<=N/\H2 0=some ⟨5,1,[eI s]⟩/\H2 1=some ⟨6,1,[[.osl 0 0 0 0 0,.osl 0 0 0 0 0,.osl 0 0 0 0 0,.osl 0 0 0 0 0,.osl 0 0 0 0 0,.osl 0 0 0 0 0]]⟩/\H2 9=some ⟨6,1,[[.isl (s.words.map aJ),.isl (s.holds.map aJ),.osl 1 y 0 3 ca,.isl ((jX (bf6 k)).map aS),.isl ((jX (bf7 k)).map aS),.isl (s.told.map aS)]]⟩/\H2 y=some ⟨1,m,(A 3).map aJ⟩) (fun k=>N-k) 0
   ⟨noF,_,by repeat' first|exact bo2|refine xqI rfl rfl ?_|refine xqP (by omega) rfl rfl ?_|fail,aK,by omega,bqC,b,by rw[au,ay];exact bp5,g⟩ ?_
  clear bqC b bp5 g C;rintro k H2 ak al ⟨bd,bqC,b,bp5,g⟩ bqG an;have C:bQ ak [0,1,9,y]:=AM.apart (by simp;omega) (by simp;omega);simp only[bQ,eZ] at C;by_cases az:k<N
  ·obtain⟨V,bPP⟩: ∃V,V=aL s k:=⟨_,rfl⟩
   have Y:s.dD.getD k default=V:=bPP.symm;obtain⟨br,bs⟩:=ad k az;have bt:V.pipe.length<=3:=(by simpa [hJ,<-bPP] using br);rw[<-bPP] at bs;repeat' first|apply bn1<;>(simp only[go_sem,bqC,b,bp5,z])|apply bn2 (by omega)|fail
   refine aM.gP (β:=Nat) (fun j=>en [(7,boP j),(6,boP k),(3,.one (.c (.ptr 6 9 0 0))),(2,.one (.c (.ptr 6 1 0 0))),(1,.one (.c (.ptr 5 0 0 0)))])
    (fun j L _=>j<=V.pipe.length/\L 0=some ⟨5,1,[eI s]⟩/\L 1=some ⟨6,1,[[.osl 0 0 0 0 0,.osl 0 0 0 0 0,.osl 0 0 0 0 0,.osl 0 0 0 0 0,.osl 0 0 0 0 0,.osl 0 0 0 0 0]]⟩/\L 9=some ⟨6,1,[[.isl (s.words.map aJ),.isl (s.holds.map aJ),.osl 1 y 0 3 ca,.isl ((jX (bf6 k++(hJ s k).take j)).map aS),.isl ((jX (bf7 k)).map aS),.isl (s.told.map aS)]]⟩/\L y=some ⟨1,m,(A 3).map aJ⟩) (fun j=>V.pipe.length-j) 0
    ⟨noF,_,by repeat' first|exact bo2|refine xqI rfl rfl ?_|refine xqP (by omega) rfl rfl ?_|fail,aK,by omega,bqC,b,by rw[List.take_zero,bq6];exact bp5,g⟩ ?_
   clear bqC b bp5 g;rintro j L bu bw ⟨Z,bqC,b,bp5,g⟩ bqR bx;obtain⟨W,aYL⟩: ∃W,W=bf6 k++(hJ s k).take j:=⟨_,rfl⟩
   rw[<-aYL] at bp5;have B:(jX W).length<2^21:=(by have h1:=ar k bd;rw[bbP,aYL,t2,CG];omega);have o:bQ bu [0,1,9,y]:=AM.apart (by simp;omega) (by simp;omega);simp only[bQ,eZ] at o;by_cases a:j<V.pipe.length
   ·obtain⟨x,hx⟩: ∃x,V.pipe.getD j default=x:=⟨_,rfl⟩
    repeat' first| (first|apply bn1|apply aR1 B)<;>(simp only[go_sem,boC,bqC,b,bp5,z,Y,hx,o];try simp (disch:=omega) only[Iw])|apply bn2 (by omega)|refine⟨by omega,?_⟩|fail
    have e:bf6 k++(hJ s k).take (j+1)=W++[(⟨x.who,x.n,oW⟩:Job)]:=(by rw[nK (by simpa [hJ,<-bPP] using a),<-C0,<-aYL];congr 2;rw[<-hx];simp[hJ,<-bPP,List.getD,a]);exact bx _ _ _ (j+1) noF _ (by omega) (by omega) (by repeat' first|exact bo2|refine xqI rfl rfl ?_|refine xqP (by omega) rfl rfl ?_|fail) aK ⟨by omega,by rw[aA.aC (by omega)];exact bqC,by rw[aA.aC (by omega)];exact b,by rw[e,a7H];exact aA.bH,by rw[aA.aC (by omega)];exact g⟩
   ·have ao:j=V.pipe.length:=(by omega);have e:W=bf6 (k+1):=(by rw[aYL,aq,boL (by simp[hJ,<-bPP];omega)]);rw[e] at bp5;repeat' first|apply bn1<;>(simp only[go_sem,bqC,z,Y])|apply bn3 (by omega)|refine⟨by omega,?_⟩|fail
    refine aM.gP (β:=Nat) (fun j=>en [(8,boP j),(6,boP k),(3,.one (.c (.ptr 6 9 0 0))),(2,.one (.c (.ptr 6 1 0 0))),(1,.one (.c (.ptr 5 0 0 0)))])
     (fun j L _=>j<=V.done.length/\L 0=some ⟨5,1,[eI s]⟩/\L 1=some ⟨6,1,[[.osl 0 0 0 0 0,.osl 0 0 0 0 0,.osl 0 0 0 0 0,.osl 0 0 0 0 0,.osl 0 0 0 0 0,.osl 0 0 0 0 0]]⟩/\L 9=some ⟨6,1,[[.isl (s.words.map aJ),.isl (s.holds.map aJ),.osl 1 y 0 3 ca,.isl ((jX (bf6 (k+1))).map aS),.isl ((jX (bf7 k++V.done.take j)).map aS),.isl (s.told.map aS)]]⟩/\L y=some ⟨1,m,(A 3).map aJ⟩) (fun j=>V.done.length-j) 0
     ⟨noF,_,by repeat' first|exact bo2|refine xqI rfl rfl ?_|refine xqP (by omega) rfl rfl ?_|fail,aK,by omega,bqC,b,by rw[List.take_zero,bq6];exact bp5,g⟩ ?_
    clear bqC b bp5 g o B aYL e W Z ao a;rintro j bqL bz cb ⟨Z,bqC,b,bp5,g⟩ aNB cc;obtain⟨W,aYL⟩: ∃W,W=bf7 k++V.done.take j:=⟨_,rfl⟩
    rw[<-aYL] at bp5;have B:(jX W).length<2^21:=(by have h1:=ax k bd;rw[bbP,aYL,t2,CG];omega);have o:bQ bz [0,1,9,y]:=AM.apart (by simp;omega) (by simp;omega);simp only[bQ,eZ] at o;by_cases a:j<V.done.length
    ·obtain⟨x,hx⟩: ∃x,V.done.getD j default=x:=⟨_,rfl⟩
     repeat' first| (first|apply bn1|apply aS4 (l:=jX W) (j:=x) B)<;>(simp only[go_sem,boC,bqC,b,bp5,z,Y,hx,o];try simp (disch:=omega) only[Iw])|apply bn2 (by omega)|refine⟨by omega,?_⟩|fail
     have e:bf7 k++V.done.take (j+1)=W++[x]:=(by rw[nK a,<-C0,<-aYL,hx]);exact cc _ _ _ (j+1) noF _ (by omega) (by omega) (by repeat' first|exact bo2|refine xqI rfl rfl ?_|refine xqP (by omega) rfl rfl ?_|fail) aK ⟨by omega,by rw[aA.aC (by omega)];exact bqC,by rw[aA.aC (by omega)];exact b,by rw[e,a7H];exact aA.bH,by rw[aA.aC (by omega)];exact g⟩
    ·have ao:j=V.done.length:=(by omega);have e:W=bf7 (k+1):=(by rw[aYL,aw,boL (by omega),bPP]);rw[e] at bp5;repeat' first|apply bn1<;>(simp only[go_sem,bqC,z,Y];try simp (disch:=omega) only[Iw])|apply bn3 (by omega)|refine⟨by omega,?_⟩|fail
     exact an _ _ _ (k+1) noF _ (by omega) (by omega) (by repeat' first|exact bo2|refine xqI rfl rfl ?_|refine xqP (by omega) rfl rfl ?_|fail) aK ⟨by omega,bqC,b,bp5,g⟩
  ·have bf:k=N:=(by omega);have cd:jX (bf6 k)=(cX s).wait:=(by rw[U,S,bf];show _=jX (qU s);unfold qU;rw[M,l2]);have cf:jX (bf7 k)=(cX s).done:=(by rw[X,bf];show _=jX (uQ s);unfold uQ;rw[l2]);rw[cd,cf] at bp5;repeat' first|apply bn1<;>(simp only[go_sem,bqC,b,bp5,z,C])|apply bn3 (by omega)|fail
   refine aB.ao4 (args':=[boR (eSt (cX s))]) (without (fun j=>j=y) H2) (fun j=>j=y) rfl (fun i d0 d h1 h2=> ?_) kS ?_
   ·cases i with
    |succ i=>simp at h1
    |zero=>simp only[List.getElem?_cons_zero,Option.some.injEq] at h1 h2;subst h1;subst h2;apply lY;show CvL _ _ _ _ [.isl (s.words.map aJ),.isl (s.holds.map aJ),.isl ((cX s).asked.map aJ),.isl ((cX s).wait.map aS),.isl ((cX s).done.map aS),.isl (s.told.map aS)] _;rw[<-o];exact aH (bB rfl) (aH (bB rfl) (aH (bW bF g (by rw[ab 3 (by omega)]) (by rw[ab 3 (by omega)];exact ag) rfl) (aH (bB rfl) (aH (bB rfl) (aH (bB rfl) eP)))))
   have bqH:(without (fun j=>j=y) H2) 1=some ⟨6,1,[[.osl 0 0 0 0 0,.osl 0 0 0 0 0,.osl 0 0 0 0 0,.osl 0 0 0 0 0,.osl 0 0 0 0 0,.osl 0 0 0 0 0]]⟩:=(by rw[iI (F:=fun j=>j=y) (by omega)];exact b);refine aQR D fun aZJ cl boW b1 b2 boX boY boZ k0 k1 k2 bPC bPD bPE aUV aUW aIG aII aUX aIH aUY o0 o1 o2 bqD bqE bqF fr=> ?_;have bqI:=(fr 1 (by omega)).trans bqH;simp only[go_sem,bqI];try apply bn0
   repeat' first|apply bn1<;>(simp only[go_sem])|fail
   refine V4 hQ (boR (eSt (cX s))) _ (fZ (m:=1) rfl aA.bH rfl) (lY (aH ((o0.of (aA.aC (by omega))).frz bF (by simp)) (aH ((o1.of (aA.aC (by omega))).frz bF (by simp)) (aH ((o2.of (aA.aC (by omega))).frz bF (by simp)) (aH ((bqD.of (aA.aC (by omega))).frz dZ (by simp)) (aH ((bqE.of (aA.aC (by omega))).frz dZ (by simp)) (aH ((bqF.of (aA.aC (by omega))).frz dZ (by simp)) eP))))))) rfl rfl
theorem bd7{c:Cfg}{s:CSt}(o:jO c)(D:beL s)(h:K (dB (cyB c s)) H nx):bNW aI5 [boR (cU c),boR (eI s)] H nx K:=by
 refine aB.pure (args0:=[boR (cU c),boR (eI s)]) (R:=fun rr=>rr=dB (cyB c s)) ?_ rfl (aI ⟨aE rfl,aE rfl,trivial⟩) (fun r hr=>hr▸h);clear h;refine aN.mk Tryz.func48 (by kernel_rfl) aMD rfl fun Q E=> ?_;unfold aJO;have af:=D.w;have ag:=D.h;have ah:=D.pl;have ai:=D.sl;have a: ¬(aQ c/\COk c s)->dB false=dB (cyB c s):=fun h=>congrArg dB (beP h).symm;by_cases z:aQ c
 case neg=>
  repeat' first| (first|apply bn1|apply aKG o)<;>(simp only[go_sem,eq_false z])|fail
  all_goals exact aZ E _ rfl rfl (a fun h=>z h.1)
 have U:=eq_true z;by_cases F:JS s.words s.holds
 case neg=>
  repeat' first| (first|apply bn1|apply aKG o|apply aKH (show s.words.length<2^40 by omega) (show s.holds.length<2^40 by omega))<;>(simp only[go_sem,U,eq_false F])|fail
  all_goals exact aZ E _ rfl rfl (a fun h=>F (ZS h.2.atm))
 have e2:=eq_true F;by_cases d:(s.bM.length:Int)=3/\(s.dD.length:Int)=4
 case neg=>
  have G: ¬(aQ c/\COk c s):=fun⟨_,h⟩=>d ⟨by rw[h.pl];rfl,by rw[h.sl];rfl⟩;repeat' first| (first|apply bn1|refine bpL (fun h=> ?_) fun h=> ?_|apply aKG o|apply aKH (show s.words.length<2^40 by omega) (show s.holds.length<2^40 by omega))<;>(simp only[go_sem,U,e2])|apply bn2 (by omega)|fail
  all_goals first|exact aZ E _ rfl rfl (a G)| (exfalso;omega)
 have e:s.dD.length=4:=by omega
 have d:s.bM.length=3:=by omega
 repeat' first| (first|apply bn1|apply bpK (by omega)|apply aKG o|apply aKH (show s.words.length<2^40 by omega) (show s.holds.length<2^40 by omega))<;>(simp only[go_sem,U,e2,d,e])|apply bn3 (by omega)|fail
 obtain⟨n,A⟩: ∃n:Nat->Int,n=fun k=>((aF s k).out.length:Int):=⟨_,rfl⟩
 obtain⟨l,B⟩: ∃l:Nat->Int,l=fun k=>(((aL s k).pipe.length:Int)+(aL s k).done.length):=⟨_,rfl⟩
 (refine aM.loop (α:={k:Nat//k<=3/\(∀i,i<k->mD c i (aF s i))}) (fun u=>en [(6,boP u.1),(5,boP (jS n u.1)),(3,.one (.c (.fQ (eI s)))),(2,.one (.c (.fQ (cU c))))]) (fun _=>.nil) _ (fun u=>3-u.1) ⟨0,by omega,(by intros;first|trivial|omega)⟩ (bU (m5 _) (by repeat' first|exact bo2|refine xqI rfl rfl ?_| (with_reducible apply bo3)| ((with_reducible apply bo1);exact bpH rfl (by simp) rfl rfl rfl)|fail)) ?_);(rintro⟨k,hk,hinv⟩ bpQ W);have aj:=KF (f:=n) (m:=4) (by omega) k fun j hj=>by have:=(hinv j (by omega)).ol;rw[A];dsimp only;omega
 by_cases I:k<3
 ·obtain⟨P,boS⟩: ∃P,P=aF s k:=⟨_,rfl⟩
  have N:s.bM.getD k default=P:=boS.symm;obtain⟨p,q⟩:=D.port k;by_cases b:mD c k (aF s k)
  ·have g:=beT b;have X:=b.ol;rw[<-boS] at X;have t:jS n (k+1)=jS n k+P.out.length:=(by rw[jS,A,boS]);have J:=iS hinv b;repeat' first| (first|apply bn1|apply a5O z d I p q)<;>(simp only[go_sem,N,d,g];try simp (disch:=omega) only[Iw])|apply bn2 (by omega)|refine⟨by omega,?_⟩|fail
   all_goals (rw[<-t];(refine W _ _ _ ⟨k+1,by omega,J⟩ (by omega) (by(try dsimp only);omega) (bU (m5 _) (by repeat' first|exact bo2|refine xqI rfl rfl ?_|fail))))
  ·have g:=a8A b;repeat' first| (first|apply bn1|apply a5O z d I p q)<;>(simp only[go_sem,N,d,g])|apply bn2 (by omega)|fail
   all_goals exact aZ E _ rfl rfl (a fun h=>b (h.2.port k I))
 ·have Y:k=3:=by omega
  subst Y;have L:a19 c s:=⟨d,hinv⟩
  have ak:jS l 0=0:=rfl;repeat' first|apply bn1<;>(simp only[go_sem])|apply bn3 (by omega)|fail
  refine aM.loop (α:={k:Nat//k<=4/\ ∀i,i<k->Z0 c s i}) (fun u=>en [(7,boP u.1),(5,boP (jS n 3-jS l u.1)),(3,.one (.c (.fQ (eI s)))),(2,.one (.c (.fQ (cU c))))]) (fun _=>.nil) _ (fun u=>4-u.1) ⟨0,by omega,fun i hi=>by omega⟩ (bU (m5 _) (by repeat' first|exact bo2|refine xqI rfl rfl ?_| (with_reducible apply bo3)| ((with_reducible apply bo0);(exact bpF (by((try dsimp only);exact diE (by omega))) rfl))| ((with_reducible apply bo1);apply bo7)|fail)) ?_;rintro⟨k,hk,v⟩ bqG Z;have al:=KF (f:=l) (m:=4) (by omega) k fun j hj=>by have h1:=(v j (by omega)).pl;have h2:=(v j (by omega)).dl;rw[B];dsimp only;omega
  by_cases x:k<4
  ·obtain⟨V,bPP⟩: ∃V,V=aL s k:=⟨_,rfl⟩
   have O:s.dD.getD k default=V:=bPP.symm;obtain⟨p,q,S⟩:=D.slv k;by_cases b:Z0 c s k
   ·have aa:=b.pl;have ab:=b.dl;rw[<-bPP] at aa ab;have g:=beR b;have t:jS n 3-jS l (k+1)=jS n 3-jS l k-V.pipe.length-V.done.length:=by have h1:l k=V.pipe.length+V.done.length:=(by rw[B,bPP]);have h2:jS l (k+1)=jS l k+l k:=rfl;omega
    have J:=iS v b;repeat' first| (first|apply bn1|apply a5I z L e x p q S)<;>(simp only[go_sem,O,e,g];try simp (disch:=omega) only[Iw])|apply bn2 (by omega)|refine⟨by omega,?_⟩|fail
    all_goals (rw[<-t];exact Z _ _ _ ⟨k+1,by omega,J⟩ (by omega) (by(try dsimp only);omega) (bU (m5 _) (by repeat' first|exact bo2|refine xqI rfl rfl ?_|fail)))
   ·have g:=a6D b;repeat' first| (first|apply bn1|apply a5I z L e x p q S)<;>(simp only[go_sem,O,e,g])|apply bn2 (by omega)|fail
    all_goals exact aZ E _ rfl rfl (a fun h=>b (h.2.slv k x))
  ·have ad:k=4:=(by omega);subst ad;have T:=bd9 D L e v;by_cases M:jS n 3=jS l 4
   case neg=>
    have G: ¬(aQ c/\COk c s):=fun⟨_,h⟩=>M (by
     have:=h.count
     unfold hU at this
     rw[A,B]
     simp only[jS]
     omega)
    have y:(jS n 3-jS l 4=0)=False:=eq_false (by omega);repeat' first|apply bn1<;>(simp only[go_sem,y])|apply bn3 (by omega)|fail
    all_goals exact aZ E _ rfl rfl (a G)
   have y:(jS n 3-jS l 4=0)=True:=eq_true (by omega);have ae:=aXH (s:=cX s) z;repeat' first| (first|apply bn1|apply bdR T|apply aMQ o T.st)<;>(simp only[go_sem,y,ae])|apply bn3 (by omega)|fail
   all_goals (
    refine aZ E _ rfl rfl (congrArg dB ?_)
    by_cases C:BA c (cX s)
    ·rw[aXJ C];refine(bfB z ⟨⟨by have:=F.1.1;omega,F.1.2,by have:=F.2.1;omega,F.2.2⟩,d,e,hinv,v,?_,C⟩).symm;unfold hU;rw[A,B] at M;simp only[jS] at M;omega
    ·rw[aWH C,beP fun h=>C h.2.st])
variable{d:D1}{k:Int}
theorem byZ{l:List Int}{F:Nat->Prop}(r: ∀j,F j->j<nx)(hs:SlS 1 (byQ aJ) H d l F)(v:l.length<2^21)(N:0<=k)(O:k+total byK l<2^62)
 (h: ∀H' nx',nx<=nx'->SlS 1 (byQ aJ) H' d (marks byK bzQ k l) F->(∀j,j<nx->¬F j->H' j=H j)->K (boP (k+total byK l)) H' nx'):bNW byU [.one (.c d),boP k] H nx K:=by
 obtain⟨s,id,off,cap,rfl⟩:=hs.form
 have w:=hs.bEI r
 have y:l.length<2^21:=v
 refine cJ.mk Tryz.func87 (by kernel_rfl) bDV rfl fun Q z=> ?_
 unfold bzV
 repeat' first|apply bn1<;>(simp only[go_sem])|fail
 refine aM.gP (β:=Nat) (fun u=>en [(5,boP u),(1,boP (k+bAJ byK l u)),(0,.one (.c (.osl s id off l.length cap)))]) (fun u H1 bp0=>u<=l.length/\SlS 1 (byQ aJ) H1 (.osl s id off l.length cap) (mixed byK bzQ k u l) F/\ ∀j,j<nx->¬F j->H1 j=H j) (fun u=>l.length-u) 0 ⟨noF,_,oF (oF (oF K6 (apS (bBF (by omega)))) (bz5 (by rw[bAM];omega))) (aE rfl),aK,bxY _,hs,fun _ _ _=>rfl⟩ ?_
 rintro u H1 A B ⟨hu,b,g⟩ bpQ n
 by_cases a:u<l.length
 ·obtain⟨x,e⟩: ∃x,l[u]?=some x:=⟨_,n1 a⟩
  have C:x∈l:=s3 e;have D:byK x=1:=rfl;have E:=bzX (sz:=byK) e;have I:=bBL (sz:=byK) e;rw[D] at E I;obtain⟨⟨rfl,rfl⟩,m,f,G,bPB,c2,bPO,boT⟩:=b.get (i:=u) (by rw[bp2];exact a);rw[bp2] at bPB;have t:=boT.blk;rw[bp2] at t;have J: ∀f,(rng l.length f)[u]?=some (f u):=fun f=>by6 a;have L:id<nx:=r id boT.self;have bqK: ∀j,G u j->F j/\j≠id:=fun j M=>boT.sub u j (by rw[bp2];exact a) M;have bqH:f u=[cI x]:=boT.row u x (bzS e);repeat' first|apply bn1<;>(simp only[go_sem,t,bqH,J,byN,byT,byL,byM,boC];try simp (disch:=omega) only[Iw])|apply bn2 (by omega)|refine⟨by omega,?_⟩|fail
  refine n _ _ _ (u+1) noF _ (by omega) (by omega) (oF (oF (oF K6 (apS (bBF (by omega)))) (bz5 (by omega))) (bz5 (by omega))) aK ⟨by omega,?_,?_⟩;·rw[bAN e];exact SlS.put bPO (by rw[Y5,bp2];exact bPB) c2 (by rw[Y5,bp2]) (boT.upd bp1 (bzS e) (by rw[bp2];exact aA.bH) rfl fun j o p P=>aA.aC o)
  ·exact fun j o p=>(aA.aC (fun h=>p (by rw[h];exact boT.self))).trans (g j o p)
 ·repeat' first|apply bn1<;>(simp only[go_sem])|apply bn3 (by omega)|fail
  have q:u=l.length:=by omega
  subst q;rw[bA4] at b;exact z _ _ _ _ _ (.inr rfl) rfl (h _ _ (by omega) b g)
theorem bJZ{l:List Bool}{F:Nat->Prop}(r: ∀j,F j->j<nx)(hs:SlS 1 (byQ eH) H d l F)(v:l.length<2^21)(N:0<=k)(O:k+total bI6 l<2^62)
 (h: ∀H' nx',nx<=nx'->SlS 1 (byQ eH) H' d (marks bI6 bMF k l) F->(∀j,j<nx->¬F j->H' j=H j)->K (boP (k+total bI6 l)) H' nx'):bNW bI4 [.one (.c d),boP k] H nx K:=by
 obtain⟨s,id,off,cap,rfl⟩:=hs.form
 have w:=hs.bEI r
 have y:l.length<2^21:=v
 refine cJ.mk Tryz.func89 (by kernel_rfl) bLZ rfl fun Q z=> ?_
 unfold bJC
 repeat' first|apply bn1<;>(simp only[go_sem])|fail
 refine aM.gP (β:=Nat) (fun u=>en [(5,boP u),(1,boP (k+bAJ bI6 l u)),(0,.one (.c (.osl s id off l.length cap)))]) (fun u H1 bp0=>u<=l.length/\SlS 1 (byQ eH) H1 (.osl s id off l.length cap) (mixed bI6 bMF k u l) F/\ ∀j,j<nx->¬F j->H1 j=H j) (fun u=>l.length-u) 0 ⟨noF,_,oF (oF (oF K6 (apS (bBF (by omega)))) (bz5 (by rw[bAM];omega))) (aE rfl),aK,bxY _,hs,fun _ _ _=>rfl⟩ ?_
 rintro u H1 A B ⟨hu,b,g⟩ bpQ n
 by_cases a:u<l.length
 ·obtain⟨x,e⟩: ∃x,l[u]?=some x:=⟨_,n1 a⟩
  have C:x∈l:=s3 e;have D:bI6 x=1:=rfl;have E:=bzX (sz:=bI6) e;have I:=bBL (sz:=bI6) e;rw[D] at E I;obtain⟨⟨rfl,rfl⟩,m,f,G,bPB,c2,bPO,boT⟩:=b.get (i:=u) (by rw[bp2];exact a);rw[bp2] at bPB;have t:=boT.blk;rw[bp2] at t;have J: ∀f,(rng l.length f)[u]?=some (f u):=fun f=>by6 a;have L:id<nx:=r id boT.self;have bqK: ∀j,G u j->F j/\j≠id:=fun j M=>boT.sub u j (by rw[bp2];exact a) M;have bqH:f u=[cB x]:=boT.row u x (bzS e);repeat' first|apply bn1<;>(simp only[go_sem,t,bqH,J,byN,byT,byL,byM,boC];try simp (disch:=omega) only[Iw])|apply bn2 (by omega)|refine⟨by omega,?_⟩|fail
  refine n _ _ _ (u+1) noF _ (by omega) (by omega) (oF (oF (oF K6 (apS (bBF (by omega)))) (bz5 (by omega))) (bz5 (by omega))) aK ⟨by omega,?_,?_⟩;·rw[bAN e];exact SlS.put bPO (by rw[Y5,bp2];exact bPB) c2 (by rw[Y5,bp2]) (boT.upd bp1 (bzS e) (by rw[bp2];exact aA.bH) rfl fun j o p P=>aA.aC o)
  ·exact fun j o p=>(aA.aC (fun h=>p (by rw[h];exact boT.self))).trans (g j o p)
 ·repeat' first|apply bn1<;>(simp only[go_sem])|apply bn3 (by omega)|fail
  have q:u=l.length:=by omega
  subst q;rw[bA4] at b;exact z _ _ _ _ _ (.inr rfl) rfl (h _ _ (by omega) b g)
theorem bBW{l:List Rng}{F:Nat->Prop}(r: ∀j,F j->j<nx)(hs:SlS 4 (byQ eN) H d l F)(v:l.length<2^21)(N:0<=k)(O:k+total byW l<2^62)
 (h: ∀H' nx',nx<=nx'->SlS 4 (byQ eN) H' d (marks byW bC0 k l) F->(∀j,j<nx->¬F j->H' j=H j)->K (boP (k+total byW l)) H' nx'):bNW bzT [.one (.c d),boP k] H nx K:=by
 obtain⟨s,id,off,cap,rfl⟩:=hs.form
 have w:=hs.bEI r
 have y:l.length<2^21:=v
 refine cJ.mk Tryz.func86 (by kernel_rfl) bBS rfl fun Q z=> ?_
 unfold by4
 repeat' first|apply bn1<;>(simp only[go_sem])|fail
 refine aM.gP (β:=Nat) (fun u=>en [(5,boP u),(1,boP (k+bAJ byW l u)),(0,.one (.c (.osl s id off l.length cap)))]) (fun u H1 bp0=>u<=l.length/\SlS 4 (byQ eN) H1 (.osl s id off l.length cap) (mixed byW bC0 k u l) F/\ ∀j,j<nx->¬F j->H1 j=H j) (fun u=>l.length-u) 0 ⟨noF,_,oF (oF (oF K6 (apS (bBF (by omega)))) (bz5 (by rw[bAM];omega))) (aE rfl),aK,bxY _,hs,fun _ _ _=>rfl⟩ ?_
 rintro u H1 A B ⟨hu,b,g⟩ bpQ n
 by_cases a:u<l.length
 ·obtain⟨x,e⟩: ∃x,l[u]?=some x:=⟨_,n1 a⟩
  have C:x∈l:=s3 e;have D:byW x=4:=rfl;have E:=bzX (sz:=byW) e;have I:=bBL (sz:=byW) e;rw[D] at E I;obtain⟨⟨rfl,rfl⟩,m,f,G,bPB,c2,bPO,boT⟩:=b.get (i:=u) (by rw[bp2];exact a);rw[bp2] at bPB;have t:=boT.blk;rw[bp2] at t;have J: ∀f,(rng l.length f)[u]?=some (f u):=fun f=>by6 a;have L:id<nx:=r id boT.self;have bqK: ∀j,G u j->F j/\j≠id:=fun j M=>boT.sub u j (by rw[bp2];exact a) M;have bqH:f u=[cI x.lo,cI x.hi,cI x.K5,cB x.only]:=boT.row u x (bzS e);repeat' first|apply bn1<;>(simp only[go_sem,t,bqH,J,byN,byT,byL,byM,boC];try simp (disch:=omega) only[Iw])|apply bn2 (by omega)|refine⟨by omega,?_⟩|fail
  refine n _ _ _ (u+1) noF _ (by omega) (by omega) (oF (oF (oF K6 (apS (bBF (by omega)))) (bz5 (by omega))) (bz5 (by omega))) aK ⟨by omega,?_,?_⟩;·rw[bAN e];exact SlS.put bPO (by rw[Y5,bp2];exact bPB) c2 (by rw[Y5,bp2]) (boT.upd bp1 (bzS e) (by rw[bp2];exact aA.bH) rfl fun j o p P=>aA.aC o)
  ·exact fun j o p=>(aA.aC (fun h=>p (by rw[h];exact boT.self))).trans (g j o p)
 ·repeat' first|apply bn1<;>(simp only[go_sem])|apply bn3 (by omega)|fail
  have q:u=l.length:=by omega
  subst q;rw[bA4] at b;exact z _ _ _ _ _ (.inr rfl) rfl (h _ _ (by omega) b g)
theorem bKF{l:List fC}{F:Nat->Prop}(s: ∀j,F j->j<nx)(hs:SlS 3 (byQ eCJ) H d l F)(w:l.length<2^21)(O:0<=k)(P:k+total bIJ l<2^62)
 (h: ∀H' nx',nx<=nx'->SlS 3 (byQ eCJ) H' d (marks bIJ bJK k l) F->(∀j,j<nx->¬F j->H' j=H j)->K (boP (k+total bIJ l)) H' nx'):bNW bI7 [.one (.c d),boP k] H nx K:=by
 obtain⟨t,id,off,cap,rfl⟩:=hs.form
 have y:=hs.bEI s
 have z:l.length<2^21:=w
 refine cJ.mk Tryz.func241 (by kernel_rfl) bLG rfl fun Q A=> ?_
 unfold bI2
 repeat' first|apply bn1<;>(simp only[go_sem])|fail
 refine aM.gP (β:=Nat) (fun u=>en [(5,boP u),(1,boP (k+bAJ bIJ l u)),(0,.one (.c (.osl t id off l.length cap)))]) (fun u H1 bp0=>u<=l.length/\SlS 3 (byQ eCJ) H1 (.osl t id off l.length cap) (mixed bIJ bJK k u l) F/\ ∀j,j<nx->¬F j->H1 j=H j) (fun u=>l.length-u) 0 ⟨noF,_,oF (oF (oF K6 (apS (bBF (by omega)))) (bz5 (by rw[bAM];omega))) (aE rfl),aK,bxY _,hs,fun _ _ _=>rfl⟩ ?_
 rintro u H1 B C ⟨hu,b,g⟩ bpQ o
 by_cases a:u<l.length
 ·obtain⟨x,e⟩: ∃x,l[u]?=some x:=⟨_,n1 a⟩
  have D:x∈l:=s3 e;have E:bIJ x=3:=rfl;have I:=bzX (sz:=bIJ) e;have J:=bBL (sz:=bIJ) e;rw[E] at I J;obtain⟨⟨rfl,rfl⟩,m,f,G,bPB,c2,bPO,boT⟩:=b.get (i:=u) (by rw[bp2];exact a);rw[bp2] at bPB;have v:=boT.blk;rw[bp2] at v;have L: ∀f,(rng l.length f)[u]?=some (f u):=fun f=>by6 a;have M:id<nx:=s id boT.self;have bqK: ∀j,G u j->F j/\j≠id:=fun j N=>boT.sub u j (by rw[bp2];exact a) N;have bqH:f u=[cI x.who,cI x.n,cI x.left]:=boT.row u x (bzS e);repeat' first|apply bn1<;>(simp only[go_sem,v,bqH,L,byN,byT,byL,byM,boC];try simp (disch:=omega) only[Iw])|apply bn2 (by omega)|refine⟨by omega,?_⟩|fail
  refine o _ _ _ (u+1) noF _ (by omega) (by omega) (oF (oF (oF K6 (apS (bBF (by omega)))) (bz5 (by omega))) (bz5 (by omega))) aK ⟨by omega,?_,?_⟩;·rw[bAN e];exact SlS.put bPO (by rw[Y5,bp2];exact bPB) c2 (by rw[Y5,bp2]) (boT.upd bp1 (bzS e) (by rw[bp2];exact aA.bH) rfl fun j p q R=>aA.aC p)
  ·exact fun j p q=>(aA.aC (fun h=>q (by rw[h];exact boT.self))).trans (g j p q)
 ·repeat' first|apply bn1<;>(simp only[go_sem])|apply bn3 (by omega)|fail
  have r:u=l.length:=by omega
  subst r;rw[bA4] at b;exact A _ _ _ _ _ (.inr rfl) rfl (h _ _ (by omega) b g)
theorem bC2{l:List Req}{F:Nat->Prop}(n: ∀j,F j->j<nx)(hs:SlS 7 bA3 H d l F)(E:aZT (w3 (2^21)) (2^21) l)(hk:0<=k)(ht:k+total bzY l<2^62)
 (h: ∀H' nx',nx<=nx'->SlS 7 bA3 H' d (marks bzY bEC k l) F->(∀j,j<nx->¬F j->H' j=H j)->K (boP (k+total bzY l)) H' nx'):bNW bz8 [.one (.c d),boP k] H nx K:=by
 obtain⟨I,id,off,cap,rfl⟩:=hs.form
 have M:=hs.bEI n
 have N:l.length<2^21:=E.1
 refine cJ.mk Tryz.func176 (by kernel_rfl) bCJ rfl fun Q O=> ?_
 unfold bzG
 repeat' first|apply bn1<;>(simp only[go_sem])|fail
 refine aM.gP (β:=Nat) (fun u=>en [(5,boP u),(1,boP (k+bAJ bzY l u)),(0,.one (.c (.osl I id off l.length cap)))]) (fun u H1 bp0=>u<=l.length/\SlS 7 bA3 H1 (.osl I id off l.length cap) (mixed bzY bEC k u l) F/\ ∀j,j<nx->¬F j->H1 j=H j) (fun u=>l.length-u) 0 ⟨noF,_,oF (oF (oF K6 (apS (bBF (by omega)))) (bz5 (by rw[bAM];omega))) (aE rfl),aK,bxY _,hs,fun _ _ _=>rfl⟩ ?_
 rintro u H1 P R ⟨hu,o,r⟩ bpQ y
 by_cases g:u<l.length
 ·obtain⟨x,q⟩: ∃x,l[u]?=some x:=⟨_,n1 g⟩
  have z:x∈l:=s3 q;have S:bzY x=5+total byK x.data+total byK x.g6:=rfl;have T:=bzX (sz:=bzY) q;have U:=bBL (sz:=bzY) q;rw[S] at T U;obtain⟨A,B⟩:=E.2 x z;obtain⟨⟨rfl,rfl⟩,m,f,G,bPB,c2,bPO,boT⟩:=o.get (i:=u) (by rw[bp2];exact g);rw[bp2] at bPB;have J:=boT.blk;rw[bp2] at J;have s: ∀f,(rng l.length f)[u]?=some (f u):=fun f=>by6 g;have V:id<nx:=n id boT.self;have bqK: ∀j,G u j->F j/\j≠id:=fun j a=>boT.sub u j (by rw[bp2];exact g) a;obtain⟨d1,d2,bF4,bF5,bqH,b⟩:=boT.row u x (bzS q);have s1:=b.s1;have v1: ∀j,bF4 j->F j/\j≠id:=fun j a=>bqK j (b.aUV j a);have s2:=b.s2;have v2: ∀j,bF5 j->F j/\j≠id:=fun j a=>bqK j (b.aUW j a);repeat' first| (first|apply bn1| (refine byZ (F:=bF4) (fun j a=>by have:=n j (v1 j a).1;omega) (s1.frame bp1 fun j a=>aA.aC (v1 j a).2) A (by omega) (by omega) (fun H2 W X bpN L=> ?_)))<;>(simp only[go_sem,J,bqH,s,byN,byT,byL,byM,boC];try simp (disch:=omega) only[Iw])|apply bn2 (by omega)|refine⟨by omega,?_⟩|fail
  have C:=(L id (by omega) (fun h=>(v1 id h).2 rfl)).trans aA.bH;have t: ∀j,j<nx->j≠id->¬bF4 j->H2 j=H1 j:=fun j p e w=>(L j (by omega) w).trans (aA.aC e);(try simp only[go_sem,boC,C,s,byN,byT,byL,byM,boC]);repeat' first| (first|apply bn1| (refine byZ (F:=bF5) (fun j a=>by have:=n j (v2 j a).1;omega) (s2.frame bp1 fun j a=>t j (by have:=n j (v2 j a).1;omega) (v2 j a).2 (fun h=>b.x12 j h a)) B (by omega) (by omega) (fun Y Z aa bpO bpS=> ?_)))<;>(simp only[go_sem,boC,C,s,byN,byT,byL,byM,boC];try simp (disch:=omega) only[Iw])|fail
  have boX:=(bpS id (by omega) (fun h=>(v2 id h).2 rfl)).trans C;have v: ∀j,j<nx->j≠id->¬bF4 j->¬bF5 j->Y j=H1 j:=fun j p e g1 g2=>((bpS j (by omega) g2)).trans (t j p e g1);replace bpN:=bpN.frame bp1 fun j a=>(bpS j (by have:=n j (v1 j a).1;omega) (fun h=>b.x12 j a h))
  (try simp only[go_sem,boC,boX,s,byN,byT,byL,byM,boC]);repeat' first|apply bn1<;>(simp only[go_sem,boC,boX,s,byN,byT,byL,byM,boC])|fail
  refine y _ _ _ (u+1) noF _ (by omega) (by omega) (oF (oF (oF K6 (apS (bBF (by omega)))) (bz5 (by omega))) (bz5 (by omega))) aK ⟨by omega,?_,?_⟩;·rw[bAN q];exact SlS.put bPO (by rw[Y5,bp2];exact bPB) c2 (by rw[Y5,bp2]) (boT.upd bAS (bzS q) (by rw[bp2];exact boX) (⟨d1,d2,bF4,bF5,rfl,⟨bpN,bpO,b.aUV,b.aUW,b.x12⟩⟩) fun j p e w=>v j (n j e) p (fun h=>w (b.aUV j h)) (fun h=>w (b.aUW j h)))
  ·exact fun j p e=>(v j p (fun h=>e (by rw[h];exact boT.self)) (fun h=>e (v1 j h).1) (fun h=>e (v2 j h).1)).trans (r j p e)
 ·repeat' first|apply bn1<;>(simp only[go_sem])|apply bn3 (by omega)|fail
  have D:u=l.length:=by omega
  subst D;rw[bA4] at o;exact O _ _ _ _ _ (.inr rfl) rfl (h _ _ (by omega) o r)
theorem bB9{l:List (List Req)}{F:Nat->Prop}(q: ∀j,F j->j<nx)(hs:SlS 1 bAW H d l F)(C:aZT (aZ7 (2^21)) (2^21) l)(V:0<=k)(W:k+total bzB l<2^62)
 (h: ∀H' nx',nx<=nx'->SlS 1 bAW H' d (marks bzB bDR k l) F->(∀j,j<nx->¬F j->H' j=H j)->K (boP (k+total bzB l)) H' nx'):bNW bz0 [.one (.c d),boP k] H nx K:=by
 obtain⟨D,id,off,cap,rfl⟩:=hs.form
 have I:=hs.bEI q
 have J:l.length<2^21:=C.1
 refine cJ.mk Tryz.func88 (by kernel_rfl) bB7 rfl fun Q L=> ?_
 unfold bzA
 repeat' first|apply bn1<;>(simp only[go_sem])|fail
 refine aM.gP (β:=Nat) (fun u=>en [(5,boP u),(1,boP (k+bAJ bzB l u)),(0,.one (.c (.osl D id off l.length cap)))]) (fun u H1 bp0=>u<=l.length/\SlS 1 bAW H1 (.osl D id off l.length cap) (mixed bzB bDR k u l) F/\ ∀j,j<nx->¬F j->H1 j=H j) (fun u=>l.length-u) 0 ⟨noF,_,oF (oF (oF K6 (apS (bBF (by omega)))) (bz5 (by rw[bAM];omega))) (aE rfl),aK,bxY _,hs,fun _ _ _=>rfl⟩ ?_
 rintro u H1 M N ⟨hu,b,n⟩ bpQ r
 by_cases a:u<l.length
 ·obtain⟨x,e⟩: ∃x,l[u]?=some x:=⟨_,n1 a⟩
  have s:x∈l:=s3 e;have O:bzB x=total bzY x:=rfl;have P:=bzX (sz:=bzB) e;have R:=bBL (sz:=bzB) e;rw[O] at P R;have t:aZT (w3 (2^21)) (2^21) x:=C.2 x s;obtain⟨⟨rfl,rfl⟩,m,f,G,bPB,c2,bPO,boT⟩:=b.get (i:=u) (by rw[bp2];exact a);rw[bp2] at bPB;have v:=boT.blk;rw[bp2] at v;have w: ∀f,(rng l.length f)[u]?=some (f u):=fun f=>by6 a;have S:id<nx:=q id boT.self;have bqK: ∀j,G u j->F j/\j≠id:=fun j y=>boT.sub u j (by rw[bp2];exact a) y;obtain⟨d1,bqH,s1⟩:=boT.row u x (bzS e);have v1:=bqK;repeat' first| (first|apply bn1| (refine bC2 (F:=G u) (fun j y=>by have:=q j (v1 j y).1;omega) (s1) t (by omega) (by omega) (fun H2 T U bpN E=> ?_)))<;>(simp only[go_sem,v,bqH,w,byN,byT,byL,byM,boC];try simp (disch:=omega) only[Iw])|apply bn2 (by omega)|refine⟨by omega,?_⟩|fail
  have z:=(E id (by omega) (fun h=>(v1 id h).2 rfl)).trans v;have o: ∀j,j<nx->j≠id->¬G u j->H2 j=H1 j:=fun j p g A=>(E j (by omega) A)
  (try simp only[go_sem,boC,z,bqH,w,byN,byT,byL,byM,boC]);repeat' first|apply bn1<;>(simp only[go_sem,boC,z,bqH,w,byN,byT,byL,byM,boC])|fail
  refine r _ _ _ (u+1) noF _ (by omega) (by omega) (oF (oF (oF K6 (apS (bBF (by omega)))) (bz5 (by omega))) (bz5 (by omega))) aK ⟨by omega,?_,?_⟩;·rw[bAN e];exact SlS.put bPO (by rw[Y5,bp2];exact bPB) c2 (by rw[Y5,bp2]) (boT.upd bAH (bzS e) (by rw[bp2];exact z.trans (by congr 2;exact bFT fun i _=>(bE5 i bqH).symm)) (⟨d1,rfl,bpN⟩) fun j p g A=>o j (q j g) p A)
  ·exact fun j p g=>(o j p (fun h=>g (by rw[h];exact boT.self)) (fun h=>g (v1 j h).1)).trans (n j p g)
 ·repeat' first|apply bn1<;>(simp only[go_sem])|apply bn3 (by omega)|fail
  have B:u=l.length:=by omega
  subst B;rw[bA4] at b;exact L _ _ _ _ _ (.inr rfl) rfl (h _ _ (by omega) b n)
theorem bz6{l:List Job}{F:Nat->Prop}(r: ∀j,F j->j<nx)(hs:SlS 5 bzL H d l F)(B:aZT (e9 (2^21)) (2^21) l)(V:0<=k)(W:k+total byJ l<2^62)
 (h: ∀H' nx',nx<=nx'->SlS 5 bzL H' d (marks byJ bzU k l) F->(∀j,j<nx->¬F j->H' j=H j)->K (boP (k+total byJ l)) H' nx'):bNW by3 [.one (.c d),boP k] H nx K:=by
 obtain⟨C,id,off,cap,rfl⟩:=hs.form
 have I:=hs.bEI r
 have J:l.length<2^21:=B.1
 refine cJ.mk Tryz.func156 (by kernel_rfl) bCB rfl fun Q L=> ?_
 unfold bzF
 repeat' first|apply bn1<;>(simp only[go_sem])|fail
 refine aM.gP (β:=Nat) (fun u=>en [(5,boP u),(1,boP (k+bAJ byJ l u)),(0,.one (.c (.osl C id off l.length cap)))]) (fun u H1 bp0=>u<=l.length/\SlS 5 bzL H1 (.osl C id off l.length cap) (mixed byJ bzU k u l) F/\ ∀j,j<nx->¬F j->H1 j=H j) (fun u=>l.length-u) 0 ⟨noF,_,oF (oF (oF K6 (apS (bBF (by omega)))) (bz5 (by rw[bAM];omega))) (aE rfl),aK,bxY _,hs,fun _ _ _=>rfl⟩ ?_
 rintro u H1 M N ⟨hu,b,n⟩ bpQ s
 by_cases a:u<l.length
 ·obtain⟨x,g⟩: ∃x,l[u]?=some x:=⟨_,n1 a⟩
  have t:x∈l:=s3 g;have O:byJ x=4+total byK x.rsp.data:=rfl;have P:=bzX (sz:=byJ) g;have R:=bBL (sz:=byJ) g;rw[O] at P R;have v:x.rsp.data.length<2^21:=B.2 x t;obtain⟨⟨rfl,rfl⟩,m,f,G,bPB,c2,bPO,boT⟩:=b.get (i:=u) (by rw[bp2];exact a);rw[bp2] at bPB;have D:=boT.blk;rw[bp2] at D;have w: ∀f,(rng l.length f)[u]?=some (f u):=fun f=>by6 a;have S:id<nx:=r id boT.self;have bqK: ∀j,G u j->F j/\j≠id:=fun j o=>boT.sub u j (by rw[bp2];exact a) o;obtain⟨d1,bqH,s1⟩:=boT.row u x (bzS g);have v1:=bqK;repeat' first| (first|apply bn1| (refine byZ (F:=G u) (fun j o=>by have:=r j (v1 j o).1;omega) (s1.frame bp1 fun j o=>aA.aC (v1 j o).2) v (by omega) (by omega) (fun H2 T U bpN E=> ?_)))<;>(simp only[go_sem,D,bqH,w,byN,byT,byL,byM,boC];try simp (disch:=omega) only[Iw])|apply bn2 (by omega)|refine⟨by omega,?_⟩|fail
  have y:=(E id (by omega) (fun h=>(v1 id h).2 rfl)).trans aA.bH;have p: ∀j,j<nx->j≠id->¬G u j->H2 j=H1 j:=fun j q e z=>(E j (by omega) z).trans (aA.aC e);(try simp only[go_sem,boC,y,w,byN,byT,byL,byM,boC]);repeat' first|apply bn1<;>(simp only[go_sem,boC,y,w,byN,byT,byL,byM,boC])|fail
  refine s _ _ _ (u+1) noF _ (by omega) (by omega) (oF (oF (oF K6 (apS (bBF (by omega)))) (bz5 (by omega))) (bz5 (by omega))) aK ⟨by omega,?_,?_⟩;·rw[bAN g];exact SlS.put bPO (by rw[Y5,bp2];exact bPB) c2 (by rw[Y5,bp2]) (boT.upd byI (bzS g) (by rw[bp2];exact y) (⟨d1,rfl,bpN⟩) fun j q e z=>p j (r j e) q z)
  ·exact fun j q e=>(p j q (fun h=>e (by rw[h];exact boT.self)) (fun h=>e (v1 j h).1)).trans (n j q e)
 ·repeat' first|apply bn1<;>(simp only[go_sem])|apply bn3 (by omega)|fail
  have A:u=l.length:=by omega
  subst A;rw[bA4] at b;exact L _ _ _ _ _ (.inr rfl) rfl (h _ _ (by omega) b n)
theorem bLK{l:List fR}{F:Nat->Prop}(o: ∀j,F j->j<nx)(hs:SlS 4 bJA H d l F)(E:aZT (f9 (2^21)) (2^21) l)(hk:0<=k)(ht:k+total bIK l<2^62)
 (h: ∀H' nx',nx<=nx'->SlS 4 bJA H' d (marks bIK bJH k l) F->(∀j,j<nx->¬F j->H' j=H j)->K (boP (k+total bIK l)) H' nx'):bNW bJI [.one (.c d),boP k] H nx K:=by
 obtain⟨I,id,off,cap,rfl⟩:=hs.form
 have M:=hs.bEI o
 have N:l.length<2^21:=E.1
 refine cJ.mk Tryz.func154 (by kernel_rfl) bLE rfl fun Q O=> ?_
 unfold bIX
 repeat' first|apply bn1<;>(simp only[go_sem])|fail
 refine aM.gP (β:=Nat) (fun u=>en [(5,boP u),(1,boP (k+bAJ bIK l u)),(0,.one (.c (.osl I id off l.length cap)))]) (fun u H1 bp0=>u<=l.length/\SlS 4 bJA H1 (.osl I id off l.length cap) (mixed bIK bJH k u l) F/\ ∀j,j<nx->¬F j->H1 j=H j) (fun u=>l.length-u) 0 ⟨noF,_,oF (oF (oF K6 (apS (bBF (by omega)))) (bz5 (by rw[bAM];omega))) (aE rfl),aK,bxY _,hs,fun _ _ _=>rfl⟩ ?_
 rintro u H1 P R ⟨hu,p,r⟩ bpQ y
 by_cases g:u<l.length
 ·obtain⟨x,q⟩: ∃x,l[u]?=some x:=⟨_,n1 g⟩
  have z:x∈l:=s3 q;have S:bIK x=2+total byK x.queue+total bIJ x.out:=rfl;have T:=bzX (sz:=bIK) q;have U:=bBL (sz:=bIK) q;rw[S] at T U;obtain⟨A,B⟩:=E.2 x z;obtain⟨⟨rfl,rfl⟩,m,f,G,bPB,c2,bPO,boT⟩:=p.get (i:=u) (by rw[bp2];exact g);rw[bp2] at bPB;have J:=boT.blk;rw[bp2] at J;have s: ∀f,(rng l.length f)[u]?=some (f u):=fun f=>by6 g;have V:id<nx:=o id boT.self;have bqK: ∀j,G u j->F j/\j≠id:=fun j a=>boT.sub u j (by rw[bp2];exact g) a;obtain⟨d1,d2,bF4,bF5,bqH,b⟩:=boT.row u x (bzS q);have s1:=b.s1;have v1: ∀j,bF4 j->F j/\j≠id:=fun j a=>bqK j (b.aUV j a);have s2:=b.s2;have v2: ∀j,bF5 j->F j/\j≠id:=fun j a=>bqK j (b.aUW j a);repeat' first| (first|apply bn1| (refine byZ (F:=bF4) (fun j a=>by have:=o j (v1 j a).1;omega) (s1.frame bp1 fun j a=>aA.aC (v1 j a).2) A (by omega) (by omega) (fun H2 W X bpN L=> ?_)))<;>(simp only[go_sem,J,bqH,s,byN,byT,byL,byM,boC];try simp (disch:=omega) only[Iw])|apply bn2 (by omega)|refine⟨by omega,?_⟩|fail
  have C:=(L id (by omega) (fun h=>(v1 id h).2 rfl)).trans aA.bH;have t: ∀j,j<nx->j≠id->¬bF4 j->H2 j=H1 j:=fun j n e w=>(L j (by omega) w).trans (aA.aC e);(try simp only[go_sem,boC,C,s,byN,byT,byL,byM,boC]);repeat' first| (first|apply bn1| (refine bKF (F:=bF5) (fun j a=>by have:=o j (v2 j a).1;omega) (s2.frame bp1 fun j a=>t j (by have:=o j (v2 j a).1;omega) (v2 j a).2 (fun h=>b.x12 j h a)) B (by omega) (by omega) (fun Y Z aa bpO bpS=> ?_)))<;>(simp only[go_sem,boC,C,s,byN,byT,byL,byM,boC])|refine⟨by omega,?_⟩|fail
  have boX:=(bpS id (by omega) (fun h=>(v2 id h).2 rfl)).trans C;have v: ∀j,j<nx->j≠id->¬bF4 j->¬bF5 j->Y j=H1 j:=fun j n e g1 g2=>((bpS j (by omega) g2)).trans (t j n e g1);replace bpN:=bpN.frame bp1 fun j a=>(bpS j (by have:=o j (v1 j a).1;omega) (fun h=>b.x12 j a h))
  (try simp only[go_sem,boC,boX,s,byN,byT,byL,byM,boC]);repeat' first|apply bn1<;>(simp only[go_sem,boC,boX,s,byN,byT,byL,byM,boC];try simp (disch:=omega) only[Iw])|fail
  refine y _ _ _ (u+1) noF _ (by omega) (by omega) (oF (oF (oF K6 (apS (bBF (by omega)))) (bz5 (by omega))) (bz5 (by omega))) aK ⟨by omega,?_,?_⟩;·rw[bAN q];exact SlS.put bPO (by rw[Y5,bp2];exact bPB) c2 (by rw[Y5,bp2]) (boT.upd bIL (bzS q) (by rw[bp2];exact aA.bH) (⟨d1,d2,bF4,bF5,rfl,⟨(bpN.frame bp1 fun j a=>aA.aC (v1 j a).2),(bpO.frame bp1 fun j a=>aA.aC (v2 j a).2),b.aUV,b.aUW,b.x12⟩⟩) fun j n e w=>(aA.aC n).trans (v j (o j e) n (fun h=>w (b.aUV j h)) (fun h=>w (b.aUW j h))))
  ·exact fun j n e=>((aA.aC (fun h=>e (by rw[h];exact boT.self))).trans (v j n (fun h=>e (by rw[h];exact boT.self)) (fun h=>e (v1 j h).1) (fun h=>e (v2 j h).1))).trans (r j n e)
 ·repeat' first|apply bn1<;>(simp only[go_sem])|apply bn3 (by omega)|fail
  have D:u=l.length:=by omega
  subst D;rw[bA4] at p;exact O _ _ _ _ _ (.inr rfl) rfl (h _ _ (by omega) p r)
theorem bK8{l:List nY}{F:Nat->Prop}(o: ∀j,F j->j<nx)(hs:SlS 3 bIV H d l F)(I:aZT (dP (2^21)) (2^21) l)(hk:0<=k)(ht:k+total bII l<2^62)
 (h: ∀H' nx',nx<=nx'->SlS 3 bIV H' d (marks bII bI9 k l) F->(∀j,j<nx->¬F j->H' j=H j)->K (boP (k+total bII l)) H' nx'):bNW bJE [.one (.c d),boP k] H nx K:=by
 obtain⟨J,id,off,cap,rfl⟩:=hs.form
 have M:=hs.bEI o
 have N:l.length<2^21:=I.1
 refine cJ.mk Tryz.func155 (by kernel_rfl) bKY rfl fun Q O=> ?_
 unfold bIT
 repeat' first|apply bn1<;>(simp only[go_sem])|fail
 refine aM.gP (β:=Nat) (fun u=>en [(5,boP u),(1,boP (k+bAJ bII l u)),(0,.one (.c (.osl J id off l.length cap)))]) (fun u H1 bp0=>u<=l.length/\SlS 3 bIV H1 (.osl J id off l.length cap) (mixed bII bI9 k u l) F/\ ∀j,j<nx->¬F j->H1 j=H j) (fun u=>l.length-u) 0 ⟨noF,_,oF (oF (oF K6 (apS (bBF (by omega)))) (bz5 (by rw[bAM];omega))) (aE rfl),aK,bxY _,hs,fun _ _ _=>rfl⟩ ?_
 rintro u H1 P R ⟨hu,p,r⟩ bpQ y
 by_cases g:u<l.length
 ·obtain⟨x,q⟩: ∃x,l[u]?=some x:=⟨_,n1 g⟩
  have z:x∈l:=s3 q;have S:bII x=1+total bIJ x.pipe+total byJ x.done:=rfl;have T:=bzX (sz:=bII) q;have U:=bBL (sz:=bII) q;rw[S] at T U;obtain⟨A,B⟩:=I.2 x z;obtain⟨⟨rfl,rfl⟩,m,f,G,bPB,c2,bPO,boT⟩:=p.get (i:=u) (by rw[bp2];exact g);rw[bp2] at bPB;have C:=boT.blk;rw[bp2] at C;have s: ∀f,(rng l.length f)[u]?=some (f u):=fun f=>by6 g;have V:id<nx:=o id boT.self;have bqK: ∀j,G u j->F j/\j≠id:=fun j a=>boT.sub u j (by rw[bp2];exact g) a;obtain⟨d1,d2,bF4,bF5,bqH,b⟩:=boT.row u x (bzS q);have s1:=b.s1;have v1: ∀j,bF4 j->F j/\j≠id:=fun j a=>bqK j (b.aUV j a);have s2:=b.s2;have v2: ∀j,bF5 j->F j/\j≠id:=fun j a=>bqK j (b.aUW j a);repeat' first| (first|apply bn1| (refine bKF (F:=bF4) (fun j a=>by have:=o j (v1 j a).1;omega) (s1) A (by omega) (by omega) (fun H2 W X bpN L=> ?_)))<;>(simp only[go_sem,C,bqH,s,byN,byT,byL,byM,boC])|apply bn2 (by omega)|refine⟨by omega,?_⟩|fail
  have D:=(L id (by omega) (fun h=>(v1 id h).2 rfl)).trans C;have t: ∀j,j<nx->j≠id->¬bF4 j->H2 j=H1 j:=fun j n e w=>(L j (by omega) w)
  (try simp only[go_sem,boC,D,bqH,s,byN,byT,byL,byM,boC]);repeat' first| (first|apply bn1| (refine bz6 (F:=bF5) (fun j a=>by have:=o j (v2 j a).1;omega) (s2.frame byI fun j a=>t j (by have:=o j (v2 j a).1;omega) (v2 j a).2 (fun h=>b.x12 j h a)) B (by omega) (by omega) (fun Y Z aa bpO bpS=> ?_)))<;>(simp only[go_sem,boC,D,bqH,s,byN,byT,byL,byM,boC])|refine⟨by omega,?_⟩|fail
  have boX:=(bpS id (by omega) (fun h=>(v2 id h).2 rfl)).trans D;have v: ∀j,j<nx->j≠id->¬bF4 j->¬bF5 j->Y j=H1 j:=fun j n e g1 g2=>((bpS j (by omega) g2)).trans (t j n e g1);replace bpN:=bpN.frame bp1 fun j a=>(bpS j (by have:=o j (v1 j a).1;omega) (fun h=>b.x12 j a h))
  (try simp only[go_sem,boC,boX,bqH,s,byN,byT,byL,byM,boC]);repeat' first|apply bn1<;>(simp only[go_sem,boC,boX,bqH,s,byN,byT,byL,byM,boC];try simp (disch:=omega) only[Iw])|fail
  refine y _ _ _ (u+1) noF _ (by omega) (by omega) (oF (oF (oF K6 (apS (bBF (by omega)))) (bz5 (by omega))) (bz5 (by omega))) aK ⟨by omega,?_,?_⟩;·rw[bAN q];exact SlS.put bPO (by rw[Y5,bp2];exact bPB) c2 (by rw[Y5,bp2]) (boT.upd bIN (bzS q) (by rw[bp2];exact aA.bH) (⟨d1,d2,bF4,bF5,rfl,⟨(bpN.frame bp1 fun j a=>aA.aC (v1 j a).2),(bpO.frame byI fun j a=>aA.aC (v2 j a).2),b.aUV,b.aUW,b.x12⟩⟩) fun j n e w=>(aA.aC n).trans (v j (o j e) n (fun h=>w (b.aUV j h)) (fun h=>w (b.aUW j h))))
  ·exact fun j n e=>((aA.aC (fun h=>e (by rw[h];exact boT.self))).trans (v j n (fun h=>e (by rw[h];exact boT.self)) (fun h=>e (v1 j h).1) (fun h=>e (v2 j h).1))).trans (r j n e)
 ·repeat' first|apply bn1<;>(simp only[go_sem])|apply bn3 (by omega)|fail
  have E:u=l.length:=by omega
  subst E;rw[bA4] at p;exact O _ _ _ _ _ (.inr rfl) rfl (h _ _ (by omega) p r)
theorem bON{l:List CIn}{F:Nat->Prop}(g: ∀j,F j->j<nx)(hs:SlS 3 bLP H d l F)(N:aZT (bJB (2^21)) (2^21) l)(hk:0<=k)(ht:k+total bMI l<2^62)
 (h: ∀H' nx',nx<=nx'->SlS 3 bLP H' d (marks bMI bNJ k l) F->(∀j,j<nx->¬F j->H' j=H j)->K (boP (k+total bMI l)) H' nx'):bNW bN5 [.one (.c d),boP k] H nx K:=by
 obtain⟨O,id,off,cap,rfl⟩:=hs.form
 have R:=hs.bEI g
 have S:l.length<2^21:=N.1
 refine cJ.mk Tryz.func23 (by kernel_rfl) bOA rfl fun Q T=> ?_
 unfold bNY
 repeat' first|apply bn1<;>(simp only[go_sem])|fail
 refine aM.gP (β:=Nat) (fun u=>en [(5,boP u),(1,boP (k+bAJ bMI l u)),(0,.one (.c (.osl O id off l.length cap)))]) (fun u H1 bp0=>u<=l.length/\SlS 3 bLP H1 (.osl O id off l.length cap) (mixed bMI bNJ k u l) F/\ ∀j,j<nx->¬F j->H1 j=H j) (fun u=>l.length-u) 0 ⟨noF,_,oF (oF (oF K6 (apS (bBF (by omega)))) (bz5 (by rw[bAM];omega))) (aE rfl),aK,bxY _,hs,fun _ _ _=>rfl⟩ ?_
 rintro u H1 U V ⟨hu,p,s⟩ bpQ z
 by_cases n:u<l.length
 ·obtain⟨x,r⟩: ∃x,l[u]?=some x:=⟨_,n1 n⟩
  have A:x∈l:=s3 r;have W:bMI x=total bI6 x.ready+total bI6 x.n9+total bI6 x.send:=rfl;have X:=bzX (sz:=bMI) r;have Y:=bBL (sz:=bMI) r;rw[W] at X Y;obtain⟨B,C,D⟩:=N.2 x A;obtain⟨⟨rfl,rfl⟩,m,f,G,bPB,c2,bPO,boT⟩:=p.get (i:=u) (by rw[bp2];exact n);rw[bp2] at bPB;have E:=boT.blk;rw[bp2] at E;have q: ∀f,(rng l.length f)[u]?=some (f u):=fun f=>by6 n;have Z:id<nx:=g id boT.self;have bqK: ∀j,G u j->F j/\j≠id:=fun j a=>boT.sub u j (by rw[bp2];exact n) a;obtain⟨d1,d2,d3,bF4,bF5,bF6,bqH,b⟩:=boT.row u x (bzS r);have s1:=b.s1;have v1: ∀j,bF4 j->F j/\j≠id:=fun j a=>bqK j (b.aUV j a);have s2:=b.s2;have v2: ∀j,bF5 j->F j/\j≠id:=fun j a=>bqK j (b.aUW j a);have bp7:=b.bp7;have aXN: ∀j,bF6 j->F j/\j≠id:=fun j a=>bqK j (b.aIG j a);repeat' first| (first|apply bn1| (refine bJZ (F:=bF4) (fun j a=>by have:=g j (v1 j a).1;omega) (s1) B (by omega) (by omega) (fun H2 aa ab bpN P=> ?_)))<;>(simp only[go_sem,E,bqH,q,byN,byT,byL,byM,boC])|apply bn2 (by omega)|refine⟨by omega,?_⟩|fail
  have I:=(P id (by omega) (fun h=>(v1 id h).2 rfl)).trans E;have t: ∀j,j<nx->j≠id->¬bF4 j->H2 j=H1 j:=fun j o e v=>(P j (by omega) v)
  (try simp only[go_sem,boC,I,bqH,q,byN,byT,byL,byM,boC]);repeat' first| (first|apply bn1| (refine bJZ (F:=bF5) (fun j a=>by have:=g j (v2 j a).1;omega) (s2.frame bp1 fun j a=>t j (by have:=g j (v2 j a).1;omega) (v2 j a).2 (fun h=>b.x12 j h a)) C (by omega) (by omega) (fun H3 ad ae bpO bpS=> ?_)))<;>(simp only[go_sem,boC,I,bqH,q,byN,byT,byL,byM,boC])|refine⟨by omega,?_⟩|fail
  have boX:=(bpS id (by omega) (fun h=>(v2 id h).2 rfl)).trans I;have w: ∀j,j<nx->j≠id->¬bF4 j->¬bF5 j->H3 j=H1 j:=fun j o e J L=>((bpS j (by omega) L)).trans (t j o e J);replace bpN:=bpN.frame bp1 fun j a=>(bpS j (by have:=g j (v1 j a).1;omega) (fun h=>b.x12 j a h))
  (try simp only[go_sem,boC,boX,bqH,q,byN,byT,byL,byM,boC]);repeat' first| (first|apply bn1| (refine bJZ (F:=bF6) (fun j a=>by have:=g j (aXN j a).1;omega) (bp7.frame bp1 fun j a=>w j (by have:=g j (aXN j a).1;omega) (aXN j a).2 (fun h=>b.x13 j h a) (fun h=>b.x23 j h a)) D (by omega) (by omega) (fun bqL af ag bpP bpT=> ?_)))<;>(simp only[go_sem,boC,boX,bqH,q,byN,byT,byL,byM,boC];try simp (disch:=omega) only[Iw])|fail
  have boY:=(bpT id (by omega) (fun h=>(aXN id h).2 rfl)).trans boX;have y: ∀j,j<nx->j≠id->¬bF4 j->¬bF5 j->¬bF6 j->bqL j=H1 j:=fun j o e J L g3=>((bpT j (by omega) g3)).trans (w j o e J L);replace bpN:=bpN.frame bp1 fun j a=>(bpT j (by have:=g j (v1 j a).1;omega) (fun h=>b.x13 j a h))
  replace bpO:=bpO.frame bp1 fun j a=>(bpT j (by have:=g j (v2 j a).1;omega) (fun h=>b.x23 j a h))
  (try simp only[go_sem,boC,boY,bqH,q,byN,byT,byL,byM,boC]);repeat' first|apply bn1<;>(simp only[go_sem,boC,boY,bqH,q,byN,byT,byL,byM,boC])|fail
  refine z _ _ _ (u+1) noF _ (by omega) (by omega) (oF (oF (oF K6 (apS (bBF (by omega)))) (bz5 (by omega))) (bz5 (by omega))) aK ⟨by omega,?_,?_⟩;·rw[bAN r];exact SlS.put bPO (by rw[Y5,bp2];exact bPB) c2 (by rw[Y5,bp2]) (boT.upd bKN (bzS r) (by rw[bp2];exact boY.trans (by congr 2;exact bFT fun i _=>(bE5 i bqH).symm)) (⟨d1,d2,d3,bF4,bF5,bF6,rfl,⟨bpN,bpO,bpP,b.aUV,b.aUW,b.aIG,b.x12,b.x13,b.x23⟩⟩) fun j o e v=>y j (g j e) o (fun h=>v (b.aUV j h)) (fun h=>v (b.aUW j h)) (fun h=>v (b.aIG j h)))
  ·exact fun j o e=>(y j o (fun h=>e (by rw[h];exact boT.self)) (fun h=>e (v1 j h).1) (fun h=>e (v2 j h).1) (fun h=>e (aXN j h).1)).trans (s j o e)
 ·repeat' first|apply bn1<;>(simp only[go_sem])|apply bn3 (by omega)|fail
  have M:u=l.length:=by omega
  subst M;rw[bA4] at p;exact T _ _ _ _ _ (.inr rfl) rfl (h _ _ (by omega) p s)
variable{b:Int}
theorem bz3{l:List Int}(i:l.length<2^21)(m:0<=b)(y:b+total byK l<2^62)(h:K (boP (b+total byK l)) H nx):bNW by5 [dS ((marks byK bzQ b l).map aJ),boP b] H nx K:=by
 refine aB.pure (args0:=[dS ((marks byK bzQ b l).map aJ),boP b]) (R:=fun n=>n=boP (b+total byK l)) ?_ rfl (aI ⟨aE rfl,aE rfl,trivial⟩) (fun r hr=>hr▸h);clear h;refine aN.mk Tryz.func90 (by kernel_rfl) bDX rfl fun Q o=> ?_;unfold bzZ;have p:l.length<2^21:=i;have z:bAJ byK l 0=0:=bAM;have q:=bDZ (sz:=byK) (mk:=bzQ) (l:=l) (k:=b);have c:=fun(j:Nat) (x:Int)=>bEG (sz:=byK) (mk:=bzQ) (l:=l) (k:=b) (j:=j) (x:=x);generalize marks byK bzQ b l=M at*;repeat' first|apply bn1<;>(simp only[go_sem])|fail
 (refine aM.loop (α:={k:Nat//k<=l.length/\(True)}) (fun u=>en [(5,boP u.1),(1,boP (b+bAJ byK l u.1)),(0,dS (M.map aJ))]) (fun _=>.nil) _ (fun u=>l.length-u.1) ⟨0,by omega,(by intros;first|trivial|omega)⟩ (bU (m5 _) (by repeat' first|exact bo2|refine xqI rfl rfl ?_| (with_reducible apply bo3)| ((with_reducible apply bo0);(exact bpF (by((try dsimp only);exact diE (by omega))) rfl))| ((with_reducible apply bo1);apply bo7)|fail)) ?_);(rintro⟨k,m,hinv⟩ bpQ d);by_cases e:k<l.length
 ·obtain⟨x,a⟩: ∃x,l[k]?=some x:=⟨_,n1 e⟩
  have s:x∈l:=s3 a;have t:byK x=1:=rfl;have v:=bzX (sz:=byK) a;have w:=bBL (sz:=byK) a;rw[t] at v w;have f:=c k x a;repeat' first|apply bn1<;>(simp only[go_sem,f,bzQ];try simp (disch:=omega) only[Iw])|apply bn2 (by omega)|refine⟨by omega,?_⟩|fail
  all_goals (refine d _ _ _ ⟨k+1,by omega,trivial⟩ (by omega) (by(try dsimp only);omega) (bU (m5 _) (by repeat' first|exact bo2|refine xqI rfl rfl ?_| (with_reducible apply bo3)| ((with_reducible apply bo0);(exact bpF (by((try dsimp only);exact diE (by omega))) rfl))| ((with_reducible apply bo1);apply bo7)|fail)))
 ·repeat' first|apply bn1<;>(simp only[go_sem])|apply bn3 (by omega)|fail
  have g:k=l.length:=by omega
  all_goals exact aZ o _ rfl rfl (qA (by rw[g,bER]))
variable{w:List Int}
theorem bDL(hm:w.length<2^21)(d:0<=b)(e:b+total byK w<2^62)(h:K (boP (b+total byK w)) H nx):bNW bAF [boR [.isl ((marks byK bzQ b w).map aJ)],boP b] H nx K:=by
 refine aB.pure (args0:=[boR [.isl ((marks byK bzQ b w).map aJ)],boP b]) (R:=fun a=>a=boP (b+total byK w)) ?_ rfl (aI ⟨aE rfl,aE rfl,trivial⟩) (fun r hr=>hr▸h);clear h;refine aN.mk Tryz.func244 (by kernel_rfl) bC4 rfl fun Q c=> ?_;unfold bzO;repeat' first| (first|apply bn1|apply bz3 (l:=w) hm (by omega) (by omega))<;>(simp only[go_sem])|apply bn3 (by omega)|fail
 all_goals first|exact aZ c _ rfl rfl rfl| (exfalso;omega)
theorem bCC{u:List Int}(a:w.length<2^21)(c:u.length<2^21)(f:0<=b)(g:b+total byK w+total byK u<2^62)(h:K (boP (b+total byK w+total byK u)) H nx):bNW bz2 [boR [.isl ((marks byK bzQ b w).map aJ),.isl ((marks byK bzQ (b+total byK w) u).map aJ)],boP b] H nx K:=by
 refine aB.pure (args0:=[boR [.isl ((marks byK bzQ b w).map aJ),.isl ((marks byK bzQ (b+total byK w) u).map aJ)],boP b]) (R:=fun d=>d=boP (b+total byK w+total byK u)) ?_ rfl (aI ⟨aE rfl,aE rfl,trivial⟩) (fun r hr=>hr▸h);clear h;refine aN.mk Tryz.func159 (by kernel_rfl) bB0 rfl fun Q e=> ?_;unfold by9;repeat' first| (first|apply bn1|apply bDL (w:=w) a (by omega) (by omega)|apply bz3 (l:=u) c (by omega) (by omega))<;>(simp only[go_sem])|apply bn3 (by omega)|fail
 all_goals first|exact aZ e _ rfl rfl rfl| (exfalso;omega)
theorem bKD{l:List fC}(i:l.length<2^21)(m:0<=b)(y:b+total bIJ l<2^62)(h:K (boP (b+total bIJ l)) H nx):bNW bI8 [dS ((marks bIJ bJK b l).map eCJ),boP b] H nx K:=by
 refine aB.pure (args0:=[dS ((marks bIJ bJK b l).map eCJ),boP b]) (R:=fun n=>n=boP (b+total bIJ l)) ?_ rfl (aI ⟨aE rfl,aE rfl,trivial⟩) (fun r hr=>hr▸h);clear h;refine aN.mk Tryz.func245 (by kernel_rfl) bLH rfl fun Q o=> ?_;unfold bI1;have p:l.length<2^21:=i;have z:bAJ bIJ l 0=0:=bAM;have q:=bDZ (sz:=bIJ) (mk:=bJK) (l:=l) (k:=b);have c:=fun(j:Nat) (x:fC)=>bEG (sz:=bIJ) (mk:=bJK) (l:=l) (k:=b) (j:=j) (x:=x);generalize marks bIJ bJK b l=M at*;repeat' first|apply bn1<;>(simp only[go_sem])|fail
 (refine aM.loop (α:={k:Nat//k<=l.length/\(True)}) (fun u=>en [(5,boP u.1),(1,boP (b+bAJ bIJ l u.1)),(0,dS (M.map eCJ))]) (fun _=>.nil) _ (fun u=>l.length-u.1) ⟨0,by omega,(by intros;first|trivial|omega)⟩ (bU (m5 _) (by repeat' first|exact bo2|refine xqI rfl rfl ?_| (with_reducible apply bo3)| ((with_reducible apply bo0);(exact bpF (by((try dsimp only);exact diE (by omega))) rfl))| ((with_reducible apply bo1);apply bo7)|fail)) ?_);(rintro⟨k,m,hinv⟩ bpQ d);by_cases e:k<l.length
 ·obtain⟨x,a⟩: ∃x,l[k]?=some x:=⟨_,n1 e⟩
  have s:x∈l:=s3 a;have t:bIJ x=3:=rfl;have v:=bzX (sz:=bIJ) a;have w:=bBL (sz:=bIJ) a;rw[t] at v w;have f:=c k x a;repeat' first|apply bn1<;>(simp only[go_sem,f,bJK];try simp (disch:=omega) only[Iw])|apply bn2 (by omega)|refine⟨by omega,?_⟩|fail
  all_goals (refine d _ _ _ ⟨k+1,by omega,trivial⟩ (by omega) (by(try dsimp only);omega) (bU (m5 _) (by repeat' first|exact bo2|refine xqI rfl rfl ?_| (with_reducible apply bo3)| ((with_reducible apply bo0);(exact bpF (by((try dsimp only);exact diE (by omega))) rfl))| ((with_reducible apply bo1);apply bo7)|fail)))
 ·repeat' first|apply bn1<;>(simp only[go_sem])|apply bn3 (by omega)|fail
  have g:k=l.length:=by omega
  all_goals exact aZ o _ rfl rfl (qA (by rw[g,bER]))
theorem bz4{l:List Job}(n:aZT (e9 (2^21)) (2^21) l)(o:0<=b)(z:b+total byJ l<2^62)(h:K (boP (b+total byJ l)) H nx):bNW by2 [dS ((marks byJ bzU b l).map aS),boP b] H nx K:=by
 refine aB.pure (args0:=[dS ((marks byJ bzU b l).map aS),boP b]) (R:=fun p=>p=boP (b+total byJ l)) ?_ rfl (aI ⟨aE rfl,aE rfl,trivial⟩) (fun r hr=>hr▸h);clear h;refine aN.mk Tryz.func162 (by kernel_rfl) bCG rfl fun Q q=> ?_;unfold bzE;have s:l.length<2^21:=n.1;have A:bAJ byJ l 0=0:=bAM;have t:=bDZ (sz:=byJ) (mk:=bzU) (l:=l) (k:=b);have c:=fun(j:Nat) (x:Job)=>bEG (sz:=byJ) (mk:=bzU) (l:=l) (k:=b) (j:=j) (x:=x);generalize marks byJ bzU b l=M at*;repeat' first|apply bn1<;>(simp only[go_sem])|fail
 (refine aM.loop (α:={k:Nat//k<=l.length/\(True)}) (fun u=>en [(5,boP u.1),(1,boP (b+bAJ byJ l u.1)),(0,dS (M.map aS))]) (fun _=>.nil) _ (fun u=>l.length-u.1) ⟨0,by omega,(by intros;first|trivial|omega)⟩ (bU (m5 _) (by repeat' first|exact bo2|refine xqI rfl rfl ?_| (with_reducible apply bo3)| ((with_reducible apply bo0);(exact bpF (by((try dsimp only);exact diE (by omega))) rfl))| ((with_reducible apply bo1);apply bo7)|fail)) ?_);(rintro⟨k,o,hinv⟩ bpQ d);by_cases e:k<l.length
 ·obtain⟨x,a⟩: ∃x,l[k]?=some x:=⟨_,n1 e⟩
  have f:x∈l:=s3 a;have v:byJ x=4+total byK x.rsp.data:=rfl;have w:=bzX (sz:=byJ) a;have y:=bBL (sz:=byJ) a;rw[v] at w y;have g:x.rsp.data.length<2^21:=n.2 x f;have i:=c k x a;repeat' first| (first|apply bn1|apply bz3 (l:=x.rsp.data) g (by omega) (by omega))<;>(simp only[go_sem,i,bzU];try simp (disch:=omega) only[Iw])|apply bn2 (by omega)|apply bn3 (by omega)|refine⟨by omega,?_⟩|fail
  all_goals (refine d _ _ _ ⟨k+1,by omega,trivial⟩ (by omega) (by(try dsimp only);omega) (bU (m5 _) (by repeat' first|exact bo2|refine xqI rfl rfl ?_| (with_reducible apply bo3)| ((with_reducible apply bo0);(exact bpF (by((try dsimp only);exact diE (by omega))) rfl))| ((with_reducible apply bo1);apply bo7)|fail)))
 ·repeat' first|apply bn1<;>(simp only[go_sem])|apply bn3 (by omega)|fail
  have m:k=l.length:=by omega
  all_goals exact aZ q _ rfl rfl (qA (by rw[m,bER]))
theorem bLL{l:List fR}(o:aZT (f9 (2^21)) (2^21) l)(p:0<=b)(A:b+total bIK l<2^62)(h:K (boP (b+total bIK l)) H nx):bNW bJJ [dS ((marks bIK bJH b l).map cD),boP b] H nx K:=by
 refine aB.pure (args0:=[dS ((marks bIK bJH b l).map cD),boP b]) (R:=fun q=>q=boP (b+total bIK l)) ?_ rfl (aI ⟨aE rfl,aE rfl,trivial⟩) (fun r hr=>hr▸h);clear h;refine aN.mk Tryz.func160 (by kernel_rfl) bK0 rfl fun Q s=> ?_;unfold bIW;have t:l.length<2^21:=o.1;have B:bAJ bIK l 0=0:=bAM;have v:=bDZ (sz:=bIK) (mk:=bJH) (l:=l) (k:=b);have c:=fun(j:Nat) (x:fR)=>bEG (sz:=bIK) (mk:=bJH) (l:=l) (k:=b) (j:=j) (x:=x);generalize marks bIK bJH b l=M at*;repeat' first|apply bn1<;>(simp only[go_sem])|fail
 (refine aM.loop (α:={k:Nat//k<=l.length/\(True)}) (fun u=>en [(5,boP u.1),(1,boP (b+bAJ bIK l u.1)),(0,dS (M.map cD))]) (fun _=>.nil) _ (fun u=>l.length-u.1) ⟨0,by omega,(by intros;first|trivial|omega)⟩ (bU (m5 _) (by repeat' first|exact bo2|refine xqI rfl rfl ?_| (with_reducible apply bo3)| ((with_reducible apply bo0);(exact bpF (by((try dsimp only);exact diE (by omega))) rfl))| ((with_reducible apply bo1);apply bo7)|fail)) ?_);(rintro⟨k,p,hinv⟩ bpQ d);by_cases e:k<l.length
 ·obtain⟨x,a⟩: ∃x,l[k]?=some x:=⟨_,n1 e⟩
  have f:x∈l:=s3 a;have w:bIK x=2+total byK x.queue+total bIJ x.out:=rfl;have y:=bzX (sz:=bIK) a;have z:=bBL (sz:=bIK) a;rw[w] at y z;obtain⟨g,i⟩:=o.2 x f;have m:=c k x a;repeat' first| (first|apply bn1|apply bz3 (l:=x.queue) g (by omega) (by omega)|apply bKD (l:=x.out) i (by omega) (by omega))<;>(simp only[go_sem,m,bJH];try simp (disch:=omega) only[Iw])|apply bn2 (by omega)|apply bn3 (by omega)|refine⟨by omega,?_⟩|fail
  all_goals (refine d _ _ _ ⟨k+1,by omega,trivial⟩ (by omega) (by(try dsimp only);omega) (bU (m5 _) (by repeat' first|exact bo2|refine xqI rfl rfl ?_| (with_reducible apply bo3)| ((with_reducible apply bo0);(exact bpF (by((try dsimp only);exact diE (by omega))) rfl))| ((with_reducible apply bo1);apply bo7)|fail)))
 ·repeat' first|apply bn1<;>(simp only[go_sem])|apply bn3 (by omega)|fail
  have n:k=l.length:=by omega
  all_goals exact aZ s _ rfl rfl (qA (by rw[n,bER]))
theorem bLB{l:List nY}(o:aZT (dP (2^21)) (2^21) l)(p:0<=b)(A:b+total bII l<2^62)(h:K (boP (b+total bII l)) H nx):bNW bJF [dS ((marks bII bI9 b l).map gF),boP b] H nx K:=by
 refine aB.pure (args0:=[dS ((marks bII bI9 b l).map gF),boP b]) (R:=fun q=>q=boP (b+total bII l)) ?_ rfl (aI ⟨aE rfl,aE rfl,trivial⟩) (fun r hr=>hr▸h);clear h;refine aN.mk Tryz.func161 (by kernel_rfl) bKZ rfl fun Q s=> ?_;unfold bIU;have t:l.length<2^21:=o.1;have B:bAJ bII l 0=0:=bAM;have v:=bDZ (sz:=bII) (mk:=bI9) (l:=l) (k:=b);have c:=fun(j:Nat) (x:nY)=>bEG (sz:=bII) (mk:=bI9) (l:=l) (k:=b) (j:=j) (x:=x);generalize marks bII bI9 b l=M at*;repeat' first|apply bn1<;>(simp only[go_sem])|fail
 (refine aM.loop (α:={k:Nat//k<=l.length/\(True)}) (fun u=>en [(5,boP u.1),(1,boP (b+bAJ bII l u.1)),(0,dS (M.map gF))]) (fun _=>.nil) _ (fun u=>l.length-u.1) ⟨0,by omega,(by intros;first|trivial|omega)⟩ (bU (m5 _) (by repeat' first|exact bo2|refine xqI rfl rfl ?_| (with_reducible apply bo3)| ((with_reducible apply bo0);(exact bpF (by((try dsimp only);exact diE (by omega))) rfl))| ((with_reducible apply bo1);apply bo7)|fail)) ?_);(rintro⟨k,p,hinv⟩ bpQ d);by_cases e:k<l.length
 ·obtain⟨x,a⟩: ∃x,l[k]?=some x:=⟨_,n1 e⟩
  have f:x∈l:=s3 a;have w:bII x=1+total bIJ x.pipe+total byJ x.done:=rfl;have y:=bzX (sz:=bII) a;have z:=bBL (sz:=bII) a;rw[w] at y z;obtain⟨g,i⟩:=o.2 x f;have m:=c k x a;repeat' first| (first|apply bn1|apply bKD (l:=x.pipe) g (by omega) (by omega)|apply bz4 (l:=x.done) i (by omega) (by omega))<;>(simp only[go_sem,m,bI9];try simp (disch:=omega) only[Iw])|apply bn2 (by omega)|apply bn3 (by omega)|refine⟨by omega,?_⟩|fail
  all_goals (refine d _ _ _ ⟨k+1,by omega,trivial⟩ (by omega) (by(try dsimp only);omega) (bU (m5 _) (by repeat' first|exact bo2|refine xqI rfl rfl ?_| (with_reducible apply bo3)| ((with_reducible apply bo0);(exact bpF (by((try dsimp only);exact diE (by omega))) rfl))| ((with_reducible apply bo1);apply bo7)|fail)))
 ·repeat' first|apply bn1<;>(simp only[go_sem])|apply bn3 (by omega)|fail
  have n:k=l.length:=by omega
  all_goals exact aZ s _ rfl rfl (qA (by rw[n,bER]))
theorem bLI(x:CSt)(b:Int)(i:w5 (2^21) x)(m:0<=b)(j:b+bIP x<2^62):bNW bIQ [boR (eI (bKM b x)),boP b] .nil 0 fun g _ _=>g.plain=true/\g=boP (b+bIP x):=by
 refine aN.mk Tryz.func66 (by kernel_rfl) bK6 rfl fun Q k=> ?_;unfold bIZ;obtain⟨⟨a,c⟩,d,e,f⟩:=i;have h:bIP x=total byK x.words+total byK x.holds+total bIK x.bM+total bII x.dD+total byJ x.told:=rfl;rw[h] at j;repeat' first| (first|apply bn1|apply bCC (w:=x.words) (u:=x.holds) a c (by omega) (by omega)|apply bLL (l:=x.bM) d (by omega) (by omega)|apply bLB (l:=x.dD) e (by omega) (by omega)|apply bz4 (l:=x.told) f (by omega) (by omega))<;>(simp only[go_sem,bKM,eI])|apply bn3 (by omega)|fail
 all_goals first|exact aZ k _ rfl rfl (qA (by rw[h];omega))| (exfalso;omega)
theorem bDD{F:Nat->Prop}(b: ∀j,F j->j<nx)(hs:SlS 1 (byQ aJ) H d w F)(c:w.length<2^21)(m:0<=k)(n:k+total byK w<2^62)
 (h: ∀H' nx',nx<=nx'->SlS 1 (byQ aJ) H' d (marks byK bzQ k w) F->(∀j,j<nx->¬F j->H' j=H j)->K (boP (k+total byK w)) H' nx'):bNW bAB [.one (.agg [d]),boP k] H nx K:=by
 refine cJ.mk Tryz.func240 (by kernel_rfl) bCQ rfl fun Q e=> ?_
 unfold bzN
 repeat' first| (first|apply bn1| (refine byZ (F:=F) (fun j a=>by have:=b j a;omega) (hs.frame bp1 fun j a=>aA.aC (by have:=b j a;omega)) c (by omega) (by omega) (fun H2 f g bpN i=> ?_)))<;>(simp only[go_sem,boC])|fail
 (try simp only[go_sem,boC,boC]);repeat' first|apply bn1<;>(simp only[go_sem,boC,boC])|fail
 exact e _ _ _ _ _ (.inr rfl) rfl (h _ _ (by omega) bpN fun j o l=>(i j (by omega) l).trans (aA.aC (by omega)))
theorem bCF{d1 d2:D1}{u:List Int}{bF4 bF5:Nat->Prop}(v1: ∀j,bF4 j->j<nx)(v2: ∀j,bF5 j->j<nx)(e:Dis bF4 bF5)(s1:SlS 1 (byQ aJ) H d1 w bF4)(s2:SlS 1 (byQ aJ) H d2 u bF5)(c:w.length<2^21)(d:u.length<2^21)(t:0<=k)(v:k+total byK w+total byK u<2^62)
 (h: ∀H' nx',nx<=nx'->SlS 1 (byQ aJ) H' d1 (marks byK bzQ k w) bF4->SlS 1 (byQ aJ) H' d2 (marks byK bzQ (k+total byK w) u) bF5->(∀j,j<nx->¬bF4 j->¬bF5 j->H' j=H j)->K (boP (k+total byK w+total byK u)) H' nx'):bNW bz1 [.one (.agg [d1,d2]),boP k] H nx K:=by
 refine cJ.mk Tryz.func153 (by kernel_rfl) bBT rfl fun Q l=> ?_
 unfold bzC
 repeat' first| (first|apply bn1| (refine bDD (F:=bF4) (fun j a=>by have:=v1 j a;omega) (s1.frame bp1 fun j a=>aA.aC (by have:=v1 j a;omega)) c (by omega) (by omega) (fun H2 m n bpN f=> ?_)))<;>(simp only[go_sem,boC])|fail
 have g:=(f nx (by omega) (fun h=>by have:=v1 nx h;omega)).trans aA.bH
 have b: ∀j,j<nx->¬bF4 j->H2 j=H j:=fun j i o=>(f j (by omega) o).trans (aA.aC (by omega))
 (try simp only[go_sem,boC,g,boC]);repeat' first| (first|apply bn1| (refine byZ (F:=bF5) (fun j a=>by have:=v2 j a;omega) (s2.frame bp1 fun j a=>b j (v2 j a) (fun h=>e j h a)) d (by omega) (by omega) (fun x p q bpO bpS=> ?_)))<;>(simp only[go_sem,boC,g,boC])|fail
 replace bpN:=bpN.frame bp1 fun j a=>bpS j (by have:=v1 j a;omega) (fun h=>e j a h)
 (try simp only[go_sem,boC,boC]);repeat' first|apply bn1<;>(simp only[go_sem,boC,boC])|fail
 exact l _ _ _ _ _ (.inr rfl) rfl (h _ _ (by omega) bpN bpO fun j i r s=>(bpS j (by omega) s).trans (b j i r))
theorem bC5{r:List D1}{x:Cfg}{F:Nat->Prop}(g: ∀j,F j->j<nx)(hs:bBO H r x F)(u:aZW (2^21) x)(I:0<=k)(v:k+bC9 x<2^62)
 (h: ∀H' nx',nx<=nx'->bBO H' r (bFD k x) F->(∀j,j<nx->¬F j->H' j=H j)->K (boP (k+bC9 x)) H' nx'):bNW bAD [.one (.agg r),boP k] H nx K:=by
 obtain⟨d1,d2,d3,bF4,bF5,bF6,rfl,b⟩:=hs
 obtain⟨i,l,m⟩:=u
 have s:bC9 x=total byW x.map+total byK x.lat+total bzB x.cP:=rfl
 rw[s] at v
 have s1:=b.s1
 have v1: ∀j,bF4 j->j<nx:=fun j a=>g j (b.aUV j a)
 have s2:=b.s2
 have v2: ∀j,bF5 j->j<nx:=fun j a=>g j (b.aUW j a)
 have bp7:=b.bp7
 have aXN: ∀j,bF6 j->j<nx:=fun j a=>g j (b.aIG j a)
 refine cJ.mk Tryz.func22 (by kernel_rfl) bCU rfl fun Q w=> ?_
 unfold bzK
 repeat' first| (first|apply bn1| (refine bBW (F:=bF4) (fun j a=>by have:=v1 j a;omega) (s1.frame bp1 fun j a=>aA.aC (by have:=v1 j a;omega)) i (by omega) (by omega) (fun H2 y z bpN t=> ?_)))<;>(simp only[go_sem,boC])|fail
 have n:=(t nx (by omega) (fun h=>by have:=v1 nx h;omega)).trans aA.bH
 have d: ∀j,j<nx->¬bF4 j->H2 j=H j:=fun j c e=>(t j (by omega) e).trans (aA.aC (by omega))
 (try simp only[go_sem,boC,n,boC]);repeat' first| (first|apply bn1| (refine byZ (F:=bF5) (fun j a=>by have:=v2 j a;omega) (s2.frame bp1 fun j a=>d j (v2 j a) (fun h=>b.x12 j h a)) l (by omega) (by omega) (fun A B C bpO bpS=> ?_)))<;>(simp only[go_sem,boC,n,boC])|fail
 have boX:=(bpS nx (by omega) (fun h=>by have:=v2 nx h;omega)).trans n
 have f: ∀j,j<nx->¬bF4 j->¬bF5 j->A j=H j:=fun j c e o=>(bpS j (by omega) o).trans (d j c e)
 replace bpN:=bpN.frame bp1 fun j a=>bpS j (by have:=v1 j a;omega) (fun h=>b.x12 j a h)
 (try simp only[go_sem,boC,boX,boC]);repeat' first| (first|apply bn1| (refine bB9 (F:=bF6) (fun j a=>by have:=aXN j a;omega) (bp7.frame bAH fun j a=>f j (aXN j a) (fun h=>b.x13 j h a) (fun h=>b.x23 j h a)) m (by omega) (by omega) (fun bqL D E bpP bpT=> ?_)))<;>(simp only[go_sem,boC,boX,boC])|fail
 have p: ∀j,j<nx->¬bF4 j->¬bF5 j->¬bF6 j->bqL j=H j:=fun j c e o G=>(bpT j (by omega) G).trans (f j c e o)
 replace bpN:=bpN.frame bp1 fun j a=>bpT j (by have:=v1 j a;omega) (fun h=>b.x13 j a h)
 replace bpO:=bpO.frame bp1 fun j a=>bpT j (by have:=v2 j a;omega) (fun h=>b.x23 j a h)
 (try simp only[go_sem,boC,boC]);repeat' first|apply bn1<;>(simp only[go_sem,boC,boC])|fail
 exact w _ _ _ _ _ (.inr rfl) (bFU (by rw[s];omega)) (h _ _ (by omega) ⟨d1,d2,d3,bF4,bF5,bF6,rfl,⟨bpN,bpO,bpP,b.aUV,b.aUW,b.aIG,b.x12,b.x13,b.x23⟩⟩ fun j c q=>p j c (fun h=>q (b.aUV j h)) (fun h=>q (b.aUW j h)) (fun h=>q (b.aIG j h)))
theorem bJ8{r:List D1}{x:CSt}{F:Nat->Prop}(f: ∀j,F j->j<nx)(hs:bIO H r x F)(z:w5 (2^21) x)(O:0<=k)(A:k+bIP x<2^62)
 (h: ∀H' nx',nx<=nx'->bIO H' r (bKM k x) F->(∀j,j<nx->¬F j->H' j=H j)->K (boP (k+bIP x)) H' nx'):bNW bI0 [.one (.agg r),boP k] H nx K:=by
 obtain⟨d1,d2,d3,bkS,bk2,bF4,bF5,bF6,bF7,bF8,rfl,b⟩:=hs
 obtain⟨⟨o,p⟩,q,s,t⟩:=z
 have w:bIP x=total byK x.words+total byK x.holds+total bIK x.bM+total bII x.dD+total byJ x.told:=rfl
 rw[w] at A
 have s1:=b.s1
 have v1: ∀j,bF4 j->j<nx:=fun j a=>f j (b.aUV j a)
 have s2:=b.s2
 have v2: ∀j,bF5 j->j<nx:=fun j a=>f j (b.aUW j a)
 have bp7:=b.bp7
 have aXN: ∀j,bF6 j->j<nx:=fun j a=>f j (b.aIG j a)
 have bp8:=b.bp8
 have v4: ∀j,bF7 j->j<nx:=fun j a=>f j (b.aII j a)
 have bp9:=b.bp9
 have aXO: ∀j,bF8 j->j<nx:=fun j a=>f j (b.aUX j a)
 refine cJ.mk Tryz.func60 (by kernel_rfl) bLD rfl fun Q B=> ?_
 unfold bIY
 repeat' first| (first|apply bn1| (refine bCF (bF4:=bF4) (bF5:=bF5) (fun j a=>by have:=v1 j a;omega) (fun j a=>by have:=v2 j a;omega) b.x12 (s1.frame bp1 fun j a=>aA.aC (by have:=v1 j a;omega)) (s2.frame bp1 fun j a=>aA.aC (by have:=v2 j a;omega)) o p (by omega) (by omega) (fun H2 C D bpN bpO y=> ?_)))<;>(simp only[go_sem,boC])|fail
 have u:=(y nx (by omega) (fun h=>by have:=v1 nx h;omega) (fun h=>by have:=v2 nx h;omega)).trans aA.bH
 have g: ∀j,j<nx->¬bF4 j->¬bF5 j->H2 j=H j:=fun j c d e=>(y j (by omega) d e).trans (aA.aC (by omega))
 (try simp only[go_sem,boC,u,boC]);repeat' first| (first|apply bn1| (refine bLK (F:=bF6) (fun j a=>by have:=aXN j a;omega) (bp7.frame bIL fun j a=>g j (aXN j a) (fun h=>b.x13 j h a) (fun h=>b.x23 j h a)) q (by omega) (by omega) (fun E G I bpP bpS=> ?_)))<;>(simp only[go_sem,boC,u,boC])|fail
 have boX:=(bpS nx (by omega) (fun h=>by have:=aXN nx h;omega)).trans u
 have i: ∀j,j<nx->¬bF4 j->¬bF5 j->¬bF6 j->E j=H j:=fun j c d e l=>(bpS j (by omega) l).trans (g j c d e)
 replace bpN:=bpN.frame bp1 fun j a=>bpS j (by have:=v1 j a;omega) (fun h=>b.x13 j a h)
 replace bpO:=bpO.frame bp1 fun j a=>bpS j (by have:=v2 j a;omega) (fun h=>b.x23 j a h)
 (try simp only[go_sem,boC,boX,boC]);repeat' first| (first|apply bn1| (refine bK8 (F:=bF7) (fun j a=>by have:=v4 j a;omega) (bp8.frame bIN fun j a=>i j (v4 j a) (fun h=>b.x14 j h a) (fun h=>b.x24 j h a) (fun h=>b.x34 j h a)) s (by omega) (by omega) (fun bqL J L bpY bpT=> ?_)))<;>(simp only[go_sem,boC,boX,boC])|fail
 have boY:=(bpT nx (by omega) (fun h=>by have:=v4 nx h;omega)).trans boX
 have m: ∀j,j<nx->¬bF4 j->¬bF5 j->¬bF6 j->¬bF7 j->bqL j=H j:=fun j c d e l bO4=>(bpT j (by omega) bO4).trans (i j c d e l)
 replace bpN:=bpN.frame bp1 fun j a=>bpT j (by have:=v1 j a;omega) (fun h=>b.x14 j a h)
 replace bpO:=bpO.frame bp1 fun j a=>bpT j (by have:=v2 j a;omega) (fun h=>b.x24 j a h)
 replace bpP:=bpP.frame bIL fun j a=>bpT j (by have:=aXN j a;omega) (fun h=>b.x34 j a h)
 (try simp only[go_sem,boC,boY,boC]);repeat' first| (first|apply bn1| (refine bz6 (F:=bF8) (fun j a=>by have:=aXO j a;omega) (bp9.frame byI fun j a=>m j (aXO j a) (fun h=>b.x15 j h a) (fun h=>b.x25 j h a) (fun h=>b.x35 j h a) (fun h=>b.x45 j h a)) t (by omega) (by omega) (fun aZJ M N aU1 bpU=> ?_)))<;>(simp only[go_sem,boC,boY,boC])|fail
 have v: ∀j,j<nx->¬bF4 j->¬bF5 j->¬bF6 j->¬bF7 j->¬bF8 j->aZJ j=H j:=fun j c d e l bO4 bPU=>(bpU j (by omega) bPU).trans (m j c d e l bO4)
 replace bpN:=bpN.frame bp1 fun j a=>bpU j (by have:=v1 j a;omega) (fun h=>b.x15 j a h)
 replace bpO:=bpO.frame bp1 fun j a=>bpU j (by have:=v2 j a;omega) (fun h=>b.x25 j a h)
 replace bpP:=bpP.frame bIL fun j a=>bpU j (by have:=aXN j a;omega) (fun h=>b.x35 j a h)
 replace bpY:=bpY.frame bIN fun j a=>bpU j (by have:=v4 j a;omega) (fun h=>b.x45 j a h)
 (try simp only[go_sem,boC,boC]);repeat' first|apply bn1<;>(simp only[go_sem,boC,boC])|fail
 exact B _ _ _ _ _ (.inr rfl) (bFU (by rw[w];omega)) (h _ _ (by omega) ⟨d1,d2,d3,bkS,bk2,bF4,bF5,bF6,bF7,bF8,rfl,⟨bpN,bpO,bpP,bpY,aU1,b.aUV,b.aUW,b.aIG,b.aII,b.aUX,b.x12,b.x13,b.x14,b.x15,b.x23,b.x24,b.x25,b.x34,b.x35,b.x45⟩⟩ fun j c n=>v j c (fun h=>n (b.aUV j h)) (fun h=>n (b.aUW j h)) (fun h=>n (b.aIG j h)) (fun h=>n (b.aII j h)) (fun h=>n (b.aUX j h)))
theorem bL2{r:List D1}{x:CIn}{F:Nat->Prop}(g: ∀j,F j->j<nx)(hs:bLP H r x F)(u:bJB (2^21) x)(I:0<=k)(v:k+bMI x<2^62)
 (h: ∀H' nx',nx<=nx'->bLP H' r (bNJ k x) F->(∀j,j<nx->¬F j->H' j=H j)->K (boP (k+bMI x)) H' nx'):bNW bJY [.one (.agg r),boP k] H nx K:=by
 obtain⟨d1,d2,d3,bF4,bF5,bF6,rfl,b⟩:=hs
 obtain⟨i,l,m⟩:=u
 have s:bMI x=total bI6 x.ready+total bI6 x.n9+total bI6 x.send:=rfl
 rw[s] at v
 have s1:=b.s1
 have v1: ∀j,bF4 j->j<nx:=fun j a=>g j (b.aUV j a)
 have s2:=b.s2
 have v2: ∀j,bF5 j->j<nx:=fun j a=>g j (b.aUW j a)
 have bp7:=b.bp7
 have aXN: ∀j,bF6 j->j<nx:=fun j a=>g j (b.aIG j a)
 refine cJ.mk Tryz.func61 (by kernel_rfl) bL0 rfl fun Q w=> ?_
 unfold bJD
 repeat' first| (first|apply bn1| (refine bJZ (F:=bF4) (fun j a=>by have:=v1 j a;omega) (s1.frame bp1 fun j a=>aA.aC (by have:=v1 j a;omega)) i (by omega) (by omega) (fun H2 y z bpN t=> ?_)))<;>(simp only[go_sem,boC])|fail
 have n:=(t nx (by omega) (fun h=>by have:=v1 nx h;omega)).trans aA.bH
 have d: ∀j,j<nx->¬bF4 j->H2 j=H j:=fun j c e=>(t j (by omega) e).trans (aA.aC (by omega))
 (try simp only[go_sem,boC,n,boC]);repeat' first| (first|apply bn1| (refine bJZ (F:=bF5) (fun j a=>by have:=v2 j a;omega) (s2.frame bp1 fun j a=>d j (v2 j a) (fun h=>b.x12 j h a)) l (by omega) (by omega) (fun A B C bpO bpS=> ?_)))<;>(simp only[go_sem,boC,n,boC])|fail
 have boX:=(bpS nx (by omega) (fun h=>by have:=v2 nx h;omega)).trans n
 have f: ∀j,j<nx->¬bF4 j->¬bF5 j->A j=H j:=fun j c e o=>(bpS j (by omega) o).trans (d j c e)
 replace bpN:=bpN.frame bp1 fun j a=>bpS j (by have:=v1 j a;omega) (fun h=>b.x12 j a h)
 (try simp only[go_sem,boC,boX,boC]);repeat' first| (first|apply bn1| (refine bJZ (F:=bF6) (fun j a=>by have:=aXN j a;omega) (bp7.frame bp1 fun j a=>f j (aXN j a) (fun h=>b.x13 j h a) (fun h=>b.x23 j h a)) m (by omega) (by omega) (fun bqL D E bpP bpT=> ?_)))<;>(simp only[go_sem,boC,boX,boC])|fail
 have p: ∀j,j<nx->¬bF4 j->¬bF5 j->¬bF6 j->bqL j=H j:=fun j c e o G=>(bpT j (by omega) G).trans (f j c e o)
 replace bpN:=bpN.frame bp1 fun j a=>bpT j (by have:=v1 j a;omega) (fun h=>b.x13 j a h)
 replace bpO:=bpO.frame bp1 fun j a=>bpT j (by have:=v2 j a;omega) (fun h=>b.x23 j a h)
 (try simp only[go_sem,boC,boC]);repeat' first|apply bn1<;>(simp only[go_sem,boC,boC])|fail
 exact w _ _ _ _ _ (.inr rfl) (bFU (by rw[s];omega)) (h _ _ (by omega) ⟨d1,d2,d3,bF4,bF5,bF6,rfl,⟨bpN,bpO,bpP,b.aUV,b.aUW,b.aIG,b.x12,b.x13,b.x23⟩⟩ fun j c q=>p j c (fun h=>q (b.aUV j h)) (fun h=>q (b.aUW j h)) (fun h=>q (b.aIG j h)))
end
end Go.Proofs.YtlncecohbakleaaGreat
