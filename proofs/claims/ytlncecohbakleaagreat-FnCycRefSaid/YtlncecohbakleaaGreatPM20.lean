/- Rules and contracts. -/
import Derived.Test.YtlncecohbakleaaGreatPM18
import Derived.Test.YtlncecohbakleaaGreatPM17
set_option linter.unusedVariables false
set_option linter.unusedSimpArgs false
set_option maxRecDepth 100000
set_option maxHeartbeats 8000000
namespace Go.AM
theorem SS{l:List Job}{x:Job}:dG (l++[x])=iF (dG l) x:=by unfold dG;rw[List.foldl_append];rfl
theorem WB{l:List Job}:(dG l).length=l.length:=(i7 l).length_eq
end Go.AM
namespace Go.Proofs.YtlncecohbakleaaGreat
open Go Go.AM
attribute [local irreducible] aK wv aC vd wvH
section
variable{H:aA}{nx:Nat}{K:ag2}
theorem ZX{s:CSt}(hf:zJ s)(h:K (dA (eSt (dN s))) H nx):ag1 IB [dA (dX s)] H nx K:=by
 refine aC.fresh (R:=fun rr=>rr=dA (eSt (dN s))) ?_ rfl (fun r hr=>hr▸h);clear h;refine aR.mk Tryz.func130 (by kernel_rfl) ZW rfl fun Q hQ=> ?_;unfold wO;have Y:=hf.pl;have dx:=hf.sl;obtain⟨N,hN⟩: ∃N,N=s.bR.length:=⟨_,rfl⟩
 rw[<-hN] at dx;have E:=hN.symm;have O:=hf.st;have fx:s.words.length<2^21:=O.words;have gb:s.holds.length<2^21:=O.holds;have gd:s.told.length<2^21:=O.told;have dy: ∀j∈s.told,j.rsp.data.length<2^21:=fun j hj=>O.data j (aeN _ hj);repeat' first| (first|apply vI|apply qk (w:=s.words) (u:=s.holds) (by omega) (by omega)|apply oz (l:=s.told) (by omega) dy)<;>(simp only[go_sem,umB,umS,umM,muM])|fail
 apply aK.oB 1;refine aK.qC _ _ noF (fun t=>.inl rfl) (HF (i:=9) (o':=⟨6,1,[[.isl (s.words.map aF),.isl (s.holds.map aF),.osl 1 12 0 0 0,.isl ((dG []).map aL),.isl ((dG []).map aL),.isl (s.told.map aL)]]⟩) (by rw[aA.aB (by omega)];exact aA.aJ) (aW (aH (bE rfl) (aH (bE rfl) (aH (.GO ..) (aH yA (aH yA (aH (bE rfl) cG)))))))) ?_;refine aK.QK fun G0 S=> ?_;have c0:G0 0=some ⟨5,1,[dX s]⟩:=by rw[S];rfl
 have c1:G0 1=some ⟨6,1,[[.osl 0 0 0 0 0,.osl 0 0 0 0 0,.osl 0 0 0 0 0,.osl 0 0 0 0 0,.osl 0 0 0 0 0,.osl 0 0 0 0 0]]⟩:=by rw[S];rfl
 have c9:G0 9=some ⟨6,1,[[.isl (s.words.map aF),.isl (s.holds.map aF),.osl 1 12 0 0 0,.isl ((dG []).map aL),.isl ((dG []).map aL),.isl (s.told.map aL)]]⟩:=by rw[S];exact aA.aJ
 have df:G0 12=some ⟨1,0,[]⟩:=by rw[S];rfl
 clear S;obtain⟨A,Z⟩: ∃A:Nat->List Int,A=fun k=>(s.bJ.take k).map (·.next):=⟨_,rfl⟩
 have bb: ∀k,k<=3->(A k).length=k:=fun k T=>by rw[Z];simp;omega
 have dz: ∀k,k<3->A (k+1)=A k++[(s.bJ.getD k default).next]:=fun k T=>by rw[Z];dsimp only;rw[ae5 (by omega),adF];simp[List.getD,show k<s.bJ.length by omega]
 have y:A 3=(dN s).asked:=by rw[Z];dsimp only;rw[ac6 (by omega)];rfl
 have dh: ∀k,k<3->(hZ s k).length<=3:=fun k T=>by have:=hf.q k T;simpa [hZ] using this
 have bk: ∀k,k<N->(fK s k).length<=3/\(aU s k).done.length<=3:=fun k T=>⟨by have:=(hf.v k (by omega)).1;simpa [fK] using this,(hf.v k (by omega)).2⟩
 obtain⟨C,ab⟩: ∃C:Nat->List Job,C=fun k=>(List.range k).flatMap (hZ s):=⟨_,rfl⟩
 have bp: ∀k,C (k+1)=C k++hZ s k:=fun k=>by rw[ab];exact uP
 have aa: ∀k,k<=3->(C k).length<=3*k:=fun k T=>by rw[ab];exact xI k fun j hj=>dh j (by omega)
 have br:C 0=[]:=by rw[ab];rfl
 refine aK.cW (β:=Nat×Nat×Nat) (fun u=>en [(4,dI u.1),(3,.one (.c (.ptr 6 9 0 0))),(2,.one (.c (.ptr 6 1 0 0))),(1,.one (.c (.ptr 5 0 0 0)))])
  (fun u H1 n1=>u.1<=3/\H1 0=some ⟨5,1,[dX s]⟩/\H1 1=some ⟨6,1,[[.osl 0 0 0 0 0,.osl 0 0 0 0 0,.osl 0 0 0 0 0,.osl 0 0 0 0 0,.osl 0 0 0 0 0,.osl 0 0 0 0 0]]⟩/\H1 9=some ⟨6,1,[[.isl (s.words.map aF),.isl (s.holds.map aF),.osl 1 u.2.1 0 u.1 u.2.2,.isl ((dG (C u.1)).map aL),.isl ((dG []).map aL),.isl (s.told.map aL)]]⟩/\(∃m,H1 u.2.1=some ⟨1,m,(A u.1).map aF⟩/\u.1<=u.2.2/\u.2.2<=m)/\12<=u.2.1/\u.2.1<n1) (fun u=>3-u.1) (0,12,0)
  ⟨noF,_,by repeat' first|exact C1|refine xqI rfl rfl ?_|refine xqP (by omega) rfl rfl ?_|fail,aI,by dsimp only;omega,c0,c1,by dsimp only;rw[br];exact c9,⟨0,by rw[df,Z];rfl,ac1 _,ac1 _⟩,by dsimp only;omega,by dsimp only;omega⟩ ?_
 clear c0 c1 c9 df;rintro⟨k,D,ca⟩ H1 z eb ⟨T,b,g,a,⟨m,p,cc,ed⟩,cd,cf⟩ KL ei;dsimp only at T a p cc ed cd cf;have M:aT z [0,1,9,D]:=AM.apart (by simp;omega) (by simp;omega);simp only[aT,bM] at M;have dm:=bb k T;by_cases ck:k<3
 ·obtain⟨P,hP⟩: ∃P,P=aN s k:=⟨_,rfl⟩
  have ad:s.bJ.getD k default=P:=hP.symm;have ej:=hf.q k ck;rw[<-hP] at ej;have m9: ∀G:aA,msk (z+5) [8] G 9=G 9:=fun G=>by unfold msk;rw[if_neg (by simp)]
  rw[<-dm] at a cc;repeat' first|apply vI<;>(simp only[go_sem,nL,b,g,a,m9,p,Y,ad,M])|apply vT (by omega)| (with_reducible first|refine fun(cap:Nat) (eo:_<=cap)=> ?_|refine fun(gf:_<=cap)=> ?_)|refine⟨by omega,?_⟩|fail
  refine aK.QK fun G1 U=> ?_;have hc:A k++[P.next]=A (k+1):=by rw[dz k ck,ad]
  have d0:G1 0=some ⟨5,1,[dX s]⟩:=by rw[U];simp[aA.set,aA.del,M,b]
  have d1:G1 1=some ⟨6,1,[[.osl 0 0 0 0 0,.osl 0 0 0 0 0,.osl 0 0 0 0 0,.osl 0 0 0 0 0,.osl 0 0 0 0 0,.osl 0 0 0 0 0]]⟩:=by rw[U];simp[aA.set,aA.del,M,g]
  have d9:G1 9=some ⟨6,1,[[.isl (s.words.map aF),.isl (s.holds.map aF),.osl 1 (z+14) 0 (k+1) cap,.isl ((dG (C k)).map aL),.isl ((dG []).map aL),.isl (s.told.map aL)]]⟩:=by rw[U,dm];exact aA.aJ
  have dA:G1 (z+14)=some ⟨1,cap,(A (k+1)).map aF⟩:=by rw[U,aA.aB (by omega),<-hc];exact aA.aJ
  clear U b g a p M
  refine aK.cW (β:=Nat) (fun j=>en [(5,dI j),(4,dI k),(3,.one (.c (.ptr 6 9 0 0))),(2,.one (.c (.ptr 6 1 0 0))),(1,.one (.c (.ptr 5 0 0 0)))])
   (fun j H2 _=>j<=P.queue.length/\H2 0=some ⟨5,1,[dX s]⟩/\H2 1=some ⟨6,1,[[.osl 0 0 0 0 0,.osl 0 0 0 0 0,.osl 0 0 0 0 0,.osl 0 0 0 0 0,.osl 0 0 0 0 0,.osl 0 0 0 0 0]]⟩/\H2 9=some ⟨6,1,[[.isl (s.words.map aF),.isl (s.holds.map aF),.osl 1 (z+14) 0 (k+1) cap,.isl ((dG (C k++(hZ s k).take j)).map aL),.isl ((dG []).map aL),.isl (s.told.map aL)]]⟩/\H2 (z+14)=some ⟨1,cap,(A (k+1)).map aF⟩) (fun j=>P.queue.length-j) 0
   ⟨noF,_,by repeat' first|exact C1|refine xqI rfl rfl ?_|refine xqP (by omega) rfl rfl ?_|fail,aI,by omega,d0,d1,by rw[List.take_zero,adR];exact d9,dA⟩ ?_
  clear d0 d1 d9 dA;rintro j H2 cl cp ⟨hj,b,g,a,p⟩ KM cq;obtain⟨W,B⟩: ∃W,W=C k++(hZ s k).take j:=⟨_,rfl⟩
  rw[<-B] at a;have I:(dG W).length<2^21:=by have h1:=aa k T;have h2:=dh k ck;rw[WB,B,ac7,adP];omega
  have M:aT cl [0,1,9,z+14]:=AM.apart (by simp) (by simp;omega);simp only[aT,bM] at M;by_cases e:j<P.queue.length
  ·obtain⟨n,hn⟩: ∃n,P.queue.getD j default=n:=⟨_,rfl⟩
   repeat' first| (first|apply vI|apply R6 I)<;>(simp only[go_sem,nL,b,g,a,Y,ad,hn,M];try simp (disch:=omega) only[Iw])|apply vT (by omega)|refine⟨by omega,?_⟩|fail
   have o:C k++(hZ s k).take (j+1)=W++[(⟨k,n,iL⟩:Job)]:=(by rw[gP (by simpa [hZ,<-hP] using e),<-adH,<-B];congr 2;rw[<-hn];simp[hZ,<-hP,List.getD,e]);exact cq _ _ _ (j+1) noF _ (by omega) (by omega) (by repeat' first|exact C1|refine xqI rfl rfl ?_|refine xqP (by omega) rfl rfl ?_|fail) aI ⟨by omega,by rw[aA.aB (by omega)];exact b,by rw[aA.aB (by omega)];exact g,by rw[o,SS];exact aA.aJ,by rw[aA.aB (by omega)];exact p⟩
  ·have cr:j=P.queue.length:=(by omega);have o:W=C (k+1):=(by rw[B,bp,ac6 (by simp[hZ,<-hP];omega)]);repeat' first|apply vI<;>(simp only[go_sem,b,Y,ad];try simp (disch:=omega) only[Iw])|apply vF (by omega)|refine⟨by omega,?_⟩|fail
   exact ei _ _ _ (k+1,z+14,cap) noF _ (by omega) (by dsimp only;omega) (by repeat' first|exact C1|refine xqI rfl rfl ?_|refine xqP (by omega) rfl rfl ?_|fail) aI ⟨by dsimp only;omega,b,g,by dsimp only;rw[<-o];exact a,⟨cap,p,by dsimp only;omega,ac1 _⟩,by dsimp only;omega,by dsimp only;omega⟩
 ·have ep:k=3:=by omega
  subst ep;repeat' first|apply vI<;>(simp only[go_sem,b,g,a])|apply vF (by omega)|fail
  obtain⟨J,ai⟩: ∃J:Nat->List Job,J=fun k=>C 3++(List.range k).flatMap (fK s):=⟨_,rfl⟩
  have ct: ∀k,J (k+1)=J k++fK s k:=fun k=>by rw[ai];dsimp only;rw[uP,adH]
  have cv: ∀k,k<=N->(J k).length<=9+3*k:=fun k T=>by have h1:=aa 3 (by omega);have h2:=xI (f:=fK s) (m:=3) k fun j hj=>(bk j (by omega)).1;rw[ai];dsimp only;rw[ac7];omega
  have cw:J 0=C 3:=by rw[ai];simp
  obtain⟨L,aj⟩: ∃L:Nat->List Job,L=fun k=>(List.range k).flatMap fun k=>(aU s k).done:=⟨_,rfl⟩
  have cx: ∀k,L (k+1)=L k++(aU s k).done:=fun k=>by rw[aj];exact uP
  have cy: ∀k,k<=N->(L k).length<=3*k:=fun k T=>by rw[aj];exact xI k fun j hj=>(bk j (by omega)).2
  have da:L 0=[]:=by rw[aj];rfl
  refine aK.cW (β:=Nat) (fun k=>en [(6,dI k),(3,.one (.c (.ptr 6 9 0 0))),(2,.one (.c (.ptr 6 1 0 0))),(1,.one (.c (.ptr 5 0 0 0)))])
   (fun k H2 _=>k<=N/\H2 0=some ⟨5,1,[dX s]⟩/\H2 1=some ⟨6,1,[[.osl 0 0 0 0 0,.osl 0 0 0 0 0,.osl 0 0 0 0 0,.osl 0 0 0 0 0,.osl 0 0 0 0 0,.osl 0 0 0 0 0]]⟩/\H2 9=some ⟨6,1,[[.isl (s.words.map aF),.isl (s.holds.map aF),.osl 1 D 0 3 ca,.isl ((dG (J k)).map aL),.isl ((dG (L k)).map aL),.isl (s.told.map aL)]]⟩/\H2 D=some ⟨1,m,(A 3).map aF⟩) (fun k=>N-k) 0
   ⟨noF,_,by repeat' first|exact C1|refine xqI rfl rfl ?_|refine xqP (by omega) rfl rfl ?_|fail,aI,by omega,b,g,by rw[cw,da];exact a,p⟩ ?_
  clear b g a p M;rintro k H2 cl cp ⟨ds,b,g,a,p⟩ KM cq;have M:aT cl [0,1,9,D]:=AM.apart (by simp;omega) (by simp;omega);simp only[aT,bM] at M;by_cases dc:k<N
  ·obtain⟨V,hV⟩: ∃V,V=aU s k:=⟨_,rfl⟩
   have ao:s.bR.getD k default=V:=hV.symm;obtain⟨et,eu⟩:=bk k dc;have ew:V.pipe.length<=3:=(by simpa [fK,<-hV] using et);rw[<-hV] at eu;repeat' first|apply vI<;>(simp only[go_sem,b,g,a,E])|apply vT (by omega)|fail
   refine aK.cW (β:=Nat) (fun j=>en [(7,dI j),(6,dI k),(3,.one (.c (.ptr 6 9 0 0))),(2,.one (.c (.ptr 6 1 0 0))),(1,.one (.c (.ptr 5 0 0 0)))])
    (fun j X _=>j<=V.pipe.length/\X 0=some ⟨5,1,[dX s]⟩/\X 1=some ⟨6,1,[[.osl 0 0 0 0 0,.osl 0 0 0 0 0,.osl 0 0 0 0 0,.osl 0 0 0 0 0,.osl 0 0 0 0 0,.osl 0 0 0 0 0]]⟩/\X 9=some ⟨6,1,[[.isl (s.words.map aF),.isl (s.holds.map aF),.osl 1 D 0 3 ca,.isl ((dG (J k++(fK s k).take j)).map aL),.isl ((dG (L k)).map aL),.isl (s.told.map aL)]]⟩/\X D=some ⟨1,m,(A 3).map aF⟩) (fun j=>V.pipe.length-j) 0
    ⟨noF,_,by repeat' first|exact C1|refine xqI rfl rfl ?_|refine xqP (by omega) rfl rfl ?_|fail,aI,by omega,b,g,by rw[List.take_zero,adR];exact a,p⟩ ?_
   clear b g a p;rintro j X ff fh ⟨hj,b,g,a,p⟩ KN fi;obtain⟨W,B⟩: ∃W,W=J k++(fK s k).take j:=⟨_,rfl⟩
   rw[<-B] at a;have I:(dG W).length<2^21:=(by have h1:=cv k ds;rw[WB,B,ac7,adP];omega);have y:aT ff [0,1,9,D]:=AM.apart (by simp;omega) (by simp;omega);simp only[aT,bM] at y;by_cases e:j<V.pipe.length
   ·obtain⟨x,hx⟩: ∃x,V.pipe.getD j default=x:=⟨_,rfl⟩
    repeat' first| (first|apply vI|apply R6 I)<;>(simp only[go_sem,nL,b,g,a,E,ao,hx,y];try simp (disch:=omega) only[Iw])|apply vT (by omega)|refine⟨by omega,?_⟩|fail
    have o:J k++(fK s k).take (j+1)=W++[(⟨x.who,x.n,iL⟩:Job)]:=(by rw[gP (by simpa [fK,<-hV] using e),<-adH,<-B];congr 2;rw[<-hx];simp[fK,<-hV,List.getD,e]);exact fi _ _ _ (j+1) noF _ (by omega) (by omega) (by repeat' first|exact C1|refine xqI rfl rfl ?_|refine xqP (by omega) rfl rfl ?_|fail) aI ⟨by omega,by rw[aA.aB (by omega)];exact b,by rw[aA.aB (by omega)];exact g,by rw[o,SS];exact aA.aJ,by rw[aA.aB (by omega)];exact p⟩
   ·have cr:j=V.pipe.length:=(by omega);have o:W=J (k+1):=(by rw[B,ct,ac6 (by simp[fK,<-hV];omega)]);rw[o] at a;repeat' first|apply vI<;>(simp only[go_sem,b,E,ao])|apply vF (by omega)|refine⟨by omega,?_⟩|fail
    refine aK.cW (β:=Nat) (fun j=>en [(8,dI j),(6,dI k),(3,.one (.c (.ptr 6 9 0 0))),(2,.one (.c (.ptr 6 1 0 0))),(1,.one (.c (.ptr 5 0 0 0)))])
     (fun j X _=>j<=V.done.length/\X 0=some ⟨5,1,[dX s]⟩/\X 1=some ⟨6,1,[[.osl 0 0 0 0 0,.osl 0 0 0 0 0,.osl 0 0 0 0 0,.osl 0 0 0 0 0,.osl 0 0 0 0 0,.osl 0 0 0 0 0]]⟩/\X 9=some ⟨6,1,[[.isl (s.words.map aF),.isl (s.holds.map aF),.osl 1 D 0 3 ca,.isl ((dG (J (k+1))).map aL),.isl ((dG (L k++V.done.take j)).map aL),.isl (s.told.map aL)]]⟩/\X D=some ⟨1,m,(A 3).map aF⟩) (fun j=>V.done.length-j) 0
     ⟨noF,_,by repeat' first|exact C1|refine xqI rfl rfl ?_|refine xqP (by omega) rfl rfl ?_|fail,aI,by omega,b,g,by rw[List.take_zero,adR];exact a,p⟩ ?_
    clear b g a p y I B o W hj cr e;rintro j H4 fl fm ⟨hj,b,g,a,p⟩ KO fo;obtain⟨W,B⟩: ∃W,W=L k++V.done.take j:=⟨_,rfl⟩
    rw[<-B] at a;have I:(dG W).length<2^21:=(by have h1:=cy k ds;rw[WB,B,ac7,adP];omega);have y:aT fl [0,1,9,D]:=AM.apart (by simp;omega) (by simp;omega);simp only[aT,bM] at y;by_cases e:j<V.done.length
    ·obtain⟨x,hx⟩: ∃x,V.done.getD j default=x:=⟨_,rfl⟩
     repeat' first| (first|apply vI|apply xh (l:=dG W) (j:=x) I)<;>(simp only[go_sem,nL,b,g,a,E,ao,hx,y];try simp (disch:=omega) only[Iw])|apply vT (by omega)|refine⟨by omega,?_⟩|fail
     have o:L k++V.done.take (j+1)=W++[x]:=(by rw[gP e,<-adH,<-B,hx]);exact fo _ _ _ (j+1) noF _ (by omega) (by omega) (by repeat' first|exact C1|refine xqI rfl rfl ?_|refine xqP (by omega) rfl rfl ?_|fail) aI ⟨by omega,by rw[aA.aB (by omega)];exact b,by rw[aA.aB (by omega)];exact g,by rw[o,SS];exact aA.aJ,by rw[aA.aB (by omega)];exact p⟩
    ·have cr:j=V.done.length:=(by omega);have o:W=L (k+1):=(by rw[B,cx,ac6 (by omega),hV]);rw[o] at a;repeat' first|apply vI<;>(simp only[go_sem,b,E,ao];try simp (disch:=omega) only[Iw])|apply vF (by omega)|refine⟨by omega,?_⟩|fail
     exact cq _ _ _ (k+1) noF _ (by omega) (by omega) (by repeat' first|exact C1|refine xqI rfl rfl ?_|refine xqP (by omega) rfl rfl ?_|fail) aI ⟨by omega,b,g,a,p⟩
  ·have dv:k=N:=(by omega);have fp:dG (J k)=(dN s).wait:=(by rw[ai,ab,dv];show _=dG (m7 s);unfold m7;rw[Y,hN]);have fs:dG (L k)=(dN s).done:=(by rw[aj,dv];show _=dG (pH s);unfold pH;rw[hN]);rw[fp,fs] at a;repeat' first|apply vI<;>(simp only[go_sem,b,g,a,E,M])|apply vF (by omega)|fail
   refine aC.Jh (args':=[dA (eSt (dN s))]) (without (fun j=>j=D) H2) (fun j=>j=D) rfl (fun i d0 d h1 h2=> ?_) kK ?_
   ·cases i with
    |succ i=>simp at h1
    |zero=>simp only[List.getElem?_cons_zero,Option.some.injEq] at h1 h2;subst h1;subst h2;apply oH;show CvL _ _ _ _ [.isl (s.words.map aF),.isl (s.holds.map aF),.isl ((dN s).asked.map aF),.isl ((dN s).wait.map aL),.isl ((dN s).done.map aL),.isl (s.told.map aL)] _;rw[<-y];exact aH (bE rfl) (aH (bE rfl) (aH (cM aP p (by rw[bb 3 (by omega)]) (by rw[bb 3 (by omega)];exact cc) rfl) (aH (bE rfl) (aH (bE rfl) (aH (bE rfl) cG)))))
   have w1:(without (fun j=>j=D) H2) 1=some ⟨6,1,[[.osl 0 0 0 0 0,.osl 0 0 0 0 0,.osl 0 0 0 0 0,.osl 0 0 0 0 0,.osl 0 0 0 0 0,.osl 0 0 0 0 0]]⟩:=(by rw[dM (F:=fun j=>j=D) (by omega)];exact g);refine bm O fun H5 gi b0 b1 b2 b3 b4 b5 k0 k1 k2 k3 k4 k5 u1 u2 u3 u4 u5 u6 u7 o0 o1 o2 o3 o4 o5 fr=> ?_;have w2:=(fr 1 (by omega)).trans w1;simp only[go_sem,w2];try apply kI
   repeat' first|apply vI<;>(simp only[go_sem])|fail
   refine HG hQ (dA (eSt (dN s))) _ (iM (m:=1) rfl aA.aJ rfl) (oH (aH ((o0.of (aA.aB (by omega))).frz aP (by simp)) (aH ((o1.of (aA.aB (by omega))).frz aP (by simp)) (aH ((o2.of (aA.aB (by omega))).frz aP (by simp)) (aH ((o3.of (aA.aB (by omega))).frz bC (by simp)) (aH ((o4.of (aA.aB (by omega))).frz bC (by simp)) (aH ((o5.of (aA.aB (by omega))).frz bC (by simp)) cG))))))) rfl rfl
theorem oV{c:Cfg}{s:CSt}(o:jJ c)(D:I0 s)(h:K (dB (cyB c s)) H nx):ag1 ED [dA (bO c),dA (dX s)] H nx K:=by
 refine aC.pure (args0:=[dA (bO c),dA (dX s)]) (R:=fun rr=>rr=dB (cyB c s)) ?_ rfl (aM ⟨aE rfl,aE rfl,trivial⟩) (fun r hr=>hr▸h);clear h;refine aR.mk Tryz.func48 (by kernel_rfl) ow rfl fun Q E=> ?_;unfold AZ;have ao:=D.w;have bb:=D.h;have bk:=D.pl;have bp:=D.sl;have a: ¬(bG c/\COk c s)->dB false=dB (cyB c s):=fun h=>congrArg dB (Io h).symm;by_cases z:bG c
 case neg=>
  repeat' first| (first|apply vI|apply mA o)<;>(simp only[go_sem,eq_false z])|fail
  all_goals exact aQ E _ rfl rfl (a fun h=>z h.1)
 have U:=eq_true z;by_cases F:pT s.words s.holds
 case neg=>
  repeat' first| (first|apply vI|apply mA o|apply rL (show s.words.length<2^40 by omega) (show s.holds.length<2^40 by omega))<;>(simp only[go_sem,U,eq_false F])|fail
  all_goals exact aQ E _ rfl rfl (a fun h=>F (jq h.2.atm))
 have e2:=eq_true F;by_cases d:(s.bJ.length:Int)=3/\(s.bR.length:Int)=4
 case neg=>
  have G: ¬(bG c/\COk c s):=fun⟨_,h⟩=>d ⟨by rw[h.pl];rfl,by rw[h.sl];rfl⟩;repeat' first| (first|apply vI|refine Y6 (fun h=> ?_) fun h=> ?_|apply mA o|apply rL (show s.words.length<2^40 by omega) (show s.holds.length<2^40 by omega))<;>(simp only[go_sem,U,e2])|apply vT (by omega)|fail
  all_goals first|exact aQ E _ rfl rfl (a G)| (exfalso;omega)
 have e:s.bR.length=4:=by omega
 have d:s.bJ.length=3:=by omega
 repeat' first| (first|apply vI|apply Y5 (by omega)|apply mA o|apply rL (show s.words.length<2^40 by omega) (show s.holds.length<2^40 by omega))<;>(simp only[go_sem,U,e2,d,e])|apply vF (by omega)|fail
 obtain⟨n,A⟩: ∃n:Nat->Int,n=fun k=>((aN s k).out.length:Int):=⟨_,rfl⟩
 obtain⟨l,B⟩: ∃l:Nat->Int,l=fun k=>(((aU s k).pipe.length:Int)+(aU s k).done.length):=⟨_,rfl⟩
 (refine aK.loop (α:={k:Nat//k<=3/\(∀i,i<k->iK c i (aN s i))}) (fun u=>en [(6,dI u.1),(5,dI (fD n u.1)),(3,.one (.c (.dQ (dX s)))),(2,.one (.c (.dQ (bO c))))]) (fun _=>.nil) _ (fun u=>3-u.1) ⟨0,by omega,(by intros;first|trivial|omega)⟩ (bI (ac1 _) (by repeat' first|exact C1|refine xqI rfl rfl ?_| (with_reducible apply C2)| ((with_reducible apply D0);exact CI rfl (by simp) rfl rfl rfl)|fail)) ?_);(rintro⟨k,hk,hinv⟩ KL W);have br:=JS (f:=n) (m:=4) (by omega) k fun j hj=>by have:=(hinv j (by omega)).ol;rw[A];dsimp only;omega
 by_cases I:k<3
 ·obtain⟨P,X⟩: ∃P,P=aN s k:=⟨_,rfl⟩
  have N:s.bJ.getD k default=P:=X.symm;obtain⟨p,q⟩:=D.port k;by_cases b:iK c k (aN s k)
  ·have g:=Hs b;have Y:=b.ol;rw[<-X] at Y;have t:fD n (k+1)=fD n k+P.out.length:=(by rw[fD,A,X]);have J:=bT hinv b;repeat' first| (first|apply vI|apply MW z d I p q)<;>(simp only[go_sem,N,d,g];try simp (disch:=omega) only[Iw])|apply vT (by omega)|refine⟨by omega,?_⟩|fail
   all_goals (rw[<-t];(refine W _ _ _ ⟨k+1,by omega,J⟩ (by omega) (by(try dsimp only);omega) (bI (ac1 _) (by repeat' first|exact C1|refine xqI rfl rfl ?_|fail))))
  ·have g:=TH b;repeat' first| (first|apply vI|apply MW z d I p q)<;>(simp only[go_sem,N,d,g])|apply vT (by omega)|fail
   all_goals exact aQ E _ rfl rfl (a fun h=>b (h.2.port k I))
 ·have Z:k=3:=by omega
  subst Z;have L:BK c s:=⟨d,hinv⟩
  have ca:fD l 0=0:=rfl;repeat' first|apply vI<;>(simp only[go_sem])|apply vF (by omega)|fail
  refine aK.loop (α:={k:Nat//k<=4/\ ∀i,i<k->p9 c s i}) (fun u=>en [(7,dI u.1),(5,dI (fD n 3-fD l u.1)),(3,.one (.c (.dQ (dX s)))),(2,.one (.c (.dQ (bO c))))]) (fun _=>.nil) _ (fun u=>4-u.1) ⟨0,by omega,fun i hi=>by omega⟩ (bI (ac1 _) (by repeat' first|exact C1|refine xqI rfl rfl ?_| (with_reducible apply C2)| ((with_reducible apply C0);(exact CG (by((try dsimp only);exact diE (by omega))) rfl))| ((with_reducible apply D0);apply CJ)|fail)) ?_;rintro⟨k,hk,v⟩ KM aa;have cc:=JS (f:=l) (m:=4) (by omega) k fun j hj=>by have h1:=(v j (by omega)).pl;have h2:=(v j (by omega)).dl;rw[B];dsimp only;omega
  by_cases x:k<4
  ·obtain⟨V,hV⟩: ∃V,V=aU s k:=⟨_,rfl⟩
   have O:s.bR.getD k default=V:=hV.symm;obtain⟨p,q,S⟩:=D.slv k;by_cases b:p9 c s k
   ·have ab:=b.pl;have ad:=b.dl;rw[<-hV] at ab ad;have g:=Ik b;have t:fD n 3-fD l (k+1)=fD n 3-fD l k-V.pipe.length-V.done.length:=by have h1:l k=V.pipe.length+V.done.length:=(by rw[B,hV]);have h2:fD l (k+1)=fD l k+l k:=rfl;omega
    have J:=bT v b;repeat' first| (first|apply vI|apply LD z L e x p q S)<;>(simp only[go_sem,O,e,g];try simp (disch:=omega) only[Iw])|apply vT (by omega)|refine⟨by omega,?_⟩|fail
    all_goals (rw[<-t];exact aa _ _ _ ⟨k+1,by omega,J⟩ (by omega) (by(try dsimp only);omega) (bI (ac1 _) (by repeat' first|exact C1|refine xqI rfl rfl ?_|fail)))
   ·have g:=Q6 b;repeat' first| (first|apply vI|apply LD z L e x p q S)<;>(simp only[go_sem,O,e,g])|apply vT (by omega)|fail
    all_goals exact aQ E _ rfl rfl (a fun h=>b (h.2.slv k x))
  ·have ai:k=4:=(by omega);subst ai;have T:=tz D L e v;by_cases M:fD n 3=fD l 4
   case neg=>
    have G: ¬(bG c/\COk c s):=fun⟨_,h⟩=>M (by
     have:=h.count
     unfold lM at this
     rw[A,B]
     simp only[fD]
     omega)
    have y:(fD n 3-fD l 4=0)=False:=eq_false (by omega);repeat' first|apply vI<;>(simp only[go_sem,y])|apply vF (by omega)|fail
    all_goals exact aQ E _ rfl rfl (a G)
   have y:(fD n 3-fD l 4=0)=True:=eq_true (by omega);have aj:=Sk (s:=dN s) z;repeat' first| (first|apply vI|apply ZX T|apply yq o T.st)<;>(simp only[go_sem,y,aj])|apply vF (by omega)|fail
   all_goals (
    refine aQ E _ rfl rfl (congrArg dB ?_)
    by_cases C:kM c (dN s)
    ·rw[Ry C];refine(Xu z ⟨⟨by have:=F.1.1;omega,F.1.2,by have:=F.2.1;omega,F.2.2⟩,d,e,hinv,v,?_,C⟩).symm;unfold lM;rw[A,B] at M;simp only[fD] at M;omega
    ·rw[P2 C,Io fun h=>C h.2.st])
end
end Go.Proofs.YtlncecohbakleaaGreat
