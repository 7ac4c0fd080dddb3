/- Texts laid together by a program: rules, contracts and the walk that leads to the law. -/
import Derived.Test.YtmccpdapaccnoaaGreatPD25
import Derived.Test.YtmccpdapaccnoaaGreatPD22
import Derived.Test.YtmccpdapaccnoaaGreatPD24
import Derived.Test.YtmccpdapaccnoaaGreatPD19
import Derived.Test.YtmccpdapaccnoaaGreatPD11
import Derived.Test.YtmccpdapaccnoaaGreatPD14
set_option linter.unusedVariables false
set_option linter.unusedSimpArgs false
set_option linter.unusedSectionVars false
set_option maxRecDepth 100000
set_option maxHeartbeats 8000000
namespace Go.AM
theorem a7H {l:List Job} {x:Job}:jX (l++[x])=BM (jX l) x:=by unfold jX;rw[btR];rfl
theorem bbP {l:List Job}:(jX l).length=l.length:=(fH l).length_eq
end Go.AM
namespace Go.Proofs.YtmccpdapaccnoaaGreat
open Go Go.AM
attribute [local irreducible] aM wv aB vd wvH
section
variable {H : aA} {nx : Nat} {K : D → aA → Nat → Prop}
theorem bdR {s:CSt} (hf:bdV s) (h:K (boR (eSt (cX s))) H nx):aB Tryz.prog aIZ [boR (eI s)] H nx K:=by
 refine aB.fresh (R:=fun rr=>rr=boR (eSt (cX s))) ?_ rfl (fun r hr=>hr▸h);clear h;refine aLK rfl fun Q hQ=> ?_;unfold aJA;have hpl:=hf.pl;have hsl:=hf.sl;obtain⟨N,hN⟩: ∃N,N=s.dD.length:=⟨_,rfl⟩
 rw[←hN] at hsl;have hN':=hN.symm;have hst:=hf.st;have hwl:s.words.length<2^21:=hst.words;have hhl:s.holds.length<2^21:=hst.holds;have htl:s.told.length<2^21:=hst.told;have hSr: ∀j∈s.told,j.rsp.data.length<2^21:=fun j hj=>hst.data j (brH _ hj);repeat' first| (first|apply bn1|apply aKA (w:=s.words) (u:=s.holds) (by omega) (by omega)|apply aI1 (l:=s.told) (by omega) hSr)<;>(simp only[go_sem,umB,umS,umM,muM])|fail
 apply aM.EJ 1;refine aM.tW _ _ noF (fun t=>.inl rfl) (KO (i:=9) (o':=⟨6,1,[[.isl (s.words.map aJ),.isl (s.holds.map aJ),.osl 1 12 0 0 0,.isl ((jX []).map aS),.isl ((jX []).map aS),.isl (s.told.map aS)]]⟩) (by rw[aA.aC (by omega)];exact aA.bH) (aP (aH (bB rfl) (aH (bB rfl) (aH (.VS ..) (aH xG (aH xG (aH (bB rfl) eP)))))))) ?_;refine aM.TF fun bqO hG0=> ?_;have c0:bqO 0=some ⟨5,1,[eI s]⟩:=by rw[hG0];rfl
 have c1:bqO 1=some ⟨6,1,[[.osl 0 0 0 0 0,.osl 0 0 0 0 0,.osl 0 0 0 0 0,.osl 0 0 0 0 0,.osl 0 0 0 0 0,.osl 0 0 0 0 0]]⟩:=by rw[hG0];rfl
 have bf1:bqO 9=some ⟨6,1,[[.isl (s.words.map aJ),.isl (s.holds.map aJ),.osl 1 12 0 0 0,.isl ((jX []).map aS),.isl ((jX []).map aS),.isl (s.told.map aS)]]⟩:=by rw[hG0];exact aA.bH
 have c12:bqO 12=some ⟨1,0,[]⟩:=by rw[hG0];rfl
 clear hG0;obtain⟨A,hA0⟩: ∃A:Nat→List Int,A=fun k=>(s.bM.take k).map (·.next):=⟨_,rfl⟩
 have hAl: ∀k,k≤3→(A k).length=k:=fun k hk=>by rw[hA0];simp;omega
 have hAs: ∀k,k<3→A (k+1)=A k++[(s.bM.getD k default).next]:=fun k hk=>by rw[hA0];dsimp only;rw[brQ (by omega),bqX];simp[List.getD,show k<s.bM.length by omega]
 have hA3:A 3=(cX s).asked:=by rw[hA0];dsimp only;rw[boL (by omega)];rfl
 have hqs: ∀k,k<3→(jJ s k).length≤3:=fun k hk=>by have:=hf.q k hk;simpa [jJ] using this
 have hvs: ∀k,k<N→(hJ s k).length≤3∧(aL s k).done.length≤3:=fun k hk=>⟨by have:=(hf.v k (by omega)).1;simpa [hJ] using this,(hf.v k (by omega)).2⟩
 obtain⟨bf5,hQJ⟩: ∃bf5:Nat→List Job,bf5=fun k=>(List.range k).flatMap (jJ s):=⟨_,rfl⟩
 have hQJs: ∀k,bf5 (k+1)=bf5 k++jJ s k:=fun k=>by rw[hQJ];exact CL
 have hQJl: ∀k,k≤3→(bf5 k).length≤3*k:=fun k hk=>by rw[hQJ];exact QU k fun j hj=>hqs j (by omega)
 have hQJ0:bf5 0=[]:=by rw[hQJ];rfl
 refine aM.gP (β:=Nat×Nat×Nat) (fun u=>en [(4,boP u.1),(3,.one (.c (.ptr 6 9 0 0))),(2,.one (.c (.ptr 6 1 0 0))),(1,.one (.c (.ptr 5 0 0 0)))])
  (fun u H1 bp0=>u.1≤3∧H1 0=some ⟨5,1,[eI s]⟩∧H1 1=some ⟨6,1,[[.osl 0 0 0 0 0,.osl 0 0 0 0 0,.osl 0 0 0 0 0,.osl 0 0 0 0 0,.osl 0 0 0 0 0,.osl 0 0 0 0 0]]⟩∧H1 9=some ⟨6,1,[[.isl (s.words.map aJ),.isl (s.holds.map aJ),.osl 1 u.2.1 0 u.1 u.2.2,.isl ((jX (bf5 u.1)).map aS),.isl ((jX []).map aS),.isl (s.told.map aS)]]⟩∧(∃m,H1 u.2.1=some ⟨1,m,(A u.1).map aJ⟩∧u.1≤u.2.2∧u.2.2≤m)∧12≤u.2.1∧u.2.1<bp0) (fun u=>3-u.1) (0,12,0)
  ⟨noF,_,by repeat' first|exact bo2|refine xqI rfl rfl ?_|refine xqP (by omega) rfl rfl ?_|fail,aK,by dsimp only;omega,c0,c1,by dsimp only;rw[hQJ0];exact bf1,⟨0,by rw[c12,hA0];rfl,m5 _,m5 _⟩,by dsimp only;omega,by dsimp only;omega⟩ ?_
 clear c0 c1 bf1 c12;rintro⟨k,ia,ca⟩ H1 nx1 hnx1 ⟨hk,bqC,g1,bp5,⟨m,ga,ga1,ga2⟩,hia1,hia2⟩ bpQ hKL;dsimp only at hk bp5 ga ga1 ga2 hia1 hia2;have hA:bQ nx1 [0,1,9,ia]:=AM.apart (by simp;omega) (by simp;omega);simp only[bQ,eZ] at hA;have hAk:=hAl k hk;by_cases hlt:k<3
 ·obtain⟨P,boS⟩: ∃P,P=aF s k:=⟨_,rfl⟩
  have hP':s.bM.getD k default=P:=boS.symm;have hPq:=hf.q k hlt;rw[←boS] at hPq;have a6: ∀G:aA,msk (nx1+5) [8] G 9=G 9:=fun G=>by unfold msk;rw[if_neg (by simp)]
  rw[←hAk] at bp5 ga1;repeat' first|apply bn1<;>(simp only[go_sem,boC,bqC,g1,bp5,a6,ga,hpl,hP',hA])|apply bn2 (by omega)| (with_reducible first|refine fun(cap:Nat) (hcap:_≤cap)=> ?_|refine fun(hcp:_≤cap)=> ?_)|refine⟨by omega,?_⟩|fail
  refine aM.TF fun aHF hG1=> ?_;have hc:A k++[P.next]=A (k+1):=by rw[hAs k hlt,hP']
  have d0:aHF 0=some ⟨5,1,[eI s]⟩:=by rw[hG1];simp[aA.set,aA.del,hA,bqC]
  have d1:aHF 1=some ⟨6,1,[[.osl 0 0 0 0 0,.osl 0 0 0 0 0,.osl 0 0 0 0 0,.osl 0 0 0 0 0,.osl 0 0 0 0 0,.osl 0 0 0 0 0]]⟩:=by rw[hG1];simp[aA.set,aA.del,hA,g1]
  have aHG:aHF 9=some ⟨6,1,[[.isl (s.words.map aJ),.isl (s.holds.map aJ),.osl 1 (nx1+14) 0 (k+1) cap,.isl ((jX (bf5 k)).map aS),.isl ((jX []).map aS),.isl (s.told.map aS)]]⟩:=by rw[hG1,hAk];exact aA.bH
  have boR:aHF (nx1+14)=some ⟨1,cap,(A (k+1)).map aJ⟩:=by rw[hG1,aA.aC (by omega),←hc];exact aA.bH
  clear hG1 bqC g1 bp5 ga hA
  refine aM.gP (β:=Nat) (fun j=>en [(5,boP j),(4,boP k),(3,.one (.c (.ptr 6 9 0 0))),(2,.one (.c (.ptr 6 1 0 0))),(1,.one (.c (.ptr 5 0 0 0)))])
   (fun j H2 _=>j≤P.queue.length∧H2 0=some ⟨5,1,[eI s]⟩∧H2 1=some ⟨6,1,[[.osl 0 0 0 0 0,.osl 0 0 0 0 0,.osl 0 0 0 0 0,.osl 0 0 0 0 0,.osl 0 0 0 0 0,.osl 0 0 0 0 0]]⟩∧H2 9=some ⟨6,1,[[.isl (s.words.map aJ),.isl (s.holds.map aJ),.osl 1 (nx1+14) 0 (k+1) cap,.isl ((jX (bf5 k++(jJ s k).take j)).map aS),.isl ((jX []).map aS),.isl (s.told.map aS)]]⟩∧H2 (nx1+14)=some ⟨1,cap,(A (k+1)).map aJ⟩) (fun j=>P.queue.length-j) 0
   ⟨noF,_,by repeat' first|exact bo2|refine xqI rfl rfl ?_|refine xqP (by omega) rfl rfl ?_|fail,aK,by omega,d0,d1,by rw[List.take_zero,bq6];exact aHG,boR⟩ ?_
  clear d0 d1 aHG boR;rintro j H2 nx2 hnx2 ⟨hj,bqC,g1,bp5,ga⟩ bqG hKM;obtain⟨W,aYL⟩: ∃W,W=bf5 k++(jJ s k).take j:=⟨_,rfl⟩
  rw[←aYL] at bp5;have hWl:(jX W).length<2^21:=by have h1:=hQJl k hk;have h2:=hqs k hlt;rw[bbP,aYL,t2,CG];omega
  have hA:bQ nx2 [0,1,9,nx1+14]:=AM.apart (by simp) (by simp;omega);simp only[bQ,eZ] at hA;by_cases hlt2:j<P.queue.length
  ·obtain⟨n,hn⟩: ∃n,P.queue.getD j default=n:=⟨_,rfl⟩
   repeat' first| (first|apply bn1|apply aR1 hWl)<;>(simp only[go_sem,boC,bqC,g1,bp5,hpl,hP',hn,hA];try simp (disch:=omega) only[Iw])|apply bn2 (by omega)|refine⟨by omega,?_⟩|fail
   have hWe:bf5 k++(jJ s k).take (j+1)=W++[(⟨k,n,oW⟩:Job)]:=(by rw[nK (by simpa [jJ,←boS] using hlt2),←C0,←aYL];congr 2;rw[←hn];simp[jJ,←boS,List.getD,hlt2]);exact hKM _ _ _ (j+1) noF _ (by omega) (by omega) (by repeat' first|exact bo2|refine xqI rfl rfl ?_|refine xqP (by omega) rfl rfl ?_|fail) aK ⟨by omega,by rw[aA.aC (by omega)];exact bqC,by rw[aA.aC (by omega)];exact g1,by rw[hWe,a7H];exact aA.bH,by rw[aA.aC (by omega)];exact ga⟩
  ·have hj2:j=P.queue.length:=(by omega);have hWe:W=bf5 (k+1):=(by rw[aYL,hQJs,boL (by simp[jJ,←boS];omega)]);repeat' first|apply bn1<;>(simp only[go_sem,bqC,hpl,hP'];try simp (disch:=omega) only[Iw])|apply bn3 (by omega)|refine⟨by omega,?_⟩|fail
   exact hKL _ _ _ (k+1,nx1+14,cap) noF _ (by omega) (by dsimp only;omega) (by repeat' first|exact bo2|refine xqI rfl rfl ?_|refine xqP (by omega) rfl rfl ?_|fail) aK ⟨by dsimp only;omega,bqC,g1,by dsimp only;rw[←hWe];exact bp5,⟨cap,ga,by dsimp only;omega,m5 _⟩,by dsimp only;omega,by dsimp only;omega⟩
 ·have hk3:k=3:=by omega
  subst hk3;repeat' first|apply bn1<;>(simp only[go_sem,bqC,g1,bp5])|apply bn3 (by omega)|fail
  obtain⟨bf6,hPJ⟩: ∃bf6:Nat→List Job,bf6=fun k=>bf5 3++(List.range k).flatMap (hJ s):=⟨_,rfl⟩
  have hPJs: ∀k,bf6 (k+1)=bf6 k++hJ s k:=fun k=>by rw[hPJ];dsimp only;rw[CL,C0]
  have hPJl: ∀k,k≤N→(bf6 k).length≤9+3*k:=fun k hk=>by have h1:=hQJl 3 (by omega);have h2:=QU (f:=hJ s) (m:=3) k fun j hj=>(hvs j (by omega)).1;rw[hPJ];dsimp only;rw[t2];omega
  have hPJ0:bf6 0=bf5 3:=by rw[hPJ];simp
  obtain⟨bf7,hDJ⟩: ∃bf7:Nat→List Job,bf7=fun k=>(List.range k).flatMap fun k=>(aL s k).done:=⟨_,rfl⟩
  have hDJs: ∀k,bf7 (k+1)=bf7 k++(aL s k).done:=fun k=>by rw[hDJ];exact CL
  have hDJl: ∀k,k≤N→(bf7 k).length≤3*k:=fun k hk=>by rw[hDJ];exact QU k fun j hj=>(hvs j (by omega)).2
  have hDJ0:bf7 0=[]:=by rw[hDJ];rfl
  refine aM.gP (β:=Nat) (fun k=>en [(6,boP k),(3,.one (.c (.ptr 6 9 0 0))),(2,.one (.c (.ptr 6 1 0 0))),(1,.one (.c (.ptr 5 0 0 0)))])
   (fun k H2 _=>k≤N∧H2 0=some ⟨5,1,[eI s]⟩∧H2 1=some ⟨6,1,[[.osl 0 0 0 0 0,.osl 0 0 0 0 0,.osl 0 0 0 0 0,.osl 0 0 0 0 0,.osl 0 0 0 0 0,.osl 0 0 0 0 0]]⟩∧H2 9=some ⟨6,1,[[.isl (s.words.map aJ),.isl (s.holds.map aJ),.osl 1 ia 0 3 ca,.isl ((jX (bf6 k)).map aS),.isl ((jX (bf7 k)).map aS),.isl (s.told.map aS)]]⟩∧H2 ia=some ⟨1,m,(A 3).map aJ⟩) (fun k=>N-k) 0
   ⟨noF,_,by repeat' first|exact bo2|refine xqI rfl rfl ?_|refine xqP (by omega) rfl rfl ?_|fail,aK,by omega,bqC,g1,by rw[hPJ0,hDJ0];exact bp5,ga⟩ ?_
  clear bqC g1 bp5 ga hA;rintro k H2 nx2 hnx2 ⟨hk4,bqC,g1,bp5,ga⟩ bqG hKM;have hA:bQ nx2 [0,1,9,ia]:=AM.apart (by simp;omega) (by simp;omega);simp only[bQ,eZ] at hA;by_cases hlt4:k<N
  ·obtain⟨V,hV⟩: ∃V,V=aL s k:=⟨_,rfl⟩
   have hV':s.dD.getD k default=V:=hV.symm;obtain⟨hV1,hV2⟩:=hvs k hlt4;have hV1':V.pipe.length≤3:=(by simpa [hJ,←hV] using hV1);rw[←hV] at hV2;repeat' first|apply bn1<;>(simp only[go_sem,bqC,g1,bp5,hN'])|apply bn2 (by omega)|fail
   refine aM.gP (β:=Nat) (fun j=>en [(7,boP j),(6,boP k),(3,.one (.c (.ptr 6 9 0 0))),(2,.one (.c (.ptr 6 1 0 0))),(1,.one (.c (.ptr 5 0 0 0)))])
    (fun j H3 _=>j≤V.pipe.length∧H3 0=some ⟨5,1,[eI s]⟩∧H3 1=some ⟨6,1,[[.osl 0 0 0 0 0,.osl 0 0 0 0 0,.osl 0 0 0 0 0,.osl 0 0 0 0 0,.osl 0 0 0 0 0,.osl 0 0 0 0 0]]⟩∧H3 9=some ⟨6,1,[[.isl (s.words.map aJ),.isl (s.holds.map aJ),.osl 1 ia 0 3 ca,.isl ((jX (bf6 k++(hJ s k).take j)).map aS),.isl ((jX (bf7 k)).map aS),.isl (s.told.map aS)]]⟩∧H3 ia=some ⟨1,m,(A 3).map aJ⟩) (fun j=>V.pipe.length-j) 0
    ⟨noF,_,by repeat' first|exact bo2|refine xqI rfl rfl ?_|refine xqP (by omega) rfl rfl ?_|fail,aK,by omega,bqC,g1,by rw[List.take_zero,bq6];exact bp5,ga⟩ ?_
   clear bqC g1 bp5 ga;rintro j H3 nx3 hnx3 ⟨hj,bqC,g1,bp5,ga⟩ bqR hKN;obtain⟨W,aYL⟩: ∃W,W=bf6 k++(hJ s k).take j:=⟨_,rfl⟩
   rw[←aYL] at bp5;have hWl:(jX W).length<2^21:=(by have h1:=hPJl k hk4;rw[bbP,aYL,t2,CG];omega);have hA3:bQ nx3 [0,1,9,ia]:=AM.apart (by simp;omega) (by simp;omega);simp only[bQ,eZ] at hA3;by_cases hlt2:j<V.pipe.length
   ·obtain⟨x,hx⟩: ∃x,V.pipe.getD j default=x:=⟨_,rfl⟩
    repeat' first| (first|apply bn1|apply aR1 hWl)<;>(simp only[go_sem,boC,bqC,g1,bp5,hN',hV',hx,hA3];try simp (disch:=omega) only[Iw])|apply bn2 (by omega)|refine⟨by omega,?_⟩|fail
    have hWe:bf6 k++(hJ s k).take (j+1)=W++[(⟨x.who,x.n,oW⟩:Job)]:=(by rw[nK (by simpa [hJ,←hV] using hlt2),←C0,←aYL];congr 2;rw[←hx];simp[hJ,←hV,List.getD,hlt2]);exact hKN _ _ _ (j+1) noF _ (by omega) (by omega) (by repeat' first|exact bo2|refine xqI rfl rfl ?_|refine xqP (by omega) rfl rfl ?_|fail) aK ⟨by omega,by rw[aA.aC (by omega)];exact bqC,by rw[aA.aC (by omega)];exact g1,by rw[hWe,a7H];exact aA.bH,by rw[aA.aC (by omega)];exact ga⟩
   ·have hj2:j=V.pipe.length:=(by omega);have hWe:W=bf6 (k+1):=(by rw[aYL,hPJs,boL (by simp[hJ,←hV];omega)]);rw[hWe] at bp5;repeat' first|apply bn1<;>(simp only[go_sem,bqC,hN',hV'])|apply bn3 (by omega)|refine⟨by omega,?_⟩|fail
    refine aM.gP (β:=Nat) (fun j=>en [(8,boP j),(6,boP k),(3,.one (.c (.ptr 6 9 0 0))),(2,.one (.c (.ptr 6 1 0 0))),(1,.one (.c (.ptr 5 0 0 0)))])
     (fun j H3 _=>j≤V.done.length∧H3 0=some ⟨5,1,[eI s]⟩∧H3 1=some ⟨6,1,[[.osl 0 0 0 0 0,.osl 0 0 0 0 0,.osl 0 0 0 0 0,.osl 0 0 0 0 0,.osl 0 0 0 0 0,.osl 0 0 0 0 0]]⟩∧H3 9=some ⟨6,1,[[.isl (s.words.map aJ),.isl (s.holds.map aJ),.osl 1 ia 0 3 ca,.isl ((jX (bf6 (k+1))).map aS),.isl ((jX (bf7 k++V.done.take j)).map aS),.isl (s.told.map aS)]]⟩∧H3 ia=some ⟨1,m,(A 3).map aJ⟩) (fun j=>V.done.length-j) 0
     ⟨noF,_,by repeat' first|exact bo2|refine xqI rfl rfl ?_|refine xqP (by omega) rfl rfl ?_|fail,aK,by omega,bqC,g1,by rw[List.take_zero,bq6];exact bp5,ga⟩ ?_
    clear bqC g1 bp5 ga hA3 hWl aYL hWe W hj hj2 hlt2;rintro j bqL nx4 hnx4 ⟨hj,bqC,g1,bp5,ga⟩ aNB hKO;obtain⟨W,aYL⟩: ∃W,W=bf7 k++V.done.take j:=⟨_,rfl⟩
    rw[←aYL] at bp5;have hWl:(jX W).length<2^21:=(by have h1:=hDJl k hk4;rw[bbP,aYL,t2,CG];omega);have hA3:bQ nx4 [0,1,9,ia]:=AM.apart (by simp;omega) (by simp;omega);simp only[bQ,eZ] at hA3;by_cases hlt2:j<V.done.length
    ·obtain⟨x,hx⟩: ∃x,V.done.getD j default=x:=⟨_,rfl⟩
     repeat' first| (first|apply bn1|apply aS4 (l:=jX W) (j:=x) hWl)<;>(simp only[go_sem,boC,bqC,g1,bp5,hN',hV',hx,hA3];try simp (disch:=omega) only[Iw])|apply bn2 (by omega)|refine⟨by omega,?_⟩|fail
     have hWe:bf7 k++V.done.take (j+1)=W++[x]:=(by rw[nK hlt2,←C0,←aYL,hx]);exact hKO _ _ _ (j+1) noF _ (by omega) (by omega) (by repeat' first|exact bo2|refine xqI rfl rfl ?_|refine xqP (by omega) rfl rfl ?_|fail) aK ⟨by omega,by rw[aA.aC (by omega)];exact bqC,by rw[aA.aC (by omega)];exact g1,by rw[hWe,a7H];exact aA.bH,by rw[aA.aC (by omega)];exact ga⟩
    ·have hj2:j=V.done.length:=(by omega);have hWe:W=bf7 (k+1):=(by rw[aYL,hDJs,boL (by omega),hV]);rw[hWe] at bp5;repeat' first|apply bn1<;>(simp only[go_sem,bqC,hN',hV'];try simp (disch:=omega) only[Iw])|apply bn3 (by omega)|refine⟨by omega,?_⟩|fail
     exact hKM _ _ _ (k+1) noF _ (by omega) (by omega) (by repeat' first|exact bo2|refine xqI rfl rfl ?_|refine xqP (by omega) rfl rfl ?_|fail) aK ⟨by omega,bqC,g1,bp5,ga⟩
  ·have hk5:k=N:=(by omega);have hW3:jX (bf6 k)=(cX s).wait:=(by rw[hPJ,hQJ,hk5];show _=jX (qU s);unfold qU;rw[hpl,hN]);have hD3:jX (bf7 k)=(cX s).done:=(by rw[hDJ,hk5];show _=jX (uQ s);unfold uQ;rw[hN]);rw[hW3,hD3] at bp5;repeat' first|apply bn1<;>(simp only[go_sem,bqC,g1,bp5,hN',hA])|apply bn3 (by omega)|fail
   refine aB.ao4 (args':=[boR (eSt (cX s))]) (without (fun j=>j=ia) H2) (fun j=>j=ia) rfl (fun i d0 d h1 h2=> ?_) kS ?_
   ·cases i with
    |succ i=>simp at h1
    |zero=>simp only[List.getElem?_cons_zero,Option.some.injEq] at h1 h2;subst h1;subst h2;apply lY;show CvL _ _ _ _ [.isl (s.words.map aJ),.isl (s.holds.map aJ),.isl ((cX s).asked.map aJ),.isl ((cX s).wait.map aS),.isl ((cX s).done.map aS),.isl (s.told.map aS)] _;rw[←hA3];exact aH (bB rfl) (aH (bB rfl) (aH (bW bF ga (by rw[hAl 3 (by omega)]) (by rw[hAl 3 (by omega)];exact ga1) rfl) (aH (bB rfl) (aH (bB rfl) (aH (bB rfl) eP)))))
   have bqH:(without (fun j=>j=ia) H2) 1=some ⟨6,1,[[.osl 0 0 0 0 0,.osl 0 0 0 0 0,.osl 0 0 0 0 0,.osl 0 0 0 0 0,.osl 0 0 0 0 0,.osl 0 0 0 0 0]]⟩:=(by rw[iI (F:=fun j=>j=ia) (by omega)];exact g1);refine aQR hst fun aZJ nx5 boW b1 b2 boX boY boZ k0 k1 k2 k3 k4 k5 aUV aUW aIG aII aUX aIH aUY o0 o1 o2 bqD bqE bqF fr=> ?_;have bqI:=(fr 1 (by omega)).trans bqH;simp only[go_sem,bqI];try apply bn0
   repeat' first|apply bn1<;>(simp only[go_sem])|fail
   refine V4 hQ (boR (eSt (cX s))) _ (fZ (m:=1) rfl aA.bH rfl) (lY (aH ((o0.of (aA.aC (by omega))).frz bF (by simp)) (aH ((o1.of (aA.aC (by omega))).frz bF (by simp)) (aH ((o2.of (aA.aC (by omega))).frz bF (by simp)) (aH ((bqD.of (aA.aC (by omega))).frz dZ (by simp)) (aH ((bqE.of (aA.aC (by omega))).frz dZ (by simp)) (aH ((bqF.of (aA.aC (by omega))).frz dZ (by simp)) eP))))))) rfl rfl
end
noncomputable def cdB (c:Cfg) (s:CSt):Bool:=cyB c s&&decide ((s.told.length:Int)=jS (GA c) 3)
section
variable {H : aA} {nx : Nat} {K : D → aA → Nat → Prop}
theorem bd7 {c:Cfg} {s:CSt} (hcf:jO c) (hf:beL s) (h:K (dB (cyB c s)) H nx):aB Tryz.prog aI5 [boR (cU c),boR (eI s)] H nx K:=by
 refine aB.pure (args0:=[boR (cU c),boR (eI s)]) (R:=fun rr=>rr=dB (cyB c s)) ?_ rfl (aI ⟨aE rfl,aE rfl,trivial⟩) (fun r hr=>hr▸h);clear h;refine aLQ rfl fun Q hQ=> ?_;unfold aJO;have hwl:=hf.w;have hhl:=hf.h;have hfp:=hf.pl;have hfs:=hf.sl;have hfail: ¬(aQ c∧COk c s)→dB false=dB (cyB c s):=fun h=>congrArg dB (beP h).symm;by_cases hb:aQ c
 case neg=>
  repeat' first| (first|apply bn1|apply aKG hcf)<;>(simp only[go_sem,eq_false hb])|fail
  all_goals exact aZ hQ _ rfl rfl (hfail fun h=>hb h.1)
 have e1:=eq_true hb;by_cases h0:JS s.words s.holds
 case neg=>
  repeat' first| (first|apply bn1|apply aKG hcf|apply aKH (show s.words.length<2^40 by omega) (show s.holds.length<2^40 by omega))<;>(simp only[go_sem,e1,eq_false h0])|fail
  all_goals exact aZ hQ _ rfl rfl (hfail fun h=>h0 (ZS h.2.atm))
 have e2:=eq_true h0;by_cases hpl:(s.bM.length:Int)=3∧(s.dD.length:Int)=4
 case neg=>
  have hno: ¬(aQ c∧COk c s):=fun⟨_,h⟩=>hpl ⟨by rw[h.pl];rfl,by rw[h.sl];rfl⟩;repeat' first| (first|apply bn1|refine bpL (fun h=> ?_) fun h=> ?_|apply aKG hcf|apply aKH (show s.words.length<2^40 by omega) (show s.holds.length<2^40 by omega))<;>(simp only[go_sem,e1,e2])|apply bn2 (by omega)|fail
  all_goals first|exact aZ hQ _ rfl rfl (hfail hno)| (exfalso;omega)
 have hsl:s.dD.length=4:=by omega
 have hpl:s.bM.length=3:=by omega
 repeat' first| (first|apply bn1|apply bpK (by omega)|apply aKG hcf|apply aKH (show s.words.length<2^40 by omega) (show s.holds.length<2^40 by omega))<;>(simp only[go_sem,e1,e2,hpl,hsl])|apply bn3 (by omega)|fail
 obtain⟨fo,hfo⟩: ∃fo:Nat→Int,fo=fun k=>((aF s k).out.length:Int):=⟨_,rfl⟩
 obtain⟨fh,hfh⟩: ∃fh:Nat→Int,fh=fun k=>(((aL s k).pipe.length:Int)+(aL s k).done.length):=⟨_,rfl⟩
 (refine aM.loop (α:={k:Nat//k≤3∧(∀i,i<k→mD c i (aF s i))}) (fun u=>en [(6,boP u.1),(5,boP (jS fo u.1)),(3,.one (.c (.fQ (eI s)))),(2,.one (.c (.fQ (cU c))))]) (fun _=>.nil) _ (fun u=>3-u.1) ⟨0,by omega,(by intros;first|trivial|omega)⟩ (bU (m5 _) (by repeat' first|exact bo2|refine xqI rfl rfl ?_| (with_reducible apply bo3)| ((with_reducible apply bo1);exact bpH rfl (by simp) rfl rfl rfl)|fail)) ?_);(rintro⟨k,hk,hinv⟩ bpQ hKL);have hs1:=KF (f:=fo) (m:=4) (by omega) k fun j hj=>by have:=(hinv j (by omega)).ol;rw[hfo];dsimp only;omega
 by_cases hlt:k<3
 ·obtain⟨P,boS⟩: ∃P,P=aF s k:=⟨_,rfl⟩
  have hP':s.bM.getD k default=P:=boS.symm;obtain⟨hf1,hf2⟩:=hf.port k;by_cases hok:mD c k (aF s k)
  ·have hpt:=beT hok;have hol:=hok.ol;rw[←boS] at hol;have hsum:jS fo (k+1)=jS fo k+P.out.length:=(by rw[jS,hfo,boS]);have hin:=iS hinv hok;repeat' first| (first|apply bn1|apply a5O hb hpl hlt hf1 hf2)<;>(simp only[go_sem,hP',hpl,hpt];try simp (disch:=omega) only[Iw])|apply bn2 (by omega)|refine⟨by omega,?_⟩|fail
   all_goals (rw[←hsum];(refine hKL _ _ _ ⟨k+1,by omega,hin⟩ (by omega) (by(try dsimp only);omega) (bU (m5 _) (by repeat' first|exact bo2|refine xqI rfl rfl ?_|fail))))
  ·have hpt:=a8A hok;repeat' first| (first|apply bn1|apply a5O hb hpl hlt hf1 hf2)<;>(simp only[go_sem,hP',hpl,hpt])|apply bn2 (by omega)|fail
   all_goals exact aZ hQ _ rfl rfl (hfail fun h=>hok (h.2.port k hlt))
 ·have hk3:k=3:=by omega
  subst hk3;have hPs:a19 c s:=⟨hpl,hinv⟩
  have hz0:jS fh 0=0:=rfl;repeat' first|apply bn1<;>(simp only[go_sem])|apply bn3 (by omega)|fail
  refine aM.loop (α:={k:Nat//k≤4∧ ∀i,i<k→Z0 c s i}) (fun u=>en [(7,boP u.1),(5,boP (jS fo 3-jS fh u.1)),(3,.one (.c (.fQ (eI s)))),(2,.one (.c (.fQ (cU c))))]) (fun _=>.nil) _ (fun u=>4-u.1) ⟨0,by omega,fun i hi=>by omega⟩ (bU (m5 _) (by repeat' first|exact bo2|refine xqI rfl rfl ?_| (with_reducible apply bo3)| ((with_reducible apply bo0);(exact bpF (by((try dsimp only);exact diE (by omega))) rfl))| ((with_reducible apply bo1);apply bo7)|fail)) ?_;rintro⟨k,hk,hvo⟩ bqG hKM;have hs2:=KF (f:=fh) (m:=4) (by omega) k fun j hj=>by have h1:=(hvo j (by omega)).pl;have h2:=(hvo j (by omega)).dl;rw[hfh];dsimp only;omega
  by_cases hlt4:k<4
  ·obtain⟨V,hV⟩: ∃V,V=aL s k:=⟨_,rfl⟩
   have hV':s.dD.getD k default=V:=hV.symm;obtain⟨hf1,hf2,hf3⟩:=hf.slv k;by_cases hok:Z0 c s k
   ·have hv1:=hok.pl;have hv2:=hok.dl;rw[←hV] at hv1 hv2;have hpt:=beR hok;have hsum:jS fo 3-jS fh (k+1)=jS fo 3-jS fh k-V.pipe.length-V.done.length:=by have h1:fh k=V.pipe.length+V.done.length:=(by rw[hfh,hV]);have h2:jS fh (k+1)=jS fh k+fh k:=rfl;omega
    have hin:=iS hvo hok;repeat' first| (first|apply bn1|apply a5I hb hPs hsl hlt4 hf1 hf2 hf3)<;>(simp only[go_sem,hV',hsl,hpt];try simp (disch:=omega) only[Iw])|apply bn2 (by omega)|refine⟨by omega,?_⟩|fail
    all_goals (rw[←hsum];exact hKM _ _ _ ⟨k+1,by omega,hin⟩ (by omega) (by(try dsimp only);omega) (bU (m5 _) (by repeat' first|exact bo2|refine xqI rfl rfl ?_|fail)))
   ·have hpt:=a6D hok;repeat' first| (first|apply bn1|apply a5I hb hPs hsl hlt4 hf1 hf2 hf3)<;>(simp only[go_sem,hV',hsl,hpt])|apply bn2 (by omega)|fail
    all_goals exact aZ hQ _ rfl rfl (hfail fun h=>hok (h.2.slv k hlt4))
  ·have hk4:k=4:=(by omega);subst hk4;have hab:=bd9 hf hPs hsl hvo;by_cases hct:jS fo 3=jS fh 4
   case neg=>
    have hno: ¬(aQ c∧COk c s):=fun⟨_,h⟩=>hct (by
     have:=h.count
     unfold hU at this
     rw[hfo,hfh]
     simp only[jS]
     omega)
    have hct':(jS fo 3-jS fh 4=0)=False:=eq_false (by omega);repeat' first|apply bn1<;>(simp only[go_sem,hct'])|apply bn3 (by omega)|fail
    all_goals exact aZ hQ _ rfl rfl (hfail hno)
   have hct':(jS fo 3-jS fh 4=0)=True:=eq_true (by omega);have htl:=aXH (s:=cX s) hb;repeat' first| (first|apply bn1|apply bdR hab|apply aMQ hcf hab.st)<;>(simp only[go_sem,hct',htl])|apply bn3 (by omega)|fail
   all_goals (
    refine aZ hQ _ rfl rfl (congrArg dB ?_)
    by_cases hst:BA c (cX s)
    ·rw[aXJ hst];refine(bfB hb ⟨⟨by have:=h0.1.1;omega,h0.1.2,by have:=h0.2.1;omega,h0.2.2⟩,hpl,hsl,hinv,hvo,?_,hst⟩).symm;unfold hU;rw[hfo,hfh] at hct;simp only[jS] at hct;omega
    ·rw[aWH hst,beP fun h=>hst h.2.st])
theorem bgF {c:Cfg} {s:CSt} (hcf:jO c) (hf:beL s) (h:K (dB (cdB c s)) H nx):aB Tryz.prog aIO [boR (cU c),boR (eI s)] H nx K:=by
 refine aB.pure (args0:=[boR (cU c),boR (eI s)]) (R:=fun rr=>rr=dB (cdB c s)) ?_ rfl (aI ⟨aE rfl,aE rfl,trivial⟩) (fun r hr=>hr▸h);clear h;refine aKQ rfl fun Q hQ=> ?_;unfold aI3;have htl:=hf.t;by_cases hok:aQ c∧COk c s
 case neg=>
  have e1:=beP hok;have e2:cdB c s=false:=by unfold cdB;rw[e1];rfl
  repeat' first| (first|apply bn1|apply bd7 hcf hf)<;>(simp only[go_sem,e1])|fail
  all_goals exact aZ hQ _ rfl rfl (congrArg dB e2.symm)
 obtain⟨hb,hs⟩:=hok;have e1:=bfB hb hs;have e2:cdB c s=decide ((s.told.length:Int)=jS (GA c) 3):=by unfold cdB;rw[e1,btQ]
 obtain⟨hp3,hp12⟩:=hC hb;repeat' first| (first|apply bn1|apply bd7 hcf hf)<;>(simp only[go_sem,e1])|fail
 (refine aM.loop (α:={k:Nat//k≤3∧(True)}) (fun u=>en [(6,boP u.1),(5,boP (jS (GA c) u.1)),(3,.one (.c (.fQ (eI s)))),(2,.one (.c (.fQ (cU c))))]) (fun _=>.nil) _ (fun u=>3-u.1) ⟨0,by omega,(by intros;first|trivial|omega)⟩ (bU (m5 _) (by repeat' first|exact bo2|refine xqI rfl rfl ?_| (with_reducible apply bo3)| ((with_reducible apply bo1);exact bpH rfl (by simp) rfl rfl rfl)|fail)) ?_);(rintro⟨k,hk,hinv⟩ bpQ hKL);have hs1:=KF (f:=GA c) (m:=12) (by omega) k fun j hj=>by have:=(hC hb).2 j;unfold GA;omega
 by_cases hlt:k<3
 ·have hsum:jS (GA c) (k+1)=jS (GA c) k+(c.cP.getD k default).length:=by rw[jS,GA]
  have hpk:=hp12 k;repeat' first|apply bn1<;>(simp only[go_sem,hp3];try simp (disch:=omega) only[Iw])|apply bn2 (by omega)|refine⟨by omega,?_⟩|fail
  all_goals (rw[←hsum];(refine hKL _ _ _ ⟨k+1,by omega,trivial⟩ (by omega) (by(try dsimp only);omega) (bU (m5 _) (by repeat' first|exact bo2|refine xqI rfl rfl ?_|fail))))
 ·have hk3:k=3:=by omega
  subst hk3;repeat' first|apply bn1<;>(simp only[go_sem])|apply bn3 (by omega)|fail
  all_goals exact aZ hQ _ rfl rfl (congrArg dB e2.symm)
theorem bgE (c:Cfg) (s:CSt) (hcf:jO c) (hf:beL s):aB Tryz.prog xJ [boR (cU c),boR (eI s)] .nil 0 fun r _ _=>r.plain=true∧r=dB (cdB c s):=by
 have htl:=hf.t;refine OO rfl fun Q hQ=> ?_;unfold uZ;by_cases hok:aQ c∧COk c s
 case neg=>
  have e1:=beP hok;have e2:cdB c s=false:=by unfold cdB;rw[e1];rfl
  repeat' first| (first|apply bn1|apply bd4 hcf hf)<;>(simp only[go_sem,e1])|fail
  all_goals exact hQ _ _ _ _ _ (.inr rfl) rfl ⟨rfl,congrArg dB e2.symm⟩
 obtain⟨hb,hs⟩:=hok;have e1:=bfB hb hs;have e2:cdB c s=decide ((s.told.length:Int)=jS (GA c) 3):=by unfold cdB;rw[e1,btQ]
 have hpl:=(hC hb).1;repeat' first| (first|apply bn1|apply bd4 hcf hf)<;>(simp only[go_sem,hpl,e1])|fail
 refine aM.abC fun bqO hG0=> ?_;have c0:bqO 0=some ⟨3,1,[cU c]⟩:=by rw[hG0];rfl
 have c1:bqO 1=some ⟨5,1,[eI s]⟩:=by rw[hG0];rfl
 clear hG0
 refine aM.gP (β:=Nat) (fun k=>en [(15,boP k),(14,boP 3),(13,dS (c.cP.map jR)),(5,boP (jS (GA c) k)),(3,.one (.c (.ptr 5 1 0 0)))])
  (fun k H1 _=>k≤3∧ ∀id,id<2→H1 id=bqO id) (fun k=>3-k) 0 ⟨noF,_,by repeat' first|exact bo2|refine xqI rfl rfl ?_|refine xqP (by omega) rfl rfl ?_|fail,aK,by omega,fun _ _=>rfl⟩ ?_
 rintro k H1 nx1 hnx ⟨hk,hfr⟩ bpQ hKL;have bqC:=(hfr 0 (by omega)).trans c0;have g1:=(hfr 1 (by omega)).trans c1;have hs1:=KF (f:=GA c) (m:=12) (by omega) k fun j hj=>by have:=(hC hb).2 j;unfold GA;omega
 by_cases hlt:k<3
 ·have hsum:jS (GA c) (k+1)=jS (GA c) k+(c.cP.getD k default).length:=by rw[jS,GA]
  have hple:=(hC hb).2 k;repeat' first|apply bn1<;>(simp only[go_sem,bqC,g1];try simp (disch:=omega) only[Iw])|apply bn2 (by omega)|refine⟨by omega,?_⟩|fail
  exact hKL _ _ _ (k+1) noF _ (by omega) (by omega) (by rw[hsum];repeat' first|exact bo2|refine xqI rfl rfl ?_|refine xqP (by omega) rfl rfl ?_|fail) aK ⟨by omega,hfr⟩
 ·have hk3:k=3:=by omega
  subst hk3;repeat' first|apply bn1<;>(simp only[go_sem,bqC,g1])|apply bn3 (by omega)|fail
  exact hQ _ _ _ _ _ (.inr rfl) rfl ⟨rfl,congrArg dB e2.symm⟩
theorem bgH {c:Cfg} {s:CSt} (hcf:jO c) (hf:beL s) (h:K (dB (cdB c s)) H nx):aB Tryz.prog xJ [boR (cU c),boR (eI s)] H nx K:=(bgE c s hcf hf).pure rfl (aI ⟨aE rfl,aE rfl,trivial⟩) fun r hr=>hr▸h
end
end Go.Proofs.YtmccpdapaccnoaaGreat
