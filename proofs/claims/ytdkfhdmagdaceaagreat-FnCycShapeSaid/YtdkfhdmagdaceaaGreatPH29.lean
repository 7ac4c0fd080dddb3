/- Texts laid together by a program: rules, contracts and the walk that leads to the law. -/
import Derived.Test.YtdkfhdmagdaceaaGreatPH26
import Derived.Test.YtdkfhdmagdaceaaGreatPH24
import Derived.Test.YtdkfhdmagdaceaaGreatPH27
import Derived.Test.YtdkfhdmagdaceaaGreatPH21
import Derived.Test.YtdkfhdmagdaceaaGreatPH11
import Derived.Test.YtdkfhdmagdaceaaGreatPH15
import Derived.Test.YtdkfhdmagdaceaaGreatPH22
set_option linter.unusedVariables false
set_option linter.unusedSimpArgs false
set_option linter.unusedSectionVars false
set_option maxRecDepth 100000
set_option maxHeartbeats 8000000
namespace Go.AM
theorem a7H {l:List Job} {x:Job}:jX (l++[x])=BM (jX l) x:=by unfold jX;rw[List.foldl_append];rfl
theorem bbP {l:List Job}:(jX l).length=l.length:=(fH l).length_eq
end Go.AM
namespace Go.Proofs.YtdkfhdmagdaceaaGreat
open Go Go.AM
attribute [local irreducible] aM wv aB vd wvH
section
variable {H : aA} {nx : Nat} {K : D → aA → Nat → Prop}
theorem bdR {s:CSt} (hf:bdV s) (h:K (boR (eSt (cX s))) H nx):aB Tryz.prog aIZ [boR (eI s)] H nx K:=by
 refine aB.fresh (R:=fun rr=>rr=boR (eSt (cX s))) ?_ rfl (fun r hr=>hr▸h);clear h;refine aLK rfl fun Q hQ=> ?_;unfold aJA;have M:=hf.pl;have bg:=hf.sl;obtain⟨N,hN⟩: ∃N,N=s.dD.length:=⟨_,rfl⟩
 rw[←hN] at bg;have z:=hN.symm;have D:=hf.st;have cg:s.words.length<2^21:=D.words;have ch:s.holds.length<2^21:=D.holds;have cj:s.told.length<2^21:=D.told;have bh: ∀j∈s.told,j.rsp.data.length<2^21:=fun j Z=>D.data j (brH _ Z);repeat' first| (first|apply bn1|apply aKA (w:=s.words) (u:=s.holds) (by omega) (by omega)|apply aI1 (l:=s.told) (by omega) bh)<;>(simp only[go_sem,umB,umS,umM,muM])|fail
 apply aM.EJ 1;refine aM.tW _ _ noF (fun t=>.inl rfl) (KO (i:=9) (o':=⟨6,1,[[.isl (s.words.map aJ),.isl (s.holds.map aJ),.osl 1 12 0 0 0,.isl ((jX []).map aS),.isl ((jX []).map aS),.isl (s.told.map aS)]]⟩) (by rw[aA.aC (by omega)];exact aA.bH) (aP (aH (bB rfl) (aH (bB rfl) (aH (.VS ..) (aH xG (aH xG (aH (bB rfl) eP)))))))) ?_;refine aM.TF fun bqO E=> ?_;have c0:bqO 0=some ⟨5,1,[eI s]⟩:=by rw[E];rfl
 have c1:bqO 1=some ⟨6,1,[[.osl 0 0 0 0 0,.osl 0 0 0 0 0,.osl 0 0 0 0 0,.osl 0 0 0 0 0,.osl 0 0 0 0 0,.osl 0 0 0 0 0]]⟩:=by rw[E];rfl
 have bf1:bqO 9=some ⟨6,1,[[.isl (s.words.map aJ),.isl (s.holds.map aJ),.osl 1 12 0 0 0,.isl ((jX []).map aS),.isl ((jX []).map aS),.isl (s.told.map aS)]]⟩:=by rw[E];exact aA.bH
 have ba:bqO 12=some ⟨1,0,[]⟩:=by rw[E];rfl
 clear E;obtain⟨A,O⟩: ∃A:Nat→List Int,A=fun k=>(s.bM.take k).map (·.next):=⟨_,rfl⟩
 have ab: ∀k,k≤3→(A k).length=k:=fun k I=>by rw[O];simp;omega
 have bj: ∀k,k<3→A (k+1)=A k++[(s.bM.getD k default).next]:=fun k I=>by rw[O];dsimp only;rw[brQ (by omega),bqX];simp[List.getD,show k<s.bM.length by omega]
 have o:A 3=(cX s).asked:=by rw[O];dsimp only;rw[boL (by omega)];rfl
 have bb: ∀k,k<3→(jJ s k).length≤3:=fun k I=>by have:=hf.q k I;simpa [jJ] using this
 have ad: ∀k,k<N→(hJ s k).length≤3∧(aL s k).done.length≤3:=fun k I=>⟨by have:=(hf.v k (by omega)).1;simpa [hJ] using this,(hf.v k (by omega)).2⟩
 obtain⟨bf5,S⟩: ∃bf5:Nat→List Job,bf5=fun k=>(List.range k).flatMap (jJ s):=⟨_,rfl⟩
 have ae: ∀k,bf5 (k+1)=bf5 k++jJ s k:=fun k=>by rw[S];exact CL
 have aa: ∀k,k≤3→(bf5 k).length≤3*k:=fun k I=>by rw[S];exact QU k fun j Z=>bb j (by omega)
 have af:bf5 0=[]:=by rw[S];rfl
 refine aM.gP (β:=Nat×Nat×Nat) (fun u=>en [(4,boP u.1),(3,.one (.c (.ptr 6 9 0 0))),(2,.one (.c (.ptr 6 1 0 0))),(1,.one (.c (.ptr 5 0 0 0)))])
  (fun u H1 bp0=>u.1≤3∧H1 0=some ⟨5,1,[eI s]⟩∧H1 1=some ⟨6,1,[[.osl 0 0 0 0 0,.osl 0 0 0 0 0,.osl 0 0 0 0 0,.osl 0 0 0 0 0,.osl 0 0 0 0 0,.osl 0 0 0 0 0]]⟩∧H1 9=some ⟨6,1,[[.isl (s.words.map aJ),.isl (s.holds.map aJ),.osl 1 u.2.1 0 u.1 u.2.2,.isl ((jX (bf5 u.1)).map aS),.isl ((jX []).map aS),.isl (s.told.map aS)]]⟩∧(∃m,H1 u.2.1=some ⟨1,m,(A u.1).map aJ⟩∧u.1≤u.2.2∧u.2.2≤m)∧12≤u.2.1∧u.2.1<bp0) (fun u=>3-u.1) (0,12,0)
  ⟨noF,_,by repeat' first|exact bo2|refine xqI rfl rfl ?_|refine xqP (by omega) rfl rfl ?_|fail,aK,by dsimp only;omega,c0,c1,by dsimp only;rw[af];exact bf1,⟨0,by rw[ba,O];rfl,m5 _,m5 _⟩,by dsimp only;omega,by dsimp only;omega⟩ ?_
 clear c0 c1 bf1 ba;rintro⟨k,y,ca⟩ H1 p bk ⟨I,bqC,b,bp5,⟨m,g,ag,bm⟩,ah,ai⟩ bpQ bn;dsimp only at I bp5 g ag bm ah ai;have C:bQ p [0,1,9,y]:=AM.apart (by simp;omega) (by simp;omega);simp only[bQ,eZ] at C;have bc:=ab k I;by_cases aj:k<3
 ·obtain⟨P,boS⟩: ∃P,P=aF s k:=⟨_,rfl⟩
  have T:s.bM.getD k default=P:=boS.symm;have bo:=hf.q k aj;rw[←boS] at bo;have a6: ∀G:aA,msk (p+5) [8] G 9=G 9:=fun G=>by unfold msk;rw[if_neg (by simp)]
  rw[←bc] at bp5 ag;repeat' first|apply bn1<;>(simp only[go_sem,boC,bqC,b,bp5,a6,g,M,T,C])|apply bn2 (by omega)| (with_reducible first|refine fun(cap:Nat) (bp:_≤cap)=> ?_|refine fun(ck:_≤cap)=> ?_)|refine⟨by omega,?_⟩|fail
  refine aM.TF fun aHF J=> ?_;have hc:A k++[P.next]=A (k+1):=by rw[bj k aj,T]
  have d0:aHF 0=some ⟨5,1,[eI s]⟩:=by rw[J];simp[aA.set,aA.del,C,bqC]
  have d1:aHF 1=some ⟨6,1,[[.osl 0 0 0 0 0,.osl 0 0 0 0 0,.osl 0 0 0 0 0,.osl 0 0 0 0 0,.osl 0 0 0 0 0,.osl 0 0 0 0 0]]⟩:=by rw[J];simp[aA.set,aA.del,C,b]
  have aHG:aHF 9=some ⟨6,1,[[.isl (s.words.map aJ),.isl (s.holds.map aJ),.osl 1 (p+14) 0 (k+1) cap,.isl ((jX (bf5 k)).map aS),.isl ((jX []).map aS),.isl (s.told.map aS)]]⟩:=by rw[J,bc];exact aA.bH
  have boR:aHF (p+14)=some ⟨1,cap,(A (k+1)).map aJ⟩:=by rw[J,aA.aC (by omega),←hc];exact aA.bH
  clear J bqC b bp5 g C
  refine aM.gP (β:=Nat) (fun j=>en [(5,boP j),(4,boP k),(3,.one (.c (.ptr 6 9 0 0))),(2,.one (.c (.ptr 6 1 0 0))),(1,.one (.c (.ptr 5 0 0 0)))])
   (fun j H2 _=>j≤P.queue.length∧H2 0=some ⟨5,1,[eI s]⟩∧H2 1=some ⟨6,1,[[.osl 0 0 0 0 0,.osl 0 0 0 0 0,.osl 0 0 0 0 0,.osl 0 0 0 0 0,.osl 0 0 0 0 0,.osl 0 0 0 0 0]]⟩∧H2 9=some ⟨6,1,[[.isl (s.words.map aJ),.isl (s.holds.map aJ),.osl 1 (p+14) 0 (k+1) cap,.isl ((jX (bf5 k++(jJ s k).take j)).map aS),.isl ((jX []).map aS),.isl (s.told.map aS)]]⟩∧H2 (p+14)=some ⟨1,cap,(A (k+1)).map aJ⟩) (fun j=>P.queue.length-j) 0
   ⟨noF,_,by repeat' first|exact bo2|refine xqI rfl rfl ?_|refine xqP (by omega) rfl rfl ?_|fail,aK,by omega,d0,d1,by rw[List.take_zero,bq6];exact aHG,boR⟩ ?_
  clear d0 d1 aHG boR;rintro j H2 ak al ⟨Z,bqC,b,bp5,g⟩ bqG an;obtain⟨W,aYL⟩: ∃W,W=bf5 k++(jJ s k).take j:=⟨_,rfl⟩
  rw[←aYL] at bp5;have B:(jX W).length<2^21:=by have h1:=aa k I;have h2:=bb k aj;rw[bbP,aYL,t2,CG];omega
  have C:bQ ak [0,1,9,p+14]:=AM.apart (by simp) (by simp;omega);simp only[bQ,eZ] at C;by_cases a:j<P.queue.length
  ·obtain⟨n,hn⟩: ∃n,P.queue.getD j default=n:=⟨_,rfl⟩
   repeat' first| (first|apply bn1|apply aR1 B)<;>(simp only[go_sem,boC,bqC,b,bp5,M,T,hn,C];try simp (disch:=omega) only[Iw])|apply bn2 (by omega)|refine⟨by omega,?_⟩|fail
   have e:bf5 k++(jJ s k).take (j+1)=W++[(⟨k,n,oW⟩:Job)]:=(by rw[nK (by simpa [jJ,←boS] using a),←C0,←aYL];congr 2;rw[←hn];simp[jJ,←boS,List.getD,a]);exact an _ _ _ (j+1) noF _ (by omega) (by omega) (by repeat' first|exact bo2|refine xqI rfl rfl ?_|refine xqP (by omega) rfl rfl ?_|fail) aK ⟨by omega,by rw[aA.aC (by omega)];exact bqC,by rw[aA.aC (by omega)];exact b,by rw[e,a7H];exact aA.bH,by rw[aA.aC (by omega)];exact g⟩
  ·have ao:j=P.queue.length:=(by omega);have e:W=bf5 (k+1):=(by rw[aYL,ae,boL (by simp[jJ,←boS];omega)]);repeat' first|apply bn1<;>(simp only[go_sem,bqC,M,T];try simp (disch:=omega) only[Iw])|apply bn3 (by omega)|refine⟨by omega,?_⟩|fail
   exact bn _ _ _ (k+1,p+14,cap) noF _ (by omega) (by dsimp only;omega) (by repeat' first|exact bo2|refine xqI rfl rfl ?_|refine xqP (by omega) rfl rfl ?_|fail) aK ⟨by dsimp only;omega,bqC,b,by dsimp only;rw[←e];exact bp5,⟨cap,g,by dsimp only;omega,m5 _⟩,by dsimp only;omega,by dsimp only;omega⟩
 ·have bq:k=3:=by omega
  subst bq;repeat' first|apply bn1<;>(simp only[go_sem,bqC,b,bp5])|apply bn3 (by omega)|fail
  obtain⟨bf6,U⟩: ∃bf6:Nat→List Job,bf6=fun k=>bf5 3++(List.range k).flatMap (hJ s):=⟨_,rfl⟩
  have aq: ∀k,bf6 (k+1)=bf6 k++hJ s k:=fun k=>by rw[U];dsimp only;rw[CL,C0]
  have ar: ∀k,k≤N→(bf6 k).length≤9+3*k:=fun k I=>by have h1:=aa 3 (by omega);have h2:=QU (f:=hJ s) (m:=3) k fun j Z=>(ad j (by omega)).1;rw[U];dsimp only;rw[t2];omega
  have au:bf6 0=bf5 3:=by rw[U];simp
  obtain⟨bf7,X⟩: ∃bf7:Nat→List Job,bf7=fun k=>(List.range k).flatMap fun k=>(aL s k).done:=⟨_,rfl⟩
  have aw: ∀k,bf7 (k+1)=bf7 k++(aL s k).done:=fun k=>by rw[X];exact CL
  have ax: ∀k,k≤N→(bf7 k).length≤3*k:=fun k I=>by rw[X];exact QU k fun j Z=>(ad j (by omega)).2
  have ay:bf7 0=[]:=by rw[X];rfl
  refine aM.gP (β:=Nat) (fun k=>en [(6,boP k),(3,.one (.c (.ptr 6 9 0 0))),(2,.one (.c (.ptr 6 1 0 0))),(1,.one (.c (.ptr 5 0 0 0)))])
   (fun k H2 _=>k≤N∧H2 0=some ⟨5,1,[eI s]⟩∧H2 1=some ⟨6,1,[[.osl 0 0 0 0 0,.osl 0 0 0 0 0,.osl 0 0 0 0 0,.osl 0 0 0 0 0,.osl 0 0 0 0 0,.osl 0 0 0 0 0]]⟩∧H2 9=some ⟨6,1,[[.isl (s.words.map aJ),.isl (s.holds.map aJ),.osl 1 y 0 3 ca,.isl ((jX (bf6 k)).map aS),.isl ((jX (bf7 k)).map aS),.isl (s.told.map aS)]]⟩∧H2 y=some ⟨1,m,(A 3).map aJ⟩) (fun k=>N-k) 0
   ⟨noF,_,by repeat' first|exact bo2|refine xqI rfl rfl ?_|refine xqP (by omega) rfl rfl ?_|fail,aK,by omega,bqC,b,by rw[au,ay];exact bp5,g⟩ ?_
  clear bqC b bp5 g C;rintro k H2 ak al ⟨bd,bqC,b,bp5,g⟩ bqG an;have C:bQ ak [0,1,9,y]:=AM.apart (by simp;omega) (by simp;omega);simp only[bQ,eZ] at C;by_cases az:k<N
  ·obtain⟨V,hV⟩: ∃V,V=aL s k:=⟨_,rfl⟩
   have Y:s.dD.getD k default=V:=hV.symm;obtain⟨br,bs⟩:=ad k az;have bt:V.pipe.length≤3:=(by simpa [hJ,←hV] using br);rw[←hV] at bs;repeat' first|apply bn1<;>(simp only[go_sem,bqC,b,bp5,z])|apply bn2 (by omega)|fail
   refine aM.gP (β:=Nat) (fun j=>en [(7,boP j),(6,boP k),(3,.one (.c (.ptr 6 9 0 0))),(2,.one (.c (.ptr 6 1 0 0))),(1,.one (.c (.ptr 5 0 0 0)))])
    (fun j L _=>j≤V.pipe.length∧L 0=some ⟨5,1,[eI s]⟩∧L 1=some ⟨6,1,[[.osl 0 0 0 0 0,.osl 0 0 0 0 0,.osl 0 0 0 0 0,.osl 0 0 0 0 0,.osl 0 0 0 0 0,.osl 0 0 0 0 0]]⟩∧L 9=some ⟨6,1,[[.isl (s.words.map aJ),.isl (s.holds.map aJ),.osl 1 y 0 3 ca,.isl ((jX (bf6 k++(hJ s k).take j)).map aS),.isl ((jX (bf7 k)).map aS),.isl (s.told.map aS)]]⟩∧L y=some ⟨1,m,(A 3).map aJ⟩) (fun j=>V.pipe.length-j) 0
    ⟨noF,_,by repeat' first|exact bo2|refine xqI rfl rfl ?_|refine xqP (by omega) rfl rfl ?_|fail,aK,by omega,bqC,b,by rw[List.take_zero,bq6];exact bp5,g⟩ ?_
   clear bqC b bp5 g;rintro j L bu bw ⟨Z,bqC,b,bp5,g⟩ bqR bx;obtain⟨W,aYL⟩: ∃W,W=bf6 k++(hJ s k).take j:=⟨_,rfl⟩
   rw[←aYL] at bp5;have B:(jX W).length<2^21:=(by have h1:=ar k bd;rw[bbP,aYL,t2,CG];omega);have o:bQ bu [0,1,9,y]:=AM.apart (by simp;omega) (by simp;omega);simp only[bQ,eZ] at o;by_cases a:j<V.pipe.length
   ·obtain⟨x,hx⟩: ∃x,V.pipe.getD j default=x:=⟨_,rfl⟩
    repeat' first| (first|apply bn1|apply aR1 B)<;>(simp only[go_sem,boC,bqC,b,bp5,z,Y,hx,o];try simp (disch:=omega) only[Iw])|apply bn2 (by omega)|refine⟨by omega,?_⟩|fail
    have e:bf6 k++(hJ s k).take (j+1)=W++[(⟨x.who,x.n,oW⟩:Job)]:=(by rw[nK (by simpa [hJ,←hV] using a),←C0,←aYL];congr 2;rw[←hx];simp[hJ,←hV,List.getD,a]);exact bx _ _ _ (j+1) noF _ (by omega) (by omega) (by repeat' first|exact bo2|refine xqI rfl rfl ?_|refine xqP (by omega) rfl rfl ?_|fail) aK ⟨by omega,by rw[aA.aC (by omega)];exact bqC,by rw[aA.aC (by omega)];exact b,by rw[e,a7H];exact aA.bH,by rw[aA.aC (by omega)];exact g⟩
   ·have ao:j=V.pipe.length:=(by omega);have e:W=bf6 (k+1):=(by rw[aYL,aq,boL (by simp[hJ,←hV];omega)]);rw[e] at bp5;repeat' first|apply bn1<;>(simp only[go_sem,bqC,z,Y])|apply bn3 (by omega)|refine⟨by omega,?_⟩|fail
    refine aM.gP (β:=Nat) (fun j=>en [(8,boP j),(6,boP k),(3,.one (.c (.ptr 6 9 0 0))),(2,.one (.c (.ptr 6 1 0 0))),(1,.one (.c (.ptr 5 0 0 0)))])
     (fun j L _=>j≤V.done.length∧L 0=some ⟨5,1,[eI s]⟩∧L 1=some ⟨6,1,[[.osl 0 0 0 0 0,.osl 0 0 0 0 0,.osl 0 0 0 0 0,.osl 0 0 0 0 0,.osl 0 0 0 0 0,.osl 0 0 0 0 0]]⟩∧L 9=some ⟨6,1,[[.isl (s.words.map aJ),.isl (s.holds.map aJ),.osl 1 y 0 3 ca,.isl ((jX (bf6 (k+1))).map aS),.isl ((jX (bf7 k++V.done.take j)).map aS),.isl (s.told.map aS)]]⟩∧L y=some ⟨1,m,(A 3).map aJ⟩) (fun j=>V.done.length-j) 0
     ⟨noF,_,by repeat' first|exact bo2|refine xqI rfl rfl ?_|refine xqP (by omega) rfl rfl ?_|fail,aK,by omega,bqC,b,by rw[List.take_zero,bq6];exact bp5,g⟩ ?_
    clear bqC b bp5 g o B aYL e W Z ao a;rintro j bqL bz cb ⟨Z,bqC,b,bp5,g⟩ aNB cc;obtain⟨W,aYL⟩: ∃W,W=bf7 k++V.done.take j:=⟨_,rfl⟩
    rw[←aYL] at bp5;have B:(jX W).length<2^21:=(by have h1:=ax k bd;rw[bbP,aYL,t2,CG];omega);have o:bQ bz [0,1,9,y]:=AM.apart (by simp;omega) (by simp;omega);simp only[bQ,eZ] at o;by_cases a:j<V.done.length
    ·obtain⟨x,hx⟩: ∃x,V.done.getD j default=x:=⟨_,rfl⟩
     repeat' first| (first|apply bn1|apply aS4 (l:=jX W) (j:=x) B)<;>(simp only[go_sem,boC,bqC,b,bp5,z,Y,hx,o];try simp (disch:=omega) only[Iw])|apply bn2 (by omega)|refine⟨by omega,?_⟩|fail
     have e:bf7 k++V.done.take (j+1)=W++[x]:=(by rw[nK a,←C0,←aYL,hx]);exact cc _ _ _ (j+1) noF _ (by omega) (by omega) (by repeat' first|exact bo2|refine xqI rfl rfl ?_|refine xqP (by omega) rfl rfl ?_|fail) aK ⟨by omega,by rw[aA.aC (by omega)];exact bqC,by rw[aA.aC (by omega)];exact b,by rw[e,a7H];exact aA.bH,by rw[aA.aC (by omega)];exact g⟩
    ·have ao:j=V.done.length:=(by omega);have e:W=bf7 (k+1):=(by rw[aYL,aw,boL (by omega),hV]);rw[e] at bp5;repeat' first|apply bn1<;>(simp only[go_sem,bqC,z,Y];try simp (disch:=omega) only[Iw])|apply bn3 (by omega)|refine⟨by omega,?_⟩|fail
     exact an _ _ _ (k+1) noF _ (by omega) (by omega) (by repeat' first|exact bo2|refine xqI rfl rfl ?_|refine xqP (by omega) rfl rfl ?_|fail) aK ⟨by omega,bqC,b,bp5,g⟩
  ·have bf:k=N:=(by omega);have cd:jX (bf6 k)=(cX s).wait:=(by rw[U,S,bf];show _=jX (qU s);unfold qU;rw[M,hN]);have cf:jX (bf7 k)=(cX s).done:=(by rw[X,bf];show _=jX (uQ s);unfold uQ;rw[hN]);rw[cd,cf] at bp5;repeat' first|apply bn1<;>(simp only[go_sem,bqC,b,bp5,z,C])|apply bn3 (by omega)|fail
   refine aB.ao4 (args':=[boR (eSt (cX s))]) (without (fun j=>j=y) H2) (fun j=>j=y) rfl (fun i d0 d h1 h2=> ?_) kS ?_
   ·cases i with
    |succ i=>simp at h1
    |zero=>simp only[List.getElem?_cons_zero,Option.some.injEq] at h1 h2;subst h1;subst h2;apply lY;show CvL _ _ _ _ [.isl (s.words.map aJ),.isl (s.holds.map aJ),.isl ((cX s).asked.map aJ),.isl ((cX s).wait.map aS),.isl ((cX s).done.map aS),.isl (s.told.map aS)] _;rw[←o];exact aH (bB rfl) (aH (bB rfl) (aH (bW bF g (by rw[ab 3 (by omega)]) (by rw[ab 3 (by omega)];exact ag) rfl) (aH (bB rfl) (aH (bB rfl) (aH (bB rfl) eP)))))
   have bqH:(without (fun j=>j=y) H2) 1=some ⟨6,1,[[.osl 0 0 0 0 0,.osl 0 0 0 0 0,.osl 0 0 0 0 0,.osl 0 0 0 0 0,.osl 0 0 0 0 0,.osl 0 0 0 0 0]]⟩:=(by rw[iI (F:=fun j=>j=y) (by omega)];exact b);refine aQR D fun aZJ cl boW b1 b2 boX boY boZ k0 k1 k2 k3 k4 k5 aUV aUW aIG aII aUX aIH aUY o0 o1 o2 bqD bqE bqF fr=> ?_;have bqI:=(fr 1 (by omega)).trans bqH;simp only[go_sem,bqI];try apply bn0
   repeat' first|apply bn1<;>(simp only[go_sem])|fail
   refine V4 hQ (boR (eSt (cX s))) _ (fZ (m:=1) rfl aA.bH rfl) (lY (aH ((o0.of (aA.aC (by omega))).frz bF (by simp)) (aH ((o1.of (aA.aC (by omega))).frz bF (by simp)) (aH ((o2.of (aA.aC (by omega))).frz bF (by simp)) (aH ((bqD.of (aA.aC (by omega))).frz dZ (by simp)) (aH ((bqE.of (aA.aC (by omega))).frz dZ (by simp)) (aH ((bqF.of (aA.aC (by omega))).frz dZ (by simp)) eP))))))) rfl rfl
theorem bd7 {c:Cfg} {s:CSt} (o:jO c) (D:beL s) (h:K (dB (cyB c s)) H nx):aB Tryz.prog aI5 [boR (cU c),boR (eI s)] H nx K:=by
 refine aB.pure (args0:=[boR (cU c),boR (eI s)]) (R:=fun rr=>rr=dB (cyB c s)) ?_ rfl (aI ⟨aE rfl,aE rfl,trivial⟩) (fun r hr=>hr▸h);clear h;refine aLQ rfl fun Q E=> ?_;unfold aJO;have af:=D.w;have ag:=D.h;have ah:=D.pl;have ai:=D.sl;have a: ¬(aQ c∧COk c s)→dB false=dB (cyB c s):=fun h=>congrArg dB (beP h).symm;by_cases z:aQ c
 case neg=>
  repeat' first| (first|apply bn1|apply aKG o)<;>(simp only[go_sem,eq_false z])|fail
  all_goals exact aZ E _ rfl rfl (a fun h=>z h.1)
 have U:=eq_true z;by_cases F:JS s.words s.holds
 case neg=>
  repeat' first| (first|apply bn1|apply aKG o|apply aKH (show s.words.length<2^40 by omega) (show s.holds.length<2^40 by omega))<;>(simp only[go_sem,U,eq_false F])|fail
  all_goals exact aZ E _ rfl rfl (a fun h=>F (ZS h.2.atm))
 have e2:=eq_true F;by_cases d:(s.bM.length:Int)=3∧(s.dD.length:Int)=4
 case neg=>
  have G: ¬(aQ c∧COk c s):=fun⟨_,h⟩=>d ⟨by rw[h.pl];rfl,by rw[h.sl];rfl⟩;repeat' first| (first|apply bn1|refine bpL (fun h=> ?_) fun h=> ?_|apply aKG o|apply aKH (show s.words.length<2^40 by omega) (show s.holds.length<2^40 by omega))<;>(simp only[go_sem,U,e2])|apply bn2 (by omega)|fail
  all_goals first|exact aZ E _ rfl rfl (a G)| (exfalso;omega)
 have e:s.dD.length=4:=by omega
 have d:s.bM.length=3:=by omega
 repeat' first| (first|apply bn1|apply bpK (by omega)|apply aKG o|apply aKH (show s.words.length<2^40 by omega) (show s.holds.length<2^40 by omega))<;>(simp only[go_sem,U,e2,d,e])|apply bn3 (by omega)|fail
 obtain⟨n,A⟩: ∃n:Nat→Int,n=fun k=>((aF s k).out.length:Int):=⟨_,rfl⟩
 obtain⟨l,B⟩: ∃l:Nat→Int,l=fun k=>(((aL s k).pipe.length:Int)+(aL s k).done.length):=⟨_,rfl⟩
 (refine aM.loop (α:={k:Nat//k≤3∧(∀i,i<k→mD c i (aF s i))}) (fun u=>en [(6,boP u.1),(5,boP (jS n u.1)),(3,.one (.c (.fQ (eI s)))),(2,.one (.c (.fQ (cU c))))]) (fun _=>.nil) _ (fun u=>3-u.1) ⟨0,by omega,(by intros;first|trivial|omega)⟩ (bU (m5 _) (by repeat' first|exact bo2|refine xqI rfl rfl ?_| (with_reducible apply bo3)| ((with_reducible apply bo1);exact bpH rfl (by simp) rfl rfl rfl)|fail)) ?_);(rintro⟨k,hk,hinv⟩ bpQ W);have aj:=KF (f:=n) (m:=4) (by omega) k fun j hj=>by have:=(hinv j (by omega)).ol;rw[A];dsimp only;omega
 by_cases I:k<3
 ·obtain⟨P,boS⟩: ∃P,P=aF s k:=⟨_,rfl⟩
  have N:s.bM.getD k default=P:=boS.symm;obtain⟨p,q⟩:=D.port k;by_cases b:mD c k (aF s k)
  ·have g:=beT b;have X:=b.ol;rw[←boS] at X;have t:jS n (k+1)=jS n k+P.out.length:=(by rw[jS,A,boS]);have J:=iS hinv b;repeat' first| (first|apply bn1|apply a5O z d I p q)<;>(simp only[go_sem,N,d,g];try simp (disch:=omega) only[Iw])|apply bn2 (by omega)|refine⟨by omega,?_⟩|fail
   all_goals (rw[←t];(refine W _ _ _ ⟨k+1,by omega,J⟩ (by omega) (by(try dsimp only);omega) (bU (m5 _) (by repeat' first|exact bo2|refine xqI rfl rfl ?_|fail))))
  ·have g:=a8A b;repeat' first| (first|apply bn1|apply a5O z d I p q)<;>(simp only[go_sem,N,d,g])|apply bn2 (by omega)|fail
   all_goals exact aZ E _ rfl rfl (a fun h=>b (h.2.port k I))
 ·have Y:k=3:=by omega
  subst Y;have L:a19 c s:=⟨d,hinv⟩
  have ak:jS l 0=0:=rfl;repeat' first|apply bn1<;>(simp only[go_sem])|apply bn3 (by omega)|fail
  refine aM.loop (α:={k:Nat//k≤4∧ ∀i,i<k→Z0 c s i}) (fun u=>en [(7,boP u.1),(5,boP (jS n 3-jS l u.1)),(3,.one (.c (.fQ (eI s)))),(2,.one (.c (.fQ (cU c))))]) (fun _=>.nil) _ (fun u=>4-u.1) ⟨0,by omega,fun i hi=>by omega⟩ (bU (m5 _) (by repeat' first|exact bo2|refine xqI rfl rfl ?_| (with_reducible apply bo3)| ((with_reducible apply bo0);(exact bpF (by((try dsimp only);exact diE (by omega))) rfl))| ((with_reducible apply bo1);apply bo7)|fail)) ?_;rintro⟨k,hk,v⟩ bqG Z;have al:=KF (f:=l) (m:=4) (by omega) k fun j hj=>by have h1:=(v j (by omega)).pl;have h2:=(v j (by omega)).dl;rw[B];dsimp only;omega
  by_cases x:k<4
  ·obtain⟨V,hV⟩: ∃V,V=aL s k:=⟨_,rfl⟩
   have O:s.dD.getD k default=V:=hV.symm;obtain⟨p,q,S⟩:=D.slv k;by_cases b:Z0 c s k
   ·have aa:=b.pl;have ab:=b.dl;rw[←hV] at aa ab;have g:=beR b;have t:jS n 3-jS l (k+1)=jS n 3-jS l k-V.pipe.length-V.done.length:=by have h1:l k=V.pipe.length+V.done.length:=(by rw[B,hV]);have h2:jS l (k+1)=jS l k+l k:=rfl;omega
    have J:=iS v b;repeat' first| (first|apply bn1|apply a5I z L e x p q S)<;>(simp only[go_sem,O,e,g];try simp (disch:=omega) only[Iw])|apply bn2 (by omega)|refine⟨by omega,?_⟩|fail
    all_goals (rw[←t];exact Z _ _ _ ⟨k+1,by omega,J⟩ (by omega) (by(try dsimp only);omega) (bU (m5 _) (by repeat' first|exact bo2|refine xqI rfl rfl ?_|fail)))
   ·have g:=a6D b;repeat' first| (first|apply bn1|apply a5I z L e x p q S)<;>(simp only[go_sem,O,e,g])|apply bn2 (by omega)|fail
    all_goals exact aZ E _ rfl rfl (a fun h=>b (h.2.slv k x))
  ·have ad:k=4:=(by omega);subst ad;have T:=bd9 D L e v;by_cases M:jS n 3=jS l 4
   case neg=>
    have G: ¬(aQ c∧COk c s):=fun⟨_,h⟩=>M (by
     have:=h.count
     unfold hU at this
     rw[A,B]
     simp only[jS]
     omega)
    have y:(jS n 3-jS l 4=0)=False:=eq_false (by omega);repeat' first|apply bn1<;>(simp only[go_sem,y])|apply bn3 (by omega)|fail
    all_goals exact aZ E _ rfl rfl (a G)
   have y:(jS n 3-jS l 4=0)=True:=eq_true (by omega);have ae:=aXH (s:=cX s) z;repeat' first| (first|apply bn1|apply bdR T|apply aMQ o T.st)<;>(simp only[go_sem,y,ae])|apply bn3 (by omega)|fail
   all_goals (
    refine aZ E _ rfl rfl (congrArg dB ?_)
    by_cases C:BA c (cX s)
    ·rw[aXJ C];refine(bfB z ⟨⟨by have:=F.1.1;omega,F.1.2,by have:=F.2.1;omega,F.2.2⟩,d,e,hinv,v,?_,C⟩).symm;unfold hU;rw[A,B] at M;simp only[jS] at M;omega
    ·rw[aWH C,beP fun h=>C h.2.st])
end
end Go.Proofs.YtdkfhdmagdaceaaGreat
