/- Texts laid together by a program: rules, contracts and the walk that leads to the law. -/
import Derived.Test.YtdkfhdmagdaceaaGreatPN14
import Derived.Test.YtdkfhdmagdaceaaGreatPN21
import Derived.Test.YtdkfhdmagdaceaaGreatPN9
import Derived.Test.YtdkfhdmagdaceaaGreatPN15
import Derived.Test.YtdkfhdmagdaceaaGreatPN11
import Derived.Test.YtdkfhdmagdaceaaGreatPN4
import Derived.Test.YtdkfhdmagdaceaaGreatPN20
import Derived.Test.YtdkfhdmagdaceaaGreatPN5
import Derived.Test.YtdkfhdmagdaceaaGreatPN8
import Derived.Test.YtdkfhdmagdaceaaGreatPN12
set_option linter.unusedVariables false
set_option linter.unusedSimpArgs false
set_option linter.unusedSectionVars false
set_option maxRecDepth 100000
set_option maxHeartbeats 8000000
namespace Go.AM
structure bdV (s:CSt):Prop where
 pl:s.bM.length=3
 sl:s.dD.length≤4
 q: ∀k,k<3→(aF s k).queue.length≤3
 v: ∀k,k<s.dD.length→(aL s k).pipe.length≤3∧(aL s k).done.length≤3
 wl:(qU s).length<20
 dl:(uQ s).length<20
 st:aTQ (cX s)
end Go.AM
namespace Go.Proofs.YtdkfhdmagdaceaaGreat
open Go Go.AM
attribute [local irreducible] aM wv aB vd wvH
section
variable {H : aA} {nx : Nat} {K : D → aA → Nat → Prop}
theorem a4R (s:TSt) (hs:aTQ s):aB Tryz.prog iG [boR (eSt s)] (hp []) 0
 fun r H' i=>∃m0 m1 bp3 bqM bqN bqQ,(s.words.length≤m0∧s.holds.length≤m1∧s.asked.length≤bp3∧s.wait.length≤bqM∧s.done.length≤bqN∧s.told.length≤bqQ)∧i=6∧H'=hp [(0,⟨1,m0,s.words.map aJ⟩),(1,⟨1,m1,s.holds.map aJ⟩),(2,⟨1,bp3,s.asked.map aJ⟩),(3,⟨5,bqM,s.wait.map aS⟩),(4,⟨5,bqN,s.done.map aS⟩),(5,⟨5,bqQ,s.told.map aS⟩)]∧
  r=boR (oIm 0 1 2 3 4 5 s.words.length s.holds.length s.asked.length s.wait.length s.done.length s.told.length s):=by
 obtain⟨k,m,n,o,p,q,b⟩:=hs
 refine AY rfl fun Q t=> ?_
 unfold kD
 repeat' first| (first|apply bn1|refine qN (w:=s.words) (u:=s.holds) (by omega) (by omega) (fun m0 m1 c d=> ?_)|refine kH (l:=s.asked) (by omega) (fun bp3 e=> ?_)|refine gY (l:=s.wait) (by omega) (fun j a=>b j (by simp[a])) (fun bqM f=> ?_)|refine gY (l:=s.done) (by omega) (fun j a=>b j (by simp[a])) (fun bqN g=> ?_)|refine gY (l:=s.told) (by omega) (fun j a=>b j (by simp[a])) (fun bqQ h=> ?_))<;>(simp only[go_sem])|fail
 (refine t _ _ _ _ _ 6 (boR (oIm 0 1 2 3 4 5 s.words.length s.holds.length s.asked.length s.wait.length s.done.length s.told.length s)) (hp [(0,⟨1,m0,s.words.map aJ⟩),(1,⟨1,m1,s.holds.map aJ⟩),(2,⟨1,bp3,s.asked.map aJ⟩),(3,⟨5,bqM,s.wait.map aS⟩),(4,⟨5,bqN,s.done.map aS⟩),(5,⟨5,bqQ,s.told.map aS⟩)]) _ _ (.inr rfl) rfl (fU [19,20,21,22,23,24] (by omega) (by repeat' first|exact bo2| ((with_reducible apply bo0);exact bpB (by omega) rfl rfl (by rfl) rfl)| ((with_reducible apply bo1);apply bo6)|exact bo4|apply bo5|fail) ⟨⟨by simp,by simp[sgL],_,rfl,bP (aG bF _) rfl rfl⟩,⟨by simp,by simp[sgL],_,rfl,bP (aG bF _) rfl rfl⟩,⟨by simp,by simp[sgL],_,rfl,bP (aG bF _) rfl rfl⟩,⟨by simp,by simp[sgL],_,rfl,bP (aG dZ _) rfl rfl⟩,⟨by simp,by simp[sgL],_,rfl,bP (aG dZ _) rfl rfl⟩,⟨by simp,by simp[sgL],_,rfl,bP (aG dZ _) rfl rfl⟩,trivial⟩ (by simp[sgL])) ?_)
 exact⟨m0,m1,bp3,bqM,bqN,bqQ,⟨c,d,e,f,g,h⟩,rfl,rfl,rfl⟩
theorem a43 {s:TSt} (hs:aTQ s) (h: ∀m0 m1 bp3 bqM bqN bqQ,(s.words.length≤m0∧s.holds.length≤m1∧s.asked.length≤bp3∧s.wait.length≤bqM∧s.done.length≤bqN∧s.told.length≤bqQ)→K (boR (oIm nx (nx+1) (nx+2) (nx+3) (nx+4) (nx+5) s.words.length s.holds.length s.asked.length s.wait.length s.done.length s.told.length s)) ((((((H.set nx ⟨1,m0,s.words.map aJ⟩).set (nx+1) ⟨1,m1,s.holds.map aJ⟩).set (nx+2) ⟨1,bp3,s.asked.map aJ⟩).set (nx+3) ⟨5,bqM,s.wait.map aS⟩).set (nx+4) ⟨5,bqN,s.done.map aS⟩).set (nx+5) ⟨5,bqQ,s.told.map aS⟩) (nx+6)):
 aB Tryz.prog iG [boR (eSt s)] H nx K:=by
 refine(a4R s hs).AF (l0:=[]) [] rfl ⟨aE rfl,trivial⟩ trivial (by simp) (by simp) (by simp) fun r H' e _ ⟨m0,m1,bp3,bqM,bqN,bqQ,bqB,a,b,c⟩=> ?_
 have h:=h m0 m1 bp3 bqM bqN bqQ bqB
 subst a;subst b;subst c
 have d:back (tau 0 nx (nth [])) (hp [(0,⟨1,m0,s.words.map aJ⟩),(1,⟨1,m1,s.holds.map aJ⟩),(2,⟨1,bp3,s.asked.map aJ⟩),(3,⟨5,bqM,s.wait.map aS⟩),(4,⟨5,bqN,s.done.map aS⟩),(5,⟨5,bqQ,s.told.map aS⟩)]) 6 H=((((((H.set nx ⟨1,m0,s.words.map aJ⟩).set (nx+1) ⟨1,m1,s.holds.map aJ⟩).set (nx+2) ⟨1,bp3,s.asked.map aJ⟩).set (nx+3) ⟨5,bqM,s.wait.map aS⟩).set (nx+4) ⟨5,bqN,s.done.map aS⟩).set (nx+5) ⟨5,bqQ,s.told.map aS⟩):=by simp[back,hp,aA.set,aA.nil,tau,nth,uB,BB,aA.eL,aA.yI]
 rw[←d] at h
 exact h
theorem bdE {s:CSt} (hs:bdV s) (h: ∀H' nx',nx≤nx'→(∀id,id<nx→H' id=H id)→K (boR (eSt (cX s))) H' nx'):aB Tryz.prog zX [boR (eI s)] H nx K:=by
 have aw:=hs.pl;have ba:=hs.sl;obtain⟨N,hN⟩: ∃N,N=s.dD.length:=⟨_,rfl⟩
 rw[←hN] at ba;apply aB.tW;refine RA rfl fun Q hQ=> ?_;unfold yF;repeat' first|apply bn1<;>(simp only[go_sem,boC,aw])|fail
 apply aM.EJ 1;apply aM.EJ 5;apply aM.EJ 5;refine aM.tW _ _ noF (fun t=>.inl rfl) (KO (i:=nx+7) (o:=⟨6,1,[[.isl (s.words.map aJ),.isl (s.holds.map aJ),.osl 0 0 0 0 0,.osl 0 0 0 0 0,.osl 0 0 0 0 0,.isl (s.told.map aS)]]⟩) (o':=⟨6,1,[[.isl (s.words.map aJ),.isl (s.holds.map aJ),.osl 1 (nx+13) 0 0 0,.osl 5 (nx+14) 0 0 0,.osl 5 (nx+15) 0 0 0,.isl (s.told.map aS)]]⟩) (by simp only[aA.set,t1,bqU,Nat.reduceEqDiff,Nat.reduceAdd,if_false,if_true]) (aP (aH (bB rfl) (aH (bB rfl) (aH (.VS ..) (aH (.VS ..) (aH (.VS ..) (aH (bB rfl) eP)))))))) ?_;refine aM.TF fun bqO P=> ?_;have c0:bqO nx=some ⟨5,1,[eI s]⟩:=by rw[P];simp only[aA.set,t1,bqU,Nat.reduceEqDiff,Nat.reduceAdd,bqT,if_false,if_true]
 have c1:bqO (nx+1)=some ⟨6,1,[[.osl 0 0 0 0 0,.osl 0 0 0 0 0,.osl 0 0 0 0 0,.osl 0 0 0 0 0,.osl 0 0 0 0 0,.osl 0 0 0 0 0]]⟩:=by rw[P];simp only[aA.set,t1,bqU,Nat.reduceEqDiff,Nat.reduceAdd,bqT,if_false,if_true]
 have bf3:IQ bqO (nx+13) (nx+16) (nx+7) s [] [] []:=by refine⟨nx+13,nx+14,nx+15,0,0,0,0,0,0,?_,⟨?_,by simp,by simp⟩,⟨?_,by simp,by simp⟩,⟨?_,by simp,by simp⟩,by omega,by omega,by omega,by omega⟩<;>rw[P]<;>simp only[aA.set,t1,bqU,Nat.reduceEqDiff,Nat.reduceAdd,bqT,if_false,if_true]<;>rfl
 have bb: ∀id,id<nx→bqO id=H id:=fun id L=>by rw[P];simp only[aA.set,t1,show ¬id=nx by omega,show ¬id=nx+1 by omega,show ¬id=nx+7 by omega,show ¬id=nx+13 by omega,show ¬id=nx+(13+1) by omega,show ¬id=nx+(13+(1+1)) by omega,Nat.reduceAdd,show ¬id=nx+14 by omega,show ¬id=nx+15 by omega,if_false]
 clear P
 refine aM.gP (β:=Nat) (fun k=>en [(20,boP k),(19,boP 3),(18,dS (s.bM.map cD)),(3,.one (.c (.ptr 6 (nx+7) 0 0))),(2,.one (.c (.ptr 6 (nx+1) 0 0))),(1,.one (.c (.ptr 5 nx 0 0)))])
  (fun k H1 M=>k≤3∧IQ H1 (nx+13) M (nx+7) s ((s.bM.take k).map (·.next)) ((List.range k).flatMap (jJ s)) []∧ ∀id,id<nx+13→id≠nx+7→H1 id=bqO id)
  (fun k=>3-k) 0 ⟨noF,_,by repeat' first|exact bo2|refine xqI rfl rfl ?_|refine xqP (by omega) rfl rfl ?_|fail,aK,by omega,bf3,fun _ _ _=>rfl⟩ ?_
 rintro k H1 M cb ⟨hk,d,e⟩ bpQ bc;have bqC:H1 nx=some ⟨5,1,[eI s]⟩:=by rw[e _ (by omega) (by omega)];exact c0
 obtain⟨A,Y⟩: ∃A,A=(s.bM.take k).map (·.next):=⟨_,rfl⟩
 obtain⟨W,Z⟩: ∃W,W=(List.range k).flatMap (jJ s):=⟨_,rfl⟩
 have cc:A.length=k:=by rw[Y];simp;omega
 have ax: ∀k,k<3→(jJ s k).length≤3:=fun k hk=>by have:=hs.q k hk;simpa [jJ] using this
 have cf:W.length≤3*k:=by rw[Z];exact QU k fun j hj=>ax j (by omega)
 rw[←Y,←Z] at d;obtain⟨w,x,id_,ca,cw,cd,ma,mw,md,az5,⟨az9,az2,aAD⟩,⟨aAE,aAA,aAF⟩,⟨aAC,aAB,aAG⟩,aa,O,ac,F⟩:=d;have I:bQ M [nx,nx+1,nx+7,w,x,id_]:=AM.apart (by simp;omega) (by simp;omega);simp only[bQ,eZ] at I;by_cases ai:k<3
 ·obtain⟨p,R⟩: ∃p,p=aF s k:=⟨_,rfl⟩
  have ae:s.bM.getD k default=p:=R.symm;have bd:=hs.q k ai;rw[←R] at bd;repeat' first|apply bn1<;>(simp only[go_sem,boC,ae,az5,az9,aAE,aAC,I,List.set])|apply bn2 (by omega)| (with_reducible first|refine fun(cap:Nat) (y:_≤cap)=> ?_|refine fun(T:_≤cap)=> ?_)|refine⟨by omega,?_⟩|fail
  obtain⟨A',U⟩: ∃A',A'=A++[p.next]:=⟨_,rfl⟩
  have ak:A'.length=A.length+1:=by rw[U];simp
  refine aM.gP (β:=Nat) (fun i=>en [(35,boP i),(34,boP p.queue.length),(33,dS (p.queue.map aJ)),(20,boP k),(19,boP 3),(18,dS (s.bM.map cD)),(4,boP k),(3,.one (.c (.ptr 6 (nx+7) 0 0))),(2,.one (.c (.ptr 6 (nx+1) 0 0))),(1,.one (.c (.ptr 5 nx 0 0)))])
   (fun i H2 a=>i≤p.queue.length∧IQ H2 (nx+13) a (nx+7) s A' (W++(jJ s k).take i) []∧ ∀id,id<nx+13→id≠nx+7→H2 id=bqO id)
   (fun i=>p.queue.length-i) 0 ⟨noF,_,by repeat' first|exact bo2|refine xqI rfl rfl ?_|refine xqP (by omega) rfl rfl ?_|fail,aK,by omega,?_,fun id boU g=> ?_⟩ ?_
  ·rw[List.take_zero,bq6];refine⟨M+12,x,id_,cap,cw,cd,cap,mw,md,?_,⟨?_,by omega,m5 _⟩,⟨?_,aAA,aAF⟩,⟨?_,aAB,aAG⟩,by omega,by omega,by omega,by omega⟩;·rw[ak,aA.bH];rfl
   ·rw[U];simp only[aA.set,aA.del,I,if_false,if_true]
   ·simp only[aA.set,aA.del,I,if_false];exact aAE
   ·simp only[aA.set,aA.del,I,if_false];exact aAC
  ·rw[aA.aC g,aA.aC (by omega),aA.aC (by omega),aA.aC (by omega),aA.jG (by omega)];exact e id boU g
  clear az5 az9 aAE aAC aa O ac F I;rintro i H2 a al ⟨hi,d,af⟩ bqG an;obtain⟨u,b⟩: ∃u,u=W++(jJ s k).take i:=⟨_,rfl⟩
  have ao:u.length≤3*k+3:=by have:=ax k ai;rw[b,t2,CG];omega
  rw[←b] at d;obtain⟨w,x,id_,ca,cw,cd,ma,mw,md,az5,⟨az9,az2,aAD⟩,⟨aAE,aAA,aAF⟩,⟨aAC,aAB,aAG⟩,aa,O,ac,F⟩:=d;have I:bQ a [nx,nx+1,nx+7,w,x,id_]:=AM.apart (by simp;omega) (by simp;omega);simp only[bQ,eZ] at I;by_cases z:i<p.queue.length
  ·repeat' first|apply bn1<;>(simp only[go_sem,boC,az5,az9,aAE,aAC,I,List.set];try simp (disch:=omega) only[Iw])|apply bn2 (by omega)| (with_reducible first|refine fun(cap:Nat) (y:_≤cap)=> ?_|refine fun(T:_≤cap)=> ?_)|refine⟨by omega,?_⟩|fail
   refine af0 (K:=bqG) fun G bqK=> ?_;obtain⟨H',q1,q2,q3⟩:=as2 (H2:=H2) (G:=G) (hi:=a) (lo:=nx+13) (t:=nx+7) (s:=s) (W:=u) (D:=[]) (bpZ:=a+10) (nx':=a+15) (k:=k) (n:=p.queue.getD i default) az9 ⟨az2,aAD⟩ aAC ⟨aAB,aAG⟩ aa O ac F (by omega) (by omega) y (by rw[bqK];exact aA.bH) (by rw[bqK,aA.aC (by omega)];exact aA.bH) (fun id boU g e2=>by rw[bqK,aA.aC e2,aA.aC (by omega),aA.aC (by omega),aA.jG g]);have q4: ∀id,id<nx+13→id≠nx+7→H' id=H2 id:=fun id boU g=>by rw[q3 id (by omega),bqK,aA.aC g,aA.aC (by omega),aA.aC (by omega),aA.jG (by omega)]
   have C:W++(jJ s k).take (i+1)=u++[(⟨k,p.queue.getD i default,oW⟩:Job)]:=(by rw[nK (by simpa [jJ,←R] using z),←C0,←b];congr 2;simp[jJ,←R,List.getD,z]);exact an _ _ _ (i+1) noF H' (by omega) (by omega) (by repeat' first|exact bo2|refine xqI rfl rfl ?_|refine xqP (by omega) rfl rfl ?_|fail) q1 ⟨by omega,by rw[C];exact q2,fun id boU g=>(q4 id boU g).trans (af id boU g)⟩
  ·repeat' first|apply bn1<;>(simp only[go_sem];try simp (disch:=omega) only[Iw])|apply bn3 (by omega)|fail
   have bf:i=p.queue.length:=(by omega);have C:u=(List.range (k+1)).flatMap (jJ s):=(by rw[b,CL,←Z,boL (by simp[jJ,←R];omega)]);have bg:A'=(s.bM.take (k+1)).map (·.next):=(by rw[U,nK (by omega),bqX,←Y];rw[←ae];rfl);exact bc _ _ _ (k+1) noF _ (by omega) (by omega) (by repeat' first|exact bo2|refine xqI rfl rfl ?_|refine xqP (by omega) rfl rfl ?_|fail) aK ⟨by omega,by rw[←C,←bg];exact⟨w,x,id_,ca,cw,cd,ma,mw,md,az5,⟨az9,az2,aAD⟩,⟨aAE,aAA,aAF⟩,⟨aAC,aAB,aAG⟩,by omega,O,ac,F⟩,af⟩
 ·repeat' first|apply bn1<;>(simp only[go_sem,bqC])|apply bn3 (by omega)|fail
  have bh:k=3:=by omega
  subst bh;have aq: ∀k,k<N→(hJ s k).length≤3∧(aL s k).done.length≤3:=fun k hk=>⟨by have:=(hs.v k (by omega)).1;simpa [hJ] using this,(hs.v k (by omega)).2⟩
  refine aM.gP (β:=Nat) (fun k=>en [(52,boP k),(51,boP N),(50,dS (s.dD.map gF)),(3,.one (.c (.ptr 6 (nx+7) 0 0))),(2,.one (.c (.ptr 6 (nx+1) 0 0)))])
   (fun k H1 M=>k≤N∧IQ H1 (nx+13) M (nx+7) s A (W++(List.range k).flatMap (hJ s)) ((List.range k).flatMap fun k=>(aL s k).done)∧ ∀id,id<nx+13→id≠nx+7→H1 id=bqO id)
   (fun k=>N-k) 0 ⟨noF,_,by repeat' first|exact bo2|refine xqI rfl rfl ?_|refine xqP (by omega) rfl rfl ?_|refine xqV rfl (by omega) ?_|fail,aK,by omega,?_,e⟩ ?_
  ·simp only[List.range_zero,List.flatMap_nil,bq6];exact⟨w,x,id_,ca,cw,cd,ma,mw,md,az5,⟨az9,az2,aAD⟩,⟨aAE,aAA,aAF⟩,⟨aAC,aAB,aAG⟩,by omega,O,ac,F⟩
  clear az5 az9 aAE aAC aa O ac F I e bqC;rintro k H2 a al ⟨hk,d,e⟩ bqG an;obtain⟨u,b⟩: ∃u,u=W++(List.range k).flatMap (hJ s):=⟨_,rfl⟩
  obtain⟨D,aj⟩: ∃D,D=(List.range k).flatMap fun k=>(aL s k).done:=⟨_,rfl⟩
  have ao:u.length≤9+3*k:=by have:=QU (f:=hJ s) (m:=3) k fun j hj=>(aq j (by omega)).1;rw[b,t2];omega
  have cg:D.length≤3*k:=by rw[aj];exact QU k fun j hj=>(aq j (by omega)).2
  rw[←b,←aj] at d;obtain⟨w,x,id_,ca,cw,cd,ma,mw,md,az5,⟨az9,az2,aAD⟩,⟨aAE,aAA,aAF⟩,⟨aAC,aAB,aAG⟩,aa,O,ac,F⟩:=d;by_cases ai:k<N
  ·obtain⟨v,E⟩: ∃v,v=aL s k:=⟨_,rfl⟩
   have ar:s.dD.getD k default=v:=E.symm;obtain⟨bj,bk⟩:=aq k ai;have bm:v.pipe.length≤3:=(by simpa [hJ,←E] using bj);rw[←E] at bk;repeat' first|apply bn1<;>(simp only[go_sem,boC,ar,az5,List.set])|apply bn2 (by omega)|refine⟨by omega,?_⟩|fail
   refine aM.gP (β:=Nat) (fun i=>en [(59,boP i),(58,boP v.pipe.length),(57,dS (v.pipe.map eCJ)),(52,boP k),(51,boP N),(50,dS (s.dD.map gF)),(9,.one (.c (.ptr 3 (a+3) 0 0))),(3,.one (.c (.ptr 6 (nx+7) 0 0))),(2,.one (.c (.ptr 6 (nx+1) 0 0)))])
    (fun i H3 B=>i≤v.pipe.length∧IQ H3 (nx+13) B (nx+7) s A (u++(hJ s k).take i) D∧H3 (a+3)=some ⟨3,1,[gF v]⟩∧ ∀id,id<nx+13→id≠nx+7→H3 id=bqO id)
    (fun i=>v.pipe.length-i) 0 ⟨noF,_,by repeat' first|exact bo2|refine xqI rfl rfl ?_|refine xqP (by omega) rfl rfl ?_|fail,aK,by omega,?_,aA.bH,fun id boU g=>by rw[aA.aC (by omega)];exact e id boU g⟩ ?_
   ·rw[List.take_zero,bq6];refine IQ.frame (hi:=a) ⟨w,x,id_,ca,cw,cd,ma,mw,md,az5,⟨az9,az2,aAD⟩,⟨aAE,aAA,aAF⟩,⟨aAC,aAB,aAG⟩,aa,O,ac,F⟩ (by omega) (by omega) fun id boU _=>aA.aC (by omega)
   clear az5 az9 aAE aAC aa O ac F e;rintro i H3 B bn ⟨hi,d,bp5,e⟩ bqR bo;obtain⟨bf4,J⟩: ∃bf4,bf4=u++(hJ s k).take i:=⟨_,rfl⟩
   have bp:bf4.length≤12+3*k:=(by rw[J,t2,CG];omega);rw[←J] at d;obtain⟨w,x,id_,ca,cw,cd,ma,mw,md,az5,⟨az9,az2,aAD⟩,⟨aAE,aAA,aAF⟩,⟨aAC,aAB,aAG⟩,aa,O,ac,F⟩:=d;have bp0:a+3≠w:=fun he=>by rw[←he,bp5] at az9;simp at az9
   have n2:a+3≠x:=fun he=>by rw[←he,bp5] at aAE;simp at aAE
   have bqP:a+3≠id_:=fun he=>by rw[←he,bp5] at aAC;simp at aAC
   have I:bQ B [nx,nx+1,nx+7,a+3,w,x,id_]:=AM.apart (by simp;omega) (by simp;omega);simp only[bQ,eZ] at I;by_cases z:i<v.pipe.length
   ·repeat' first|apply bn1<;>(simp only[go_sem,boC,az5,az9,aAE,aAC,bp5,I,List.set];try simp (disch:=omega) only[Iw])|apply bn2 (by omega)| (with_reducible first|refine fun(cap:Nat) (y:_≤cap)=> ?_|refine fun(T:_≤cap)=> ?_)|refine⟨by omega,?_⟩|fail
    refine af0 (K:=bqR) fun G bqK=> ?_;obtain⟨H',q1,q2,q3⟩:=as2 (H2:=H3) (G:=G) (hi:=B) (lo:=nx+13) (t:=nx+7) (s:=s) (W:=bf4) (D:=D) (bpZ:=B+13) (nx':=B+18) (k:=(v.pipe.getD i default).who) (n:=(v.pipe.getD i default).n) az9 ⟨az2,aAD⟩ aAC ⟨aAB,aAG⟩ aa O ac F (by omega) (by omega) y (by rw[bqK];exact aA.bH) (by rw[bqK,aA.aC (by omega)];exact aA.bH) (fun id boU g e2=>by rw[bqK,aA.aC e2,aA.aC (by omega),aA.aC (by omega),aA.aC (by omega),aA.jG g]);have q4: ∀id,id<nx+13→id≠nx+7→H' id=H3 id:=fun id boU g=>by rw[q3 id (by omega),bqK,aA.aC g,aA.aC (by omega),aA.aC (by omega),aA.aC (by omega),aA.jG (by omega)]
    have C:u++(hJ s k).take (i+1)=bf4++[(⟨(v.pipe.getD i default).who,(v.pipe.getD i default).n,oW⟩:Job)]:=(by rw[nK (by simpa [hJ,←E] using z),←C0,←J];congr 2;simp[hJ,←E,List.getD,z]);exact bo _ _ _ (i+1) noF H' (by omega) (by omega) (by repeat' first|exact bo2|refine xqI rfl rfl ?_|refine xqP (by omega) rfl rfl ?_|fail) q1 ⟨by omega,by rw[C];exact q2,by rw[q3 _ (by omega),bqK,aA.aC (by omega),aA.aC (by omega),aA.aC (by omega),aA.aC (by omega),aA.jG n2];exact bp5,fun id boU g=>(q4 id boU g).trans (e id boU g)⟩
   ·have bf:i=v.pipe.length:=(by omega);have C:bf4=W++(List.range (k+1)).flatMap (hJ s):=(by rw[J,CL,←C0,←b,boL (by simp[hJ,←E];omega)]);repeat' first|apply bn1<;>(simp only[go_sem,boC,az5,az9,aAE,aAC,bp5,I,List.set];try simp (disch:=omega) only[Iw])|apply bn3 (by omega)| (with_reducible first|refine fun(cap:Nat) (y:_≤cap)=> ?_|refine fun(T:_≤cap)=> ?_)|refine⟨by omega,?_⟩|fail
    have bq:D++v.done=(List.range (k+1)).flatMap fun k=>(aL s k).done:=by rw[CL,←aj,E]
    have T:D.length+v.done.length≤cap:=(by omega);refine an _ _ _ (k+1) noF _ (by omega) (by omega) (by repeat' first|exact bo2|refine xqI rfl rfl ?_|refine xqP (by omega) rfl rfl ?_|fail) aK ⟨by omega,?_,fun id boU g=>by rw[aA.aC g,aA.aC (by omega),aA.jG (by omega)];exact e id boU g⟩;rw[←C,←bq];refine⟨w,x,B+5,ca,cw,cap,ma,mw,cap,?_,⟨?_,az2,aAD⟩,⟨?_,aAA,aAF⟩,⟨?_,by simpa using T,m5 _⟩,by omega,by omega,by omega,by omega⟩;·rw[aA.bH,t2]
    ·rw[aA.aC (by omega),aA.aC (by omega),aA.jG ac];exact az9
    ·rw[aA.aC (by omega),aA.aC (by omega),aA.jG F];exact aAE
    ·rw[aA.aC (by omega),aA.bH,bqX]
  ·repeat' first|apply bn1<;>(simp only[go_sem,az5])|apply bn3 (by omega)|fail
   have br:k=N:=(by omega);subst br;have ay:u=qU s:=(by rw[b,Z];unfold qU;rw[aw,←hN]);have az:D=uQ s:=(by rw[aj];unfold uQ;rw[←hN]);have d:A=s.bM.map (·.next):=(by rw[Y,boL (by omega)]);have ag:=hs.wl;have ah:=hs.dl;rw[←ay] at ag;rw[←az] at ah;refine a3D (l:=u) (by omega) (by omega) aAE fun H3 B ch bpT V=> ?_;have bfZ:=(V (nx+7) (by omega) (by omega)).trans az5;have bpR:=(V w (by omega) O).trans az9;have bpW:=(V id_ (by omega) F.symm).trans aAC;simp only[go_sem];repeat' first|apply bn1<;>(simp only[go_sem,bfZ])|fail
   refine a3D (l:=D) (by omega) (by omega) bpW fun bqL r cj e7 X=> ?_;have boU:=(X (nx+7) (by omega) (by omega)).trans bfZ;have g:=(X w (by omega) ac).trans bpR;have e4:=(X x (by omega) F).trans bpT;have ex:=((X (nx+1) (by omega) (by omega)).trans ((V (nx+1) (by omega) (by omega)).trans ((e _ (by omega) (by omega)).trans c1)))
   have bs: ∀id,id<nx→bqL id=H id:=fun id L=>(X id (by omega) (by omega)).trans ((V id (by omega) (by omega)).trans ((e id (by omega) (by omega)).trans (bb id L)));simp only[go_sem];try apply bn0
   have bt:(jX u).length=u.length:=(fH _).length_eq;have bu:(jX D).length=D.length:=(fH _).length_eq;have bw:eSt (cX s)=[.isl (s.words.map aJ),.isl (s.holds.map aJ),.isl (A.map aJ),.isl ((jX u).map aS),.isl ((jX D).map aS),.isl (s.told.map aS)]:=(by rw[d,ay,az];rfl);obtain⟨aZJ,au⟩: ∃aZJ:aA,aZJ=fun j=>if j=w∨j=x∨j=id_ then none else if j=nx+7 then some ⟨6,1,[eSt (cX s)]⟩ else bqL j:=⟨_,rfl⟩
   have q5: ∀j,j≠w→j≠x→j≠id_→j≠nx+7→aZJ j=bqL j:=fun j h1 h2 h3 h4=>by rw[au];simp only[h1,h2,h3,h4,or_self,if_false]
   have bqJ:aZJ (nx+7)=some ⟨6,1,[eSt (cX s)]⟩:=(by rw[au];simp only[show ¬nx+7=w by omega,show ¬nx+7=x by omega,show ¬nx+7=id_ by omega,or_self,if_false,if_true]);refine aM.tW _ aZJ (fun j=>j=w∨j=x∨j=id_) (fun t=>.inl rfl) (apO (t:=nx+7) (fun j hj=>by rw[au];simp only[hj,if_true]) bqJ boU (by omega) (aP ?_) fun j h1 h2=>q5 j (fun h=>h2 (.inl h)) (fun h=>h2 (.inr (.inl h))) (fun h=>h2 (.inr (.inr h))) h1) ?_;·rw[bw];exact aH (bB rfl) (aH (bB rfl) (aH (bW bF g rfl az2 (.inl rfl)) (aH (bW dZ e4 bt.symm (by omega) (.inr (.inl rfl))) (aH (bW dZ e7 bu.symm (by omega) (.inr (.inr rfl))) (aH (bB rfl) eP)))))
   have qx:=(q5 (nx+1) (by omega) (by omega) (by omega) (by omega)).trans ex;have bx: ∀id,id<nx→aZJ id=H id:=fun id L=>(q5 id (by omega) (by omega) (by omega) (by omega)).trans (bs id L);have bz:=hs.st;have hz: ∀k,(nx=r+k)=False:=fun k=>eq_false (by omega);generalize hS:cX s=S at*;repeat' first| (first|apply bn1|refine a43 (s:=S) bz (fun m0 m1 bp3 bqM bqN bqQ hm=> ?_))<;>(simp only[go_sem,t1,bqT,bqJ,qx,hz,oIm])|fail
   refine hQ _ _ _ _ _ (.inr rfl) (fZ rfl aA.bH rfl) ⟨boR (eSt S),_,fun j=>r+3≤j∧j<r+3+6,lY (aH (bW bF (m:=m0) (by simp only[aA.set,bqU,Nat.reduceEqDiff,show ¬r+3=nx+1 by omega,if_false,if_true]) rfl (m5 _) (by omega)) (aH (bW bF (m:=m1) (by simp only[aA.set,bqU,Nat.reduceEqDiff,show ¬r+4=nx+1 by omega,if_false,if_true]) rfl (m5 _) (by omega)) (aH (bW bF (m:=bp3) (by simp only[aA.set,bqU,Nat.reduceEqDiff,show ¬r+5=nx+1 by omega,if_false,if_true]) rfl (m5 _) (by omega)) (aH (bW dZ (m:=bqM) (by simp only[aA.set,bqU,Nat.reduceEqDiff,show ¬r+6=nx+1 by omega,if_false,if_true]) rfl (m5 _) (by omega)) (aH (bW dZ (m:=bqN) (by simp only[aA.set,bqU,Nat.reduceEqDiff,show ¬r+7=nx+1 by omega,if_false,if_true]) rfl (m5 _) (by omega)) (aH (bW dZ (m:=bqQ) (by simp only[aA.set,bqU,Nat.reduceEqDiff,show ¬r+8=nx+1 by omega,if_false,if_true]) rfl (m5 _) (by omega)) eP)))))),ZW,h _ _ (by omega) fun id L=> ?_⟩;rw[acA (by omega),aA.aC (by omega),aA.aC (by omega),aA.aC (by omega),aA.aC (by omega),aA.aC (by omega),aA.aC (by omega),aA.aC (by omega)];exact bx id L
end
theorem aTC {a b c:Job} (d:uL a b=true) (e:uL b c=true):uL a c=true:=by rw[qL] at*;omega
theorem aTV {l:List Job} (h: ∀i,i<l.length→0<i→uL (l.getD (i-1) default) (l.getD i default)=true):kW l:=by
 have key: ∀d i,i+d+1<l.length→uL (l.getD i default) (l.getD (i+d+1) default)=true:=by
  intro d
  induction d with
  |zero=>exact fun i hi=>h (i+1) hi (by omega)
  |succ d a=>exact fun i hi=>aTC (a i (by omega)) (h (i+d+1+1) hi (by omega))
 refine Z6.2 fun i j hi b c=> ?_;have:=key (j-i-1) i (by omega);rw[show i+(j-i-1)+1=j by omega] at this;simpa [List.getD,hi,b] using this
theorem aT4 {l:List Job} (h:kW l) {i:Nat} (hi:i<l.length) (a:0<i):uL (l.getD (i-1) default) (l.getD i default)=true:=by have:=Z6.1 h (i-1) i (by omega) hi (by omega);simpa [List.getD,hi,show i-1<l.length by omega] using this
section
variable {H : aA} {nx : Nat} {K : D → aA → Nat → Prop}
theorem aMA {c:Cfg} {a:List Int} {l:List Job} {b:Bool} (U:aQ c) (C:a.length=3) (I:aTF c a) (hl:l.length<2^21) (V: ∀j∈l,j.rsp.data.length<2^21) (h:K (dB (aPK c a l b)) H nx):aB Tryz.prog aIQ [boR (cU c),dS (a.map aJ),dS (l.map aS),dB b] H nx K:=by
 refine aB.pure (args0:=[boR (cU c),dS (a.map aJ),dS (l.map aS),dB b]) (R:=fun W=>W=dB (aPK c a l b)) ?_ rfl (aI ⟨aE rfl,aE rfl,aE rfl,aE rfl,trivial⟩) (fun r hr=>hr▸h);clear h;refine aKZ rfl fun Q t=> ?_;unfold aI9;obtain⟨p,F⟩:=hC U;repeat' first|apply bn1<;>(simp only[go_sem])|fail
 (refine aM.loop (α:={k:Nat//k≤l.length∧(∀i,i<k→InA a (l.getD i default)∧(0<i→uL (l.getD (i-1) default) (l.getD i default)=true)∧(if b then as5 c (l.getD i default) else (l.getD i default).rsp=oW))}) (fun u=>en [(9,boP u.1),(4,.one (.c (.fQ (cU c)))),(3,dB b),(2,dS (l.map aS)),(1,dS (a.map aJ))]) (fun _=>.nil) _ (fun u=>l.length-u.1) ⟨0,by omega,(by intros;first|trivial|omega)⟩ (bU (m5 _) (by repeat' first|exact bo2|refine xqI rfl rfl ?_| (with_reducible apply bo3)| ((with_reducible apply bo1);exact bpH rfl (by simp) rfl rfl rfl)|fail)) ?_);(rintro⟨k,Y,hinv⟩ bpQ v);by_cases G:k<l.length
 ·obtain⟨j,J⟩: ∃j,j=l.getD k default:=⟨_,rfl⟩
  have g:=J.symm;have hm:j∈l:=by rw[J];exact cC G
  have X:=V j hm;have m:InA a j→(0<k→uL (l.getD (k-1) default) j=true)→(if b then as5 c j else j.rsp=oW)→∀i,i<k+1→InA a (l.getD i default)∧(0<i→uL (l.getD (i-1) default) (l.getD i default)=true)∧(if b then as5 c (l.getD i default) else (l.getD i default).rsp=oW):=fun s y o=>iS hinv ⟨by rw[g];exact s,by rw[g];exact y,by rw[g];exact o⟩;have f: ¬(InA a j∧(0<k→uL (l.getD (k-1) default) j=true)∧(if b then as5 c j else j.rsp=oW))→aPK c a l b=false:=fun h=>aSY fun aIF=>h ⟨aIF.inA j hm,fun D=>by rw[J];exact aT4 aIF.sorted G D,aIF.rsp j hm⟩;have q:((k:Int)-1).toNat=k-1:=by omega
  have z:j.rsp=oW↔j.rsp.id=0∧j.rsp.code=0∧(j.rsp.data.length:Int)=0:=by obtain⟨w,n,⟨i,d,x⟩⟩:=j;simp only[oW,Rsp.mk.injEq];refine⟨fun⟨s,y,o⟩=>⟨s,y,by rw[o];rfl⟩,fun⟨s,y,o⟩=>⟨s,y,H4.1 (by omega)⟩⟩
  by_cases hw:0≤j.who∧j.who≤2
  ·have S:=I j.who.toNat (by omega);have T:=F j.who.toNat;by_cases A:0≤j.n∧j.n≤a.getD j.who.toNat default-1
   ·have B:InA a j:=⟨hw,A.1,by omega⟩
    cases b with
    |false=>
     by_cases D:0<k
     ·by_cases e:uL (l.getD (k-1) default) j=true
      ·repeat' first| (first|apply bn1|apply bpJ (by omega)|refine bpL (fun h=> ?_) fun h=> ?_|apply aBC|apply c9)<;>(simp only[go_sem,g,eq_true hw,eq_true A,e,p,C,q];try simp (disch:=omega) only[Iw])|apply bn2 (by omega)|refine bnE (fun h=> ?_) fun h=> ?_|refine⟨by omega,?_⟩|fail
       all_goals first| (refine v _ _ _ ⟨k+1,by omega,m B (fun _=>e) (by rw[if_neg (by decide)];exact z.2 ⟨by omega,by omega,by omega⟩)⟩ (by omega) (by(try dsimp only);omega) (bU (m5 _) (by repeat' first|exact bo2|refine xqI rfl rfl ?_|fail)))|exact aZ t (dB false) rfl rfl (congrArg dB (f fun⟨_,_,o⟩=>by rw[if_neg (by decide)] at o;have:=z.1 o;omega)).symm
      ·have E:=eq_false_of_ne_true e;repeat' first| (first|apply bn1|apply bpJ (by omega)|apply aBC|apply c9)<;>(simp only[go_sem,g,eq_true hw,eq_true A,E,p,C,q];try simp (disch:=omega) only[Iw])|apply bn2 (by omega)|refine⟨by omega,?_⟩|fail
       all_goals exact aZ t (dB false) rfl rfl (congrArg dB (f fun⟨_,y,_⟩=>e (y D))).symm
     ·repeat' first| (first|apply bn1|apply bpK (by omega)|refine bpL (fun h=> ?_) fun h=> ?_|apply aBC)<;>(simp only[go_sem,g,eq_true hw,eq_true A,p,C,q];try simp (disch:=omega) only[Iw])|apply bn2 (by omega)|refine bnE (fun h=> ?_) fun h=> ?_|refine⟨by omega,?_⟩|fail
      all_goals first| (refine v _ _ _ ⟨k+1,by omega,m B (fun h=>absurd h D) (by rw[if_neg (by decide)];exact z.2 ⟨by omega,by omega,by omega⟩)⟩ (by omega) (by(try dsimp only);omega) (bU (m5 _) (by repeat' first|exact bo2|refine xqI rfl rfl ?_|fail)))|exact aZ t (dB false) rfl rfl (congrArg dB (f fun⟨_,_,o⟩=>by rw[if_neg (by decide)] at o;have:=z.1 o;omega)).symm
    |true=>
     by_cases D:0<k
     ·by_cases e:uL (l.getD (k-1) default) j=true
      ·repeat' first| (first|apply bn1|apply bpJ (by omega)|refine bpL (fun h=> ?_) fun h=> ?_|apply aBC|apply c9|apply aMP (show j.rsp.data.length<2^40 by omega))<;>(simp only[go_sem,g,eq_true hw,eq_true A,e,p,C,q];try simp (disch:=omega) only[Iw])|apply bn2 (by omega)|refine⟨by omega,?_⟩|fail
       all_goals first| (refine v _ _ _ ⟨k+1,by omega,m B (fun _=>e) (by rw[if_pos rfl];exact⟨Classical.not_not.1 (by assumption),by unfold bT;omega⟩)⟩ (by omega) (by(try dsimp only);omega) (bU (m5 _) (by repeat' first|exact bo2|refine xqI rfl rfl ?_|fail)))|exact aZ t (dB false) rfl rfl (congrArg dB (f fun⟨_,_,o⟩=>by rw[if_pos rfl] at o;obtain⟨L,M⟩:=o;unfold bT at M;first|omega|exact absurd L (by assumption)|simp_all)).symm
      ·have E:=eq_false_of_ne_true e;repeat' first| (first|apply bn1|apply bpJ (by omega)|apply aBC|apply c9)<;>(simp only[go_sem,g,eq_true hw,eq_true A,E,p,C,q];try simp (disch:=omega) only[Iw])|apply bn2 (by omega)|refine⟨by omega,?_⟩|fail
       all_goals exact aZ t (dB false) rfl rfl (congrArg dB (f fun⟨_,y,_⟩=>e (y D))).symm
     ·repeat' first| (first|apply bn1|apply bpK (by omega)|refine bpL (fun h=> ?_) fun h=> ?_|apply aBC|apply aMP (show j.rsp.data.length<2^40 by omega))<;>(simp only[go_sem,g,eq_true hw,eq_true A,p,C,q];try simp (disch:=omega) only[Iw])|apply bn2 (by omega)|refine⟨by omega,?_⟩|fail
      all_goals first| (refine v _ _ _ ⟨k+1,by omega,m B (fun h=>absurd h D) (by rw[if_pos rfl];exact⟨Classical.not_not.1 (by assumption),by unfold bT;omega⟩)⟩ (by omega) (by(try dsimp only);omega) (bU (m5 _) (by repeat' first|exact bo2|refine xqI rfl rfl ?_|fail)))|exact aZ t (dB false) rfl rfl (congrArg dB (f fun⟨_,_,o⟩=>by rw[if_pos rfl] at o;obtain⟨L,M⟩:=o;unfold bT at M;first|omega|exact absurd L (by assumption)|simp_all)).symm
   ·repeat' first| (first|apply bn1|apply aBC)<;>(simp only[go_sem,g,eq_true hw,eq_false A,C];try simp (disch:=omega) only[Iw])|apply bn2 (by omega)|refine⟨by omega,?_⟩|fail
    all_goals first| (exfalso;omega)|exact aZ t (dB false) rfl rfl (congrArg dB (f fun⟨s,_,_⟩=>A ⟨s.2.1,by have:=s.2.2;omega⟩)).symm
  ·repeat' first| (first|apply bn1|apply aBC)<;>(simp only[go_sem,g,eq_false hw])|apply bn2 (by omega)|refine⟨by omega,?_⟩|fail
   all_goals first| (exfalso;omega)|exact aZ t (dB false) rfl rfl (congrArg dB (f fun⟨s,_,_⟩=>hw s.1)).symm
 ·repeat' first|apply bn1<;>(simp only[go_sem])|apply bn3 (by omega)|fail
  have N:k=l.length:=by omega
  subst N;exact aZ t (dB true) rfl rfl (congrArg dB (aQD ⟨fun x O=>aKJ (fun i hi=>(hinv i hi).1) x O,aTV fun i hi=>(hinv i hi).2.1,fun x O=>aKJ (P:=fun x=>if b then as5 c x else x.rsp=oW) (fun i hi=>(hinv i hi).2.2) x O⟩).symm)
end
end Go.Proofs.YtdkfhdmagdaceaaGreat
namespace Go.AM
noncomputable def cyB (c:Cfg) (s:CSt):Bool:=@decide (aQ c∧COk c s) (Classical.propDecidable _)
variable{s:CSt}
theorem bfB{c:Cfg} (a:aQ c) (h:COk c s):cyB c s=true:=by simp[cyB,h,a]
theorem beP{c:Cfg} (h: ¬(aQ c∧COk c s)):cyB c s=false:=by simp[cyB,h]
theorem bmR{c:Cfg}:cyB c s=true↔aQ c∧COk c s:=by simp[cyB]
structure beL (s:CSt):Prop where
 w:s.words.length<2^21
 h:s.holds.length<2^21
 t:s.told.length<2^21
 td: ∀j∈s.told,j.rsp.data.length<2^21
 pl:s.bM.length<2^21
 sl:s.dD.length<2^21
 port: ∀k,(aF s k).queue.length<2^21∧(aF s k).out.length<2^21
 slv: ∀k,(aL s k).pipe.length<2^21∧(aL s k).done.length<2^21∧ ∀j∈(aL s k).done,j.rsp.data.length<2^21
theorem bfE (b:beL s) (c:s.bM.length=3) (d:s.dD.length≤4) (e: ∀k,k<3→(aF s k).queue.length≤3) (f: ∀k,k<s.dD.length→(aL s k).pipe.length≤3∧(aL s k).done.length≤3) (hw:(qU s).length<20) (g:(uQ s).length<20):bdV s:=by
 refine⟨c,d,e,f,hw,g,⟨b.w,b.h,by simpa [cX] using b.pl,?_,?_,b.t,fun j a=> ?_⟩⟩;·show (jX (qU s)).length<_;rw[(fH _).length_eq];omega
 ·show (jX (uQ s)).length<_;rw[(fH _).length_eq];omega
 ·have a:j∈jX (qU s)++jX (uQ s)++s.told:=a;simp only[o3,BF] at a;rcases a with(a|a)|a
  ·rcases wU.1 a with⟨k,_,m,_,rfl⟩|⟨k,_,m,_,rfl⟩
   ·exact(by decide:([]:List Int).length<2^21)
   ·exact(by decide:([]:List Int).length<2^21)
  ·obtain⟨k,_,h⟩:=BU.1 a;exact(b.slv k).2.2 j h
  ·exact b.td j a
theorem be1{a b:Nat} (c:s.bM.length=3) (e:s.dD.length≤4) (g: ∀k,k<3→(aF s k).queue.length≤a) (h: ∀k,k<s.dD.length→(aL s k).pipe.length≤b):(qU s).length≤a*3+b*4:=by
 unfold qU;rw[t2];have i:=QU (f:=jJ s) (m:=a) s.bM.length fun k d=>by rw[c] at d;simpa [jJ] using g k d
 have j:=QU (f:=hJ s) (m:=b) s.dD.length fun k d=>by simpa [hJ] using h k d
 rw[c] at i;have l:=Nat.mul_le_mul_left b e;rw[c];omega
theorem be0{b:Nat} (a:s.dD.length≤4) (c: ∀k,k<s.dD.length→(aL s k).done.length≤b):(uQ s).length≤b*4:=by unfold uQ;have e:=QU (f:=fun k=>(aL s k).done) (m:=b) s.dD.length fun k d=>c k d;have g:=Nat.mul_le_mul_left b a;omega
theorem bd9{c:Cfg} (g:beL s) (hp:a19 c s) (h:s.dD.length=4) (b: ∀k,k<4→Z0 c s k):bdV s:=by have d: ∀k,k<3→(aF s k).queue.length≤2:=fun k a=>(hp.port k a).ql.1;have e: ∀k,k<s.dD.length→(aL s k).pipe.length≤2:=fun k a=>(b k (by omega)).pl;have f: ∀k,k<s.dD.length→(aL s k).done.length≤2:=fun k a=>(b k (by omega)).dl;have i:=be1 hp.pl (by omega) d e;have j:=be0 (by omega) f;exact bfE g hp.pl (by omega) (fun k a=>by have:=d k a;omega) (fun k a=>⟨by have:=e k a;omega,by have:=f k a;omega⟩) (by omega) (by omega)
end Go.AM
namespace Go.Proofs.YtdkfhdmagdaceaaGreat
open Go Go.AM
attribute [local irreducible] aM wv aB vd wvH
section
variable {H : aA} {nx : Nat} {K : D → aA → Nat → Prop}
theorem bd0 (c:Cfg) (s:CSt) (N:jO c) (O:beL s):aB Tryz.prog mW [boR (cU c),boR (eI s)] .nil 0 fun r _ _=>r.plain=true∧r=dB (cyB c s):=by
 have al:=O.w;have an:=O.h;have ao:=O.pl;have aq:=O.sl;refine VM rfl fun Q U=> ?_;unfold AN;have b: ¬(aQ c∧COk c s)→dB false=dB (cyB c s):=fun h=>congrArg dB (beP h).symm;by_cases t:aQ c
 case neg=>
  repeat' first| (first|apply bn1|apply W6 N)<;>(simp only[go_sem,eq_false t])|fail
  all_goals exact U _ _ _ _ _ (.inr rfl) rfl ⟨rfl,b fun h=>t h.1⟩
 by_cases X:JS s.words s.holds∧(s.bM.length:Int)=3∧(s.dD.length:Int)=4
 case neg=>
  have P: ¬(aQ c∧COk c s):=fun⟨_,h⟩=>X ⟨ZS h.atm,by rw[h.pl];rfl,by rw[h.sl];rfl⟩;repeat' first| (first|apply bn1|refine bpL (fun h=> ?_) fun h=> ?_|apply W6 N|refine JZ (w:=s.words) (u:=s.holds) (by omega) (by omega) (aE rfl) ?_)<;>(simp only[go_sem,eq_true t])|refine bnE (fun h=> ?_) fun h=> ?_|fail
  all_goals first|exact U _ _ _ _ _ (.inr rfl) rfl ⟨rfl,b P⟩|exact absurd ⟨by simp_all,by omega,by omega⟩ X
 obtain⟨e,E,g⟩:=X;have E:s.bM.length=3:=by omega
 have g:s.dD.length=4:=by omega
 have Y:=decide_eq_true e;have Z:=decide_eq_true t;repeat' first| (first|apply bn1|apply bpK (by omega)|apply W6 N|refine JZ (by omega) (by omega) (aE rfl) ?_)<;>(simp only[go_sem,eq_true t,Y,Z,E,g])|apply bn3 (by omega)|fail
 refine aM.abC fun bqO R=> ?_;have c0:bqO 0=some ⟨3,1,[cU c]⟩:=by rw[R];rfl
 have c1:bqO 1=some ⟨5,1,[eI s]⟩:=by rw[R];rfl
 clear R;obtain⟨C,F⟩: ∃C:Nat→Int,C=fun k=>((aF s k).out.length:Int):=⟨_,rfl⟩
 obtain⟨G,H⟩: ∃G:Nat→Int,G=fun k=>(((aL s k).pipe.length:Int)+(aL s k).done.length):=⟨_,rfl⟩
 refine aM.gP (β:=Nat) (fun k=>en [(35,boP k),(34,boP 3),(33,dS (s.bM.map cD)),(6,boP 0),(5,boP (jS C k)),(3,.one (.c (.ptr 5 1 0 0))),(2,.one (.c (.ptr 3 0 0 0)))])
  (fun k H1 _=>k≤3∧(∀i,i<k→mD c i (aF s i))∧ ∀id,id<30→H1 id=bqO id) (fun k=>3-k) 0 ⟨noF,_,by repeat' first|exact bo2|refine xqI rfl rfl ?_|refine xqP (by omega) rfl rfl ?_|fail,aK,by omega,fun i hi=>by omega,fun _ _=>rfl⟩ ?_
 rintro k H1 aa ar ⟨hk,I,d⟩ bpQ ab;have bqC:=(d 0 (by omega)).trans c0;have J:=(d 1 (by omega)).trans c1;have D:bQ aa [0,1]:=AM.apart (by simp) (by simp;omega);simp only[bQ,eZ] at D;have au:=KF (f:=C) (m:=4) (by omega) k fun j hj=>by have:=(I j (by omega)).ol;rw[F];dsimp only;omega
 by_cases l:k<3
 ·obtain⟨p,x⟩: ∃p,p=aF s k:=⟨_,rfl⟩
  have L:s.bM.getD k default=p:=x.symm;obtain⟨o,q⟩:=O.port k;have y:jS C (k+1)=jS C k+p.out.length:=by rw[jS,F,x]
  rw[←x] at o q;by_cases a:mD c k p
  ·have n:=beT a;have aw:=a.ol;repeat' first| (first|apply bn1|apply a2P t l o q)<;>(simp only[go_sem,t1,bqT,L,bqC,J,n,D];try simp (disch:=omega) only[Iw])|apply bn2 (by omega)|refine⟨by omega,?_⟩|fail
   exact ab _ _ _ (k+1) noF _ (by omega) (by omega) (by rw[y];repeat' first|exact bo2|refine xqI rfl rfl ?_|refine xqP (by omega) rfl rfl ?_|fail) aK ⟨by omega,iS I (by rw[←x];exact a),fun id S=>by rw[aA.aC (by omega)];exact d id S⟩
  ·have n:=a8A a;repeat' first| (first|apply bn1|apply a2P t l o q)<;>(simp only[go_sem,t1,bqT,L,bqC,J,n,D])|apply bn2 (by omega)|refine⟨by omega,?_⟩|fail
   all_goals exact U _ _ _ _ _ (.inr rfl) rfl ⟨rfl,b fun h=>a (by rw[x];exact h.2.port k l)⟩
 ·have ad:k=3:=by omega
  subst ad;have boS:a19 c s:=⟨E,I⟩
  repeat' first|apply bn1<;>(simp only[go_sem,bqC,J,g])|apply bn3 (by omega)|fail
  refine aM.gP (β:=Nat) (fun k=>en [(54,boP k),(53,boP 4),(52,dS (s.dD.map gF)),(6,boP (jS G k)),(5,boP (jS C 3)),(3,.one (.c (.ptr 5 1 0 0))),(2,.one (.c (.ptr 3 0 0 0)))])
   (fun k H1 _=>k≤4∧(∀i,i<k→Z0 c s i)∧ ∀id,id<30→H1 id=bqO id) (fun k=>4-k) 0 ⟨noF,_,by repeat' first|exact bo2|refine xqI rfl rfl ?_|refine xqP (by omega) rfl rfl ?_|fail,aK,by omega,fun i hi=>by omega,d⟩ ?_
  clear d bqC J D;rintro k H2 ae af ⟨hk,z,d⟩ bqG ag;have bqC:=(d 0 (by omega)).trans c0;have J:=(d 1 (by omega)).trans c1;have D:bQ ae [0,1]:=AM.apart (by simp) (by simp;omega);simp only[bQ,eZ] at D;have ax:=KF (f:=G) (m:=4) (by omega) k fun j hj=>by have h1:=(z j (by omega)).pl;have h2:=(z j (by omega)).dl;rw[H];dsimp only;omega
  by_cases l:k<4
  ·obtain⟨v,T⟩: ∃v,v=aL s k:=⟨_,rfl⟩
   have M:s.dD.getD k default=v:=T.symm;obtain⟨o,q,V⟩:=O.slv k;by_cases a:Z0 c s k
   ·have ah:=a.pl;have ai:=a.dl;rw[←T] at ah ai;have y:jS G (k+1)=jS G k+(v.pipe.length+v.done.length):=(by rw[jS,H,T]);have n:=beR a;repeat' first| (first|apply bn1|apply a2C t boS g l o q V)<;>(simp only[go_sem,t1,bqT,M,bqC,J,n,D];try simp (disch:=omega) only[Iw])|apply bn2 (by omega)|refine⟨by omega,?_⟩|fail
    exact ag _ _ _ (k+1) noF _ (by omega) (by omega) (by rw[y];repeat' first|exact bo2|refine xqI rfl rfl ?_|refine xqP (by omega) rfl rfl ?_|fail) aK ⟨by omega,iS z a,fun id S=>by rw[aA.aC (by omega)];exact d id S⟩
   ·have n:=a6D a;repeat' first| (first|apply bn1|apply a2C t boS g l o q V)<;>(simp only[go_sem,t1,bqT,M,bqC,J,n,D])|apply bn2 (by omega)|refine⟨by omega,?_⟩|fail
    all_goals exact U _ _ _ _ _ (.inr rfl) rfl ⟨rfl,b fun h=>a (h.2.slv k l)⟩
  ·have aj:k=4:=(by omega);subst aj;have W:=bd9 O boS g z;by_cases A:jS C 3=jS G 4
   case neg=>
    have B:(jS C 3=jS G 4)=False:=eq_false A
    have P: ¬(aQ c∧COk c s):=fun⟨_,h⟩=>A (by
     have:=h.count
     unfold hU at this
     rw[F,H]
     simp only[jS]
     omega)
    repeat' first|apply bn1<;>(simp only[go_sem,t1,bqT,bqC,J,B,D])|apply bn3 (by omega)|fail
    all_goals exact U _ _ _ _ _ (.inr rfl) rfl ⟨rfl,b P⟩
   have B:(jS C 3=jS G 4)=True:=eq_true A;repeat' first| (first|apply bn1|refine bdE W (fun H' nx' ay ak=> ?_))<;>(simp only[go_sem,t1,bqT,bqC,J,B,D])|apply bn3 (by omega)|fail
   have boU:=(ak 0 (by omega)).trans bqC;refine⟨fun _=>by rw[boU];rfl,?_⟩;apply aVW t W.st;simp only[go_sem];repeat' first|apply bn1<;>(simp only[go_sem,boU])|fail
   refine U _ _ _ _ _ (.inr rfl) rfl ⟨rfl,congrArg dB ?_⟩;by_cases K:BA c (cX s);·rw[aXJ K];refine(bfB t ⟨⟨by have:=e.1.1;omega,e.1.2,by have:=e.2.1;omega,e.2.2⟩,E,g,I,z,?_,K⟩).symm;unfold hU;rw[F,H] at A;simp only[jS] at A;omega
   ·rw[aWH K,beP fun h=>K h.2.st]
theorem bd4 {c:Cfg} {s:CSt} (a:jO c) (b:beL s) (h:K (dB (cyB c s)) H nx):aB Tryz.prog mW [boR (cU c),boR (eI s)] H nx K:=(bd0 c s a b).pure rfl (aI ⟨aE rfl,aE rfl,trivial⟩) fun r hr=>hr▸h
theorem IH {a:List fC} {b:List fC} (p:a.length<2^40) (q:b.length<2^40) (h:K (dB (decide (a=b))) H nx):aB Tryz.prog oJ [dS (a.map eCJ),dS (b.map eCJ)] H nx K:=by
 refine aB.pure (args0:=[dS (a.map eCJ),dS (b.map eCJ)]) (R:=fun m=>m=dB (decide (a=b))) ?_ rfl (aI ⟨aE rfl,aE rfl,trivial⟩) (fun r hr=>hr▸h);clear h;refine R4 rfl fun Q f=> ?_;unfold xH;by_cases hl:a.length=b.length
 ·repeat' first|apply bn1<;>(simp only[go_sem])|apply bn3 (by omega)|fail
  (refine aM.loop (α:={k:Nat//k≤a.length∧(∀i,i<k→a.getD i default=b.getD i default)}) (fun u=>en [(5,boP u.1),(1,dS (b.map eCJ)),(0,dS (a.map eCJ))]) (fun _=>.nil) _ (fun u=>a.length-u.1) ⟨0,by omega,(by intros;first|trivial|omega)⟩ (bU (m5 _) (by repeat' first|exact bo2|refine xqI rfl rfl ?_|fail)) ?_);(rintro⟨k,s,hinv⟩ bpQ g);by_cases o:k<a.length
  ·have d:xY (eCJ (a.getD k default))=some [(a.getD k default).who,(a.getD k default).n,(a.getD k default).left]:=rfl;have e:xY (eCJ (b.getD k default))=some [(b.getD k default).who,(b.getD k default).n,(b.getD k default).left]:=rfl;have j: ¬a.getD k default=b.getD k default→¬a=b:=fun d e=>d (by rw[e]);have heq:[(a.getD k default).who,(a.getD k default).n,(a.getD k default).left]=[(b.getD k default).who,(b.getD k default).n,(b.getD k default).left]↔a.getD k default=b.getD k default:=(by generalize a.getD k default=x;generalize b.getD k default=y;obtain⟨t,bpZ,aYM⟩:=x;obtain⟨v,aHC,aHD⟩:=y;simp);generalize w:[(a.getD k default).who,(a.getD k default).n,(a.getD k default).left]=X at*;generalize z:[(b.getD k default).who,(b.getD k default).n,(b.getD k default).left]=Y at*;by_cases c:X=Y
   ·have l:(¬X=Y)=False:=eq_false (Classical.not_not.2 c);repeat' first|apply bn1<;>(simp only[go_sem,d,e,c];try simp (disch:=omega) only[Iw])|apply bn2 (by omega)|refine⟨by omega,?_⟩|fail
    (refine g _ _ _ ⟨k+1,by omega,iS hinv (heq.1 c)⟩ (by omega) (by(try dsimp only);omega) (bU (m5 _) (by repeat' first|exact bo2|refine xqI rfl rfl ?_|fail)))
   ·have l:(X=Y)=False:=eq_false c;repeat' first|apply bn1<;>(simp only[go_sem,d,e,l])|apply bn2 (by omega)|refine⟨by omega,?_⟩|fail
    refine aZ f _ rfl rfl (j7 (j fun he=>c (heq.2 he)))
  ·repeat' first|apply bn1<;>(simp only[go_sem])|apply bn3 (by omega)|fail
   refine aZ f _ rfl rfl (q9 (yO hl fun i hi=>hinv i (by omega)))
 ·repeat' first|apply bn1<;>(simp only[go_sem])|apply bn2 (by omega)|fail
  refine aZ f _ rfl rfl (j7 fun he=>hl (by rw[he]))
theorem UQ:cJ Tryz.prog C6 Tryz.f36 AS I4:=cJ.mk Tryz.func36 (by kernel_rfl) TS
theorem YQ (a b:CSt) (g:CSz a) (l:CSz b):aB Tryz.prog C6 [boR (eI a),boR (eI b)] .nil 0 fun r _ _=>r.plain=true∧r=dB (decide (a=b)):=by
 have m:=g.pl;have n:=g.sl;have G:=l.pl;have H:=l.sl;have aw:=g.w;have ah:=g.h;have bw:=l.w;have bh:=l.h;have aAM:=g.t.1;have buW:=l.t.1;have aAN: ∀j∈a.told,j.rsp.data.length<2^40:=fun j o=>by have:=g.t.2 j o;omega
 have buX: ∀j∈b.told,j.rsp.data.length<2^40:=fun j o=>by have:=l.t.2 j o;omega
 refine UQ rfl fun Q I=> ?_;unfold AS;repeat' first| (first|apply bn1|refine bpL (fun h=> ?_) fun h=> ?_|apply YN (a:=a.words) (b:=a.holds) (u:=b.words) (v:=b.holds) (by omega) (by omega) (by omega) (by omega)|apply AL (a:=a.told) (b:=b.told) (by omega) (by omega) aAN buX)<;>(simp only[go_sem,m,n,G,H])|refine bnE (fun h=> ?_) fun h=> ?_|fail
 ·exact I _ _ _ _ _ (.inr rfl) rfl ⟨rfl,j7 fun he=>h (by rw[he];exact⟨rfl,rfl⟩)⟩
 ·exact I _ _ _ _ _ (.inr rfl) rfl ⟨rfl,j7 fun he=>h (by rw[he])⟩
 rename_i M;have M:=Classical.not_not.1 M;have X:=Classical.not_not.1 h;refine aM.abC fun bqO s=> ?_;have c0:bqO 0=some ⟨5,1,[eI a]⟩:=by rw[s];rfl
 have c1:bqO 1=some ⟨5,1,[eI b]⟩:=by rw[s];rfl
 clear s
 refine aM.gP (β:=Nat) (fun k=>en [(5,boP k),(3,.one (.c (.ptr 5 1 0 0))),(2,.one (.c (.ptr 5 0 0 0)))])
  (fun k H1 _=>k≤3∧(∀i,i<k→aF a i=aF b i)∧ ∀id,id<2→H1 id=bqO id) (fun k=>3-k) 0 ⟨noF,_,by repeat' first|exact bo2|refine xqI rfl rfl ?_|refine xqP (by omega) rfl rfl ?_|fail,aK,by omega,by omega,fun _ _=>rfl⟩ ?_
 rintro k H1 N Y ⟨Z,heq,d⟩ bpQ O;have bqC:=(d 0 (by omega)).trans c0;have E:=(d 1 (by omega)).trans c1;have F:bQ N [0,1]:=AM.apart (by simp) (by simp;omega);simp only[bQ,eZ] at F;by_cases e:k<3
 ·obtain⟨p,hp⟩: ∃p,p=aF a k:=⟨_,rfl⟩
  obtain⟨q,f⟩: ∃q,q=aF b k:=⟨_,rfl⟩
  have x:a.bM.getD k default=p:=hp.symm;have y:b.bM.getD k default=q:=f.symm;have K:=g.port k e;have L:=l.port k e;rw[←hp] at K;rw[←f] at L;have z: ¬p=q→¬a=b:=fun A B=>A (by rw[hp,f,B]);have C:p.next=q.next→p.last=q.last→p.queue=q.queue→p.out=q.out→aF a k=aF b k:=by rw[←hp,←f];obtain⟨x1,bpZ,aYM,aAO⟩:=p;obtain⟨y1,aHC,aHD,aAP⟩:=q;dsimp only;intro A B P h4;subst A;subst B;subst P;subst h4;rfl
  repeat' first| (first|apply bn1|refine bpL (fun h=> ?_) fun h=> ?_|apply tP (a:=p.queue) (b:=q.queue) (by omega) (by omega)|apply IH (a:=p.out) (b:=q.out) (by omega) (by omega))<;>(simp only[go_sem,boC,x,y,bqC,E,F,m,G];try simp (disch:=omega) only[Iw])|apply bn2 (by omega)|refine bnE (fun h=> ?_) fun h=> ?_|refine⟨by omega,?_⟩|fail
  all_goals first|exact I _ _ _ _ _ (.inr rfl) rfl ⟨rfl,j7 (z fun he=>h (by rw[he]))⟩|skip
  exact O _ _ _ (k+1) noF _ (by omega) (by omega) (by repeat' first|exact bo2|refine xqI rfl rfl ?_|refine xqP (by omega) rfl rfl ?_|fail) aK ⟨by omega,iS heq (C (Classical.not_not.1 (by assumption)) (Classical.not_not.1 (by assumption)) (Classical.not_not.1 (by assumption)) (Classical.not_not.1 (by assumption))),fun id D=>by rw[aA.aC (by omega),aA.aC (by omega)];exact d id D⟩
 ·have R:k=3:=by omega
  subst R;repeat' first|apply bn1<;>(simp only[go_sem,bqC,E,m])|apply bn3 (by omega)|fail
  refine aM.gP (β:=Nat) (fun k=>en [(8,boP k),(3,.one (.c (.ptr 5 1 0 0))),(2,.one (.c (.ptr 5 0 0 0)))])
   (fun k H1 _=>k≤4∧(∀i,i<k→aL a i=aL b i)∧ ∀id,id<2→H1 id=bqO id) (fun k=>4-k) 0 ⟨noF,_,by repeat' first|exact bo2|refine xqI rfl rfl ?_|refine xqP (by omega) rfl rfl ?_|fail,aK,by omega,by omega,d⟩ ?_
  clear bqC E F d;rintro k H2 S W ⟨Z,J,d⟩ bqG T;have bqC:=(d 0 (by omega)).trans c0;have E:=(d 1 (by omega)).trans c1;have F:bQ S [0,1]:=AM.apart (by simp) (by simp;omega);simp only[bQ,eZ] at F;by_cases e:k<4
  ·obtain⟨p,hp⟩: ∃p,p=aL a k:=⟨_,rfl⟩
   obtain⟨q,f⟩: ∃q,q=aL b k:=⟨_,rfl⟩
   have x:a.dD.getD k default=p:=hp.symm;have y:b.dD.getD k default=q:=f.symm;have K:=g.slv k e;have L:=l.slv k e;rw[←hp] at K;rw[←f] at L;have z: ¬p=q→¬a=b:=fun A B=>A (by rw[hp,f,B]);have C:p.last=q.last→p.pipe=q.pipe→p.done=q.done→aL a k=aL b k:=(by rw[←hp,←f];obtain⟨x1,bpZ,aYM⟩:=p;obtain⟨y1,aHC,aHD⟩:=q;dsimp only;intro A B P;subst A;subst B;subst P;rfl);repeat' first| (first|apply bn1|refine bpL (fun h=> ?_) fun h=> ?_| (refine AL (a:=p.done) (b:=q.done) (by omega) (by omega) (fun j o=>by have:=K.2.2 j o;omega) (fun j o=>by have:=L.2.2 j o;omega) ?_)|apply IH (a:=p.pipe) (b:=q.pipe) (by omega) (by omega))<;>(simp only[go_sem,boC,x,y,bqC,E,F,n,H];try simp (disch:=omega) only[Iw])|apply bn2 (by omega)|refine bnE (fun h=> ?_) fun h=> ?_|refine⟨by omega,?_⟩|fail
   all_goals first|exact I _ _ _ _ _ (.inr rfl) rfl ⟨rfl,j7 (z fun he=>h (by rw[he]))⟩|skip
   exact T _ _ _ (k+1) noF _ (by omega) (by omega) (by repeat' first|exact bo2|refine xqI rfl rfl ?_|refine xqP (by omega) rfl rfl ?_|fail) aK ⟨by omega,iS J (C (Classical.not_not.1 (by assumption)) (Classical.not_not.1 (by assumption)) (Classical.not_not.1 (by assumption))),fun id D=>by rw[aA.aC (by omega),aA.aC (by omega)];exact d id D⟩
  ·have U:k=4:=(by omega);subst U;have V:a=b:=by have boS:a.bM=b.bM:=yO (by omega) fun i hi=>heq i (by omega);have hV:a.dD=b.dD:=yO (by omega) fun i hi=>J i (by omega);obtain⟨az9,az2,aAD,aAE,aAA⟩:=a;obtain⟨b1,b2,boX,boY,boZ⟩:=b;dsimp only at*;obtain⟨rfl,rfl⟩:=M;subst boS;subst hV;subst X;rfl
   repeat' first|apply bn1<;>(simp only[go_sem,bqC,E,n])|apply bn3 (by omega)|fail
   exact I _ _ _ _ _ (.inr rfl) rfl ⟨rfl,q9 V⟩
theorem aoR {a b:CSt} (c:CSz a) (d:CSz b) (h:K (dB (decide (a=b))) H nx):aB Tryz.prog C6 [boR (eI a),boR (eI b)] H nx K:=(YQ a b c d).pure rfl (aI ⟨aE rfl,aE rfl,trivial⟩) fun r hr=>hr▸h
end
end Go.Proofs.YtdkfhdmagdaceaaGreat
