/- Rules and contracts. -/
import Derived.Test.YtlncecohbakleaaGreatPR21
set_option linter.unusedVariables false
set_option linter.unusedSimpArgs false
set_option maxRecDepth 100000
set_option maxHeartbeats 8000000
namespace Go.AM
theorem ZT{H:aA}{e:Env}{t n id m j d b l k:Nat}{cs a:List D1}{x:DV}(he:e t= .one (.c (.ptr n id 0 0)))(o:H id=some ⟨n,m,[cs]⟩)(hl:cs.length=n)(f:e j= .one (.c (.ptr d b 0 0)))(g:H b=some ⟨d,l,[a]⟩)(h:a.length=d)(i:e k= .one x):mT H e [.cell t n true,.cell j d true,.tm k]=some (.tup [.agg cs,.agg a,x]):=by subst hl;subst h;simp[mT,VF,he,f,i,qB,o,g,mkV,Xv]
theorem tR.Uj{i:CIn}(h:tR i):PM i:=by obtain⟨a,b,c⟩:=h;exact⟨by omega,by omega,by omega⟩
def inZ:CIn:=⟨[],[],[]⟩
theorem Qf{H:aA}{F:Nat->Prop}{σ:Nat->Nat}{nh:Nat}{xs:List CIn}{io cap m:Nat}(e:H io=some ⟨3,m,xs.map eIn++[[.osl 0 0 0 0 0,.osl 0 0 0 0 0,.osl 0 0 0 0 0]]⟩)(hc:xs.length+1<=cap)(f:F io):Cv1 H F σ nh (.isl ((xs++[inZ]).map eIn)) (.osl 3 io 0 (xs.length+1) cap):=by
 have hl:((xs++[inZ]).map eIn).length=xs.length+1:=by simp
 have b: ∀(i:Nat) (r:List D1),((xs++[inZ]).map eIn)[i]?=some r->(i<xs.length/\(xs.map eIn)[i]?=some r)\/(i=xs.length/\r=eIn inZ):=fun i r hr=>by
  rw[abU] at hr;by_cases h:i<xs.length;·rw[adC (by simpa using h)] at hr;exact .inl ⟨h,hr⟩
  ·have hi:=(abN.1 hr).1;simp only[abL,abT,List.length_cons,List.length_nil] at hi;have he:i=xs.length:=(by omega);subst he;rw[adM (by simp)] at hr;simp at hr;exact .inr ⟨rfl,hr.symm⟩
 have key:=Frz.frz (H:=H) (F:=F) ((xs++[inZ]).map eIn) 3 io 0 cap ⟨3,m,xs.map eIn++[[.osl 0 0 0 0 0,.osl 0 0 0 0 0,.osl 0 0 0 0 0]]⟩ (fun i j=>if i<xs.length then ((((xs.map eIn)[i]?).getD [])[j]?).getD .dead else .osl 0 0 0 0 0) f e rfl (by simp) (by rw[hl];exact hc) (fun i r hr=>by
  rcases b i r hr with⟨_,h⟩|⟨_,rfl⟩
  ·obtain⟨x,_,rfl⟩:=abP.1 (abV h);rfl
  ·rfl) (fun i j r d c a=>by
  rcases b i r c with⟨hi,h⟩|⟨rfl,rfl⟩
  ·refine⟨r,by rw[acS,adC (by simpa using hi)];exact h,?_⟩;rw[if_pos hi,h];simp[a]
  ·refine⟨_,by rw[acS,adM (by simp)];simp;rfl,?_⟩;rw[if_neg (adU _)]
   match j,a with
   |0,_=>rfl
   |1,_=>rfl
   |2,_=>rfl
   |j+3,a=>simp[eIn,inZ] at a) (fun i j r d c a=>by
  rcases b i r c with⟨hi,h⟩|⟨rfl,rfl⟩
  ·rw[if_pos hi,h];simp only[Option.getD_some,a];obtain⟨x,_,rfl⟩:=abP.1 (abV h);exact .same d (abX.1 (Bc x).2 d (abV a))
  ·rw[if_neg (adU _)]
   match j,a with
   |0,a=>cases a;exact .nil ..
   |1,a=>cases a;exact .nil ..
   |2,a=>cases a;exact .nil ..
   |j+3,a=>simp[eIn,inZ] at a)
 rw[hl] at key;exact .frz key
theorem aC.still{P:Program}{f:FuncId}{args:List D}{d:D}{H:aA}{nx:Nat}{K:afC}(a:d.imm=true)(b:args.all D.imm=true)
 (h: ∀{K:afC},(∀H' nx',0<=nx'->(∀id,id<0->H' id=aA.nil id)->K d H' nx')->aC P f args .nil 0 K) (c:K d H nx):aC P f args H nx K:=
 aC.fresh (R:=fun r=>r=d) (aC.forget (h fun _ _ _ _=>⟨d,aF a,rfl,a,rfl⟩)) b fun r hr=>hr▸c
end Go.AM
namespace Go.Proofs.YtlncecohbakleaaGreat
open Go Go.AM
attribute [local irreducible] aJ wv aC vd wvH
section
variable{H:aA}{nx:Nat}{K:afC}
def Vp(L:List Int)(nx:Nat)(H:aA)(c:Cfg)(s:CSt)(M P:Nat)(u:Nat×List CIn×Nat×Nat)(H1:aA)(a:Nat):Prop:=u.1<=P/\u.2.1.length<=M/\(∀x∈u.2.1,tR x)/\nx+14<=u.2.2.1/\u.2.2.1<a/\H1 (nx+6)=some (rdO L u.1)/\H1 nx=some ⟨3,1,[[.osl 0 0 0 0 0,.osl 0 0 0 0 0,.osl 0 0 0 0 0]]⟩/\H1 (nx+1)=some ⟨5,1,[[.osl 0 0 0 0 0,.osl 0 0 0 0 0,.osl 0 0 0 0 0,.osl 0 0 0 0 0,.osl 0 0 0 0 0]]⟩/\H1 (nx+12)=some ⟨3,1,[bI c]⟩/\H1 (nx+13)=some ⟨5,1,[bK s]⟩/\(∃m,H1 u.2.2.1=some ⟨3,m,u.2.1.map eIn⟩/\u.2.1.length<=u.2.2.2/\u.2.2.2<=m)/\ ∀id,id<nx->H1 id=H id
theorem SK{l:List Int}(hl:fW l)(h: ∀H' nx' c s xs,nx<=nx'->iN c->BB s->EI s->HE xs->(∀id,id<nx->H' id=H id)->K (.tup [.agg (bI c),.agg (bK s),.c (.isl (xs.map eIn))]) H' nx'):afB wC [dS (l.map eU8)] H nx K:=by
 have v:fW (l.take 2000):=⟨by simp;omega,fun x w=>hl.byte x (List.take_subset _ _ w)⟩
 apply aC.kH;refine bR.mk Tryz.func26 (by kernel_rfl) RR rfl fun Q hQ=> ?_;unfold mZ;repeat' first| (first|apply vI|apply B7.ZV)<;>(simp only[go_sem,nL])|fail
 refine WN (p:=0) (n:=16) (by omega) v (by omega) (by omega) aA.aI fun H1 aa p1 c s bh bk L hf ha y z=> ?_;have k:H1 nx=some ⟨3,1,[[.osl 0 0 0 0 0,.osl 0 0 0 0 0,.osl 0 0 0 0 0]]⟩:=by rw[z _ (by omega) (by omega)];simp (disch:=omega) only[aA.aB,aA.aI]
 have o:H1 (nx+1)=some ⟨5,1,[[.osl 0 0 0 0 0,.osl 0 0 0 0 0,.osl 0 0 0 0 0,.osl 0 0 0 0 0,.osl 0 0 0 0 0]]⟩:=by rw[z _ (by omega) (by omega)];simp (disch:=omega) only[aA.aB,aA.aI]
 have A: ∀id,id<nx->H1 id=H id:=fun id a=>by rw[z _ (by omega) (by omega)];simp (disch:=omega) only[aA.aB]
 clear z;have B:aO aa [nx,nx+1,nx+6,nx+12,nx+13]:=AM.apart (by simp) (by simp;omega);simp only[aO,bG] at B;(try simp only[go_sem,nL,k,o,y,B,nL]);repeat' first|apply vI<;>(simp only[go_sem,nL,k,o,y,B,nL])|fail
 refine NY (p:=p1) (n:=30) (by omega) v (by omega) (by omega) (by rw[aA.aB (by omega),aA.aB (by omega)];exact y) fun H2 ab p2 xs bp br bw M ad g io cap m a1 a2 N W X=> ?_;have O:H2 nx=some ⟨3,1,[[.osl 0 0 0 0 0,.osl 0 0 0 0 0,.osl 0 0 0 0 0]]⟩:=by rw[g _ (by omega) (by omega),aA.aB (by omega),aA.aB (by omega)];exact k
 have P:H2 (nx+1)=some ⟨5,1,[[.osl 0 0 0 0 0,.osl 0 0 0 0 0,.osl 0 0 0 0 0,.osl 0 0 0 0 0,.osl 0 0 0 0 0]]⟩:=by rw[g _ (by omega) (by omega),aA.aB (by omega),aA.aB (by omega)];exact o
 have q:H2 (nx+12)=some ⟨3,1,[bI c]⟩:=by rw[g _ (by omega) (by omega),aA.aB (by omega)];exact aA.aI
 have r:H2 (nx+13)=some ⟨5,1,[bK s]⟩:=by rw[g _ (by omega) (by omega)];exact aA.aI
 have Y: ∀id,id<nx->H2 id=H id:=fun id a=>by rw[g _ (by omega) (by omega),aA.aB (by omega),aA.aB (by omega)];exact A id a
 clear g k o A y B;simp only[go_sem];try apply kI
 refine aJ.Wa (β:=Nat×List CIn×Nat×Nat) (fun u=>en [(8,.one (.c (.osl 3 u.2.2.1 0 u.2.1.length u.2.2.2))),(7,dP 5 (nx+13)),(6,dP 3 (nx+12)),(5,dP 2 (nx+6)),(3,dP 5 (nx+1)),(2,dP 3 nx)]) (Vp (l.take 2000) nx H c s 301 10007) (fun KJ R=> ?_) ?_
 ·have d:aO ab [nx,nx+1,nx+6,nx+12,nx+13,io]:=AM.apart (by simp;omega) (by simp;omega);simp only[aO,bG] at d;repeat' first| (first|apply vI|refine eX (n:=30) (p:=p2) (by omega) v (by omega) (by omega) ad (fun p3 bb ca cc _=> ?_))<;>(simp only[go_sem,nL,O,P,q,r,N,d])| ((refine y5 (fun h=> ?_) (fun h=> ?_))<;>try subst h)|fail
  ·refine aJ.cG (β:=List CIn×Nat×Nat) (fun u=>en [(8,.one (.c (.osl 3 u.2.1 0 u.1.length u.2.2))),(7,dP 5 (nx+13)),(6,dP 3 (nx+12)),(5,dP 2 (nx+6)),(3,dP 5 (nx+1)),(2,dP 3 nx)])
    (fun u H4 e=>Vp (l.take 2000) nx H c s 301 10007 (p3,u.1,u.2.1,u.2.2) H4 e) (fun u=>301-u.1.length) (xs,io,cap)
    ⟨noF,_,by dsimp only;repeat' first|exact C1|refine xqP (by omega) rfl rfl ?_|refine xqO (by omega) rfl rfl (by rfl) ?_|fail,aE,⟨by dsimp only;omega,by dsimp only;omega,M,by dsimp only;omega,by dsimp only;omega,aA.aI,(by simp only[aA.set,aA.del,abH,Nat.reduceAdd,abJ,Nat.reduceEqDiff,abI,abK,if_true,if_false,d,O];done),(by simp only[aA.set,aA.del,abH,Nat.reduceAdd,abJ,Nat.reduceEqDiff,abI,abK,if_true,if_false,d,P];done),(by simp only[aA.set,aA.del,abH,Nat.reduceAdd,abJ,Nat.reduceEqDiff,abI,abK,if_true,if_false,d,q];done),(by simp only[aA.set,aA.del,abH,Nat.reduceAdd,abJ,Nat.reduceEqDiff,abI,abK,if_true,if_false,d,r];done),⟨m,(by simp only[aA.set,aA.del,abH,Nat.reduceAdd,abJ,Nat.reduceEqDiff,abI,abK,if_true,if_false,d,N];done),W,X⟩,fun id a=>by rw[aA.aB (by omega)];exact Y id a⟩⟩ ?_
   clear O P q r Y N W X d
   rintro⟨E,b,ce⟩ H4 e S ⟨T,Z,F,u4,u5,k,o,G,I,J,⟨me,C,U,e2⟩,A⟩ KL ah
   dsimp only at T Z F u4 u5 k o G I J C U e2
   have d:aO e [nx,nx+1,nx+6,nx+12,nx+13,b]:=AM.apart (by simp;omega) (by simp;omega)
   simp only[aO,bG] at d
   by_cases cd:E.length<=300
   ·repeat' first| (first|apply vI|refine jv (fun H5 ao cf D=> ?_))<;>(simp only[go_sem,nL,C,d])|apply vT (by omega)|fail
    have w0:=(D (nx+6) (by omega)).trans k;have w1:=(D nx (by omega)).trans o;have w2:=(D (nx+1) (by omega)).trans G;have w3:=(D (nx+12) (by omega)).trans I;have w4:=(D (nx+13) (by omega)).trans J;have w5:=(D b (by omega)).trans C;have wf: ∀id,id<nx->H5 id=H id:=fun id a=>(D id (by omega)).trans (A id a);clear D k o G I J C A;have f:aO ao [nx,nx+1,nx+6,nx+12,nx+13,b,e+5,e+6]:=AM.apart (by simp;omega) (by simp;omega);simp only[aO,bG] at f;have V:List.take E.length (E.map eIn)=E.map eIn:=abM (by simp);(try simp only[go_sem,nL,w5,f,V,abT]);repeat' first|apply vI<;>(simp only[go_sem,nL,w5,f,V,abT])| (with_reducible first|refine fun(cap:Nat) (t:_<=cap)=> ?_|refine fun(aw:_<=cap)=> ?_)|refine⟨by omega,?_⟩|fail
    exact ah _ _ _ (E++[ze],e+6,cap) noF _ (by omega) (by simp;omega) (by dsimp only;rw[abL,List.length_singleton];repeat' first|exact C1|refine xqP (by omega) rfl rfl ?_|refine xqO (by omega) rfl rfl (by rfl) ?_|fail) aE ⟨T,by simp;omega,fun i hi=>(abS.1 hi).elim (F i) fun hi=>by simp only[abQ,acG,or_false] at hi;subst hi;exact Nh,by dsimp only;omega,by dsimp only;omega,(by simp only[aA.set,aA.del,abH,Nat.reduceAdd,abJ,Nat.reduceEqDiff,abI,abK,if_true,if_false,f,w0];done),(by simp only[aA.set,aA.del,abH,Nat.reduceAdd,abJ,Nat.reduceEqDiff,abI,abK,if_true,if_false,f,w1];done),(by simp only[aA.set,aA.del,abH,Nat.reduceAdd,abJ,Nat.reduceEqDiff,abI,abK,if_true,if_false,f,w2];done),(by simp only[aA.set,aA.del,abH,Nat.reduceAdd,abJ,Nat.reduceEqDiff,abI,abK,if_true,if_false,f,w3];done),(by simp only[aA.set,aA.del,abH,Nat.reduceAdd,abJ,Nat.reduceEqDiff,abI,abK,if_true,if_false,f,w4];done),⟨cap,aA.aI,by simpa using t,abG _⟩,fun id a=>by rw[aA.aB (by omega),aA.aB (by omega),aA.cC (by omega)];exact wf id a⟩
   ·repeat' first|apply vI<;>(simp only[go_sem])|apply vF (by omega)|fail
    exact R _ _ _ (p3,E,b,ce) noF _ (by omega) (by dsimp only;repeat' first|exact C1|refine xqP (by omega) rfl rfl ?_|refine xqO (by omega) rfl rfl (by rfl) ?_|fail) aE ⟨T,Z,F,u4,by dsimp only;omega,k,o,G,I,J,⟨me,C,U,e2⟩,A⟩
  ·exact R _ _ _ (p3,xs,io,cap) noF _ (by omega) (by dsimp only;repeat' first|exact C1|refine xqP (by omega) rfl rfl ?_|refine xqO (by omega) rfl rfl (by rfl) ?_|fail) aE ⟨by dsimp only;omega,by dsimp only;omega,M,by dsimp only;omega,by dsimp only;omega,aA.aI,(by simp only[aA.set,aA.del,abH,Nat.reduceAdd,abJ,Nat.reduceEqDiff,abI,abK,if_true,if_false,d,O];done),(by simp only[aA.set,aA.del,abH,Nat.reduceAdd,abJ,Nat.reduceEqDiff,abI,abK,if_true,if_false,d,P];done),(by simp only[aA.set,aA.del,abH,Nat.reduceAdd,abJ,Nat.reduceEqDiff,abI,abK,if_true,if_false,d,q];done),(by simp only[aA.set,aA.del,abH,Nat.reduceAdd,abJ,Nat.reduceEqDiff,abI,abK,if_true,if_false,d,r];done),⟨m,(by simp only[aA.set,aA.del,abH,Nat.reduceAdd,abJ,Nat.reduceEqDiff,abI,abK,if_true,if_false,d,N];done),W,X⟩,fun id a=>by rw[aA.aB (by omega)];exact Y id a⟩
 clear O P q r Y N W X;rintro⟨p4,E,b,ce⟩ H4 e S ⟨T,Z,F,u4,u5,k,o,G,I,J,⟨me,C,U,e2⟩,A⟩;dsimp only at T Z F u4 u5 k o G I J C U e2 ⊢;have d:aO e [nx,nx+1,nx+6,nx+12,nx+13,b]:=AM.apart (by simp;omega) (by simp;omega);simp only[aO,bG] at d;repeat' first| (first|apply vI|refine eX (n:=30) (p:=p4) (by omega) v (by omega) (by omega) k (fun p5 bb ck cl _=> ?_))<;>(simp only[go_sem,nL,o,G,I,J,C,d])| (with_reducible first|refine fun(cap:Nat) (t:_<=cap)=> ?_|refine fun(aw:_<=cap)=> ?_)| ((refine y5 (fun h=> ?_) (fun h=> ?_))<;>try subst h)|refine⟨by omega,?_⟩|fail
 ·refine hQ _ _ _ _ _ (.inr rfl) (ZT rfl ((aA.aB (by omega)).trans aA.aI) rfl rfl aA.aI rfl rfl) ⟨.tup [.agg (bI c),.agg (bK s),.c (.isl ((E++[inZ]).map eIn))],_,fun j=>j=e+5,Pc (SB (w7 fun x w=>abX.1 (Gq c).2 x w)) (SB (w7 fun x w=>abX.1 (Gp s).2 x w)) (Vt (Qf (by rw[aA.aB (by omega),aA.aB (by omega)];exact aA.aI) t rfl)),C6,h _ _ c s _ (by omega) L hf ha ⟨by simp;omega,fun i hi=> ?_⟩ fun id a=> ?_⟩
  ·rcases abS.1 hi with hi|hi;·exact(F i hi).Uj
   ·simp only[abQ,acG,or_false] at hi;subst hi;exact⟨by decide,by decide,by decide⟩
  ·rw[aA.cC (by omega),aA.aB (by omega),aA.aB (by omega),aA.aB (by omega),aA.aB (by omega),aA.aB (by omega),aA.cC (by omega)];exact A id a
 ·refine hQ _ _ _ _ _ (.inr rfl) (ZT rfl ((aA.aB (by omega)).trans aA.aI) rfl rfl aA.aI rfl rfl) ⟨.tup [.agg (bI c),.agg (bK s),.c (.isl (E.map eIn))],_,fun j=>j=b,Pc (SB (w7 fun x w=>abX.1 (Gq c).2 x w)) (SB (w7 fun x w=>abX.1 (Gp s).2 x w)) (Vt (cP Bc (by rw[aA.aB (by omega),aA.aB (by omega),aA.aB (by omega)];exact C) rfl U rfl)),C6,h _ _ c s _ (by omega) L hf ha ⟨by omega,fun i hi=>(F i hi).Uj⟩ fun id a=> ?_⟩;rw[aA.cC (by omega),aA.aB (by omega),aA.aB (by omega),aA.aB (by omega)];exact A id a
end
theorem Lz(code:List Int)(ah: ∀x∈code,0<=x/\x<256):afB K5 [dS (code.map eU8)] .nil 0 fun rr _ _=>rr.plain=true/\rr=dB true:=by
 refine bR.mk Tryz.func4 (by kernel_rfl) U2 rfl fun Q hQ=> ?_;unfold qM;by_cases ao:code.length<=1048576
 case neg=>
  repeat' first|apply vI<;>(simp only[go_sem])|apply vT (by omega)|fail
  exact hQ _ _ _ _ _ (.inr rfl) rfl ⟨rfl,rfl⟩
 have hl:fW code:=⟨by omega,ah⟩
 repeat' first| (first|apply vI|refine SK hl (fun H1 d c s l ca e w ha hi aw=> ?_))<;>(simp only[go_sem])|apply vF (by omega)|fail
 generalize v:aA.set _ 11 _=G;have f:G 10=some ⟨3,1,[bI c]⟩:=by rw[<-v];simp (disch:=omega) only[aA.aB,aA.aI]
 have g:G 11=some ⟨5,1,[bK s]⟩:=by rw[<-v];exact aA.aI
 clear v aw;have j:aO d [10,11]:=AM.apart (by simp) (by simp;omega);simp only[aO,bG] at j;have R: ∀{H:aA} {nx:Nat} {K:afC},K (dB true) H nx->afB FR [] H nx K:=fun h=>wg h;cases hr:J1 c s l
 ·have N:gw c s l=HO:=if_neg (by rw[hr];decide);have E:RH c s l=[]:=if_neg (by rw[hr];decide);have h1: ∀{H:aA} {nx:Nat} {K:afC},K (dA (bK HO)) H nx->afB iC [dA (bI c),dA (bK s),dS (l.map eIn)] H nx K:=fun h=>aC.still rfl rfl (N▸xM e w hi) h;have h2: ∀{H:aA} {nx:Nat} {K:afC},K (dA (bK HO)) H nx->afB rK [dA (bI c),dA (bK s),dS (l.map eIn)] H nx K:=fun h=>aC.still rfl rfl (N▸NO e w hi) h;have h3: ∀{H:aA} {nx:Nat} {K:afC},K (dS (([]:List Ev).map eEv)) H nx->afB lA [dA (bI c),dA (bK s),dS (l.map eIn)] H nx K:=fun h=>aC.still rfl rfl (E▸HQ e w hi) h;have h4: ∀{H:aA} {nx:Nat} {K:afC},K (dS (([]:List Ev).map eEv)) H nx->afB nJ [dA (bI c),dA (bK s),dS (l.map eIn)] H nx K:=fun h=>aC.still rfl rfl (E▸IG e w hi) h;have h5: ∀{H:aA} {nx:Nat} {K:afC},K (dB true) H nx->afB iM [dS (([]:List Ev).map eEv),dS (([]:List Ev).map eEv)] H nx K:=fun h=>J8 (a:=[]) (b:=[]) (by simp) (by simp) (by simpa using h);have hz:HO.bC.length=0:=rfl;(try simp only[go_sem,nL,f,g,j,hz,abT,ab9,List.length_nil,nL]);repeat' first| (first|apply vI|apply Y4 (by omega)|apply h1|apply h3|apply h2|apply ni|apply h4|apply h5|apply R)<;>(simp only[go_sem,nL,f,g,j,hz,abT,ab9,List.length_nil,nL])|apply vT (by omega)|fail
  exact hQ _ _ _ _ _ (.inr rfl) rfl ⟨rfl,rfl⟩
 obtain⟨h2,cc,q⟩:=AZ.1 hr;obtain⟨y,hs⟩:=wH.1 h2;obtain⟨X,hX⟩: ∃X,X=uC c s l:=⟨_,rfl⟩
 obtain⟨T,hT⟩: ∃T,T=eE c s l:=⟨_,rfl⟩
 have N:gw c s l=X:=(if_pos hr).trans hX.symm;have E:RH c s l=T:=(if_pos hr).trans hT.symm;have F:COk c X:=hX▸(FL y hs).1;have cd:T.length<=3000:=by rw[<-E];exact Pg
 have q1: ∀{H:aA} {nx:Nat} {K:afC},K (dA (bK X)) H nx->afB iC [dA (bI c),dA (bK s),dS (l.map eIn)] H nx K:=fun h=>aC.still rfl rfl (N▸xM e w hi) h;have q2: ∀{H:aA} {nx:Nat} {K:afC},K (dA (bK X)) H nx->afB rK [dA (bI c),dA (bK s),dS (l.map eIn)] H nx K:=fun h=>aC.still rfl rfl (N▸NO e w hi) h;have q3: ∀{H:aA} {nx:Nat} {K:afC},K (dS (T.map eEv)) H nx->afB lA [dA (bI c),dA (bK s),dS (l.map eIn)] H nx K:=fun h=>aC.still rfl rfl (E▸HQ e w hi) h;have q4: ∀{H:aA} {nx:Nat} {K:afC},K (dS (T.map eEv)) H nx->afB nJ [dA (bI c),dA (bK s),dS (l.map eIn)] H nx K:=fun h=>aC.still rfl rfl (E▸IG e w hi) h;have q5: ∀{H:aA} {nx:Nat} {K:afC},K (dB true) H nx->afB iM [dS (T.map eEv),dS (T.map eEv)] H nx K:=fun h=>J8 (a:=T) (b:=T) (by omega) (by omega) (by rw[decide_eq_true rfl];exact h);have q6: ∀{H:aA} {nx:Nat} {K:afC},K (dB true) H nx->afB i7 [dA (bK X),dA (bK X)] H nx K:=fun h=>tz (F.sz y) (F.sz y) (by rw[decide_eq_true rfl];exact h);have U:=F.pl;(try simp only[go_sem,nL,f,g,j,U,nL]);repeat' first| (first|apply vI|apply q1|apply q3|apply q2|apply q6|apply q4|apply q5)<;>(simp only[go_sem,nL,f,g,j,U,nL])|apply vF (by omega)|fail
 clear q1 q2 q3 q4 N E;generalize v:aA.set _ (d+34) _=V;have o:V 10=some ⟨3,1,[bI c]⟩:=by rw[<-v];simp (disch:=omega) only[aA.aB];exact f
 have p:V 11=some ⟨5,1,[bK s]⟩:=by rw[<-v];simp (disch:=omega) only[aA.aB];exact g
 have P:V (d+4)=some ⟨5,1,[bK X]⟩:=by rw[<-v];simp (disch:=omega) only[aA.aB,aA.aI]
 have I:V (d+32)=some ⟨5,1,[bK s]⟩:=by rw[<-v];simp (disch:=omega) only[aA.aB,aA.aI]
 have ka:V (d+34)=some ⟨3,0,[]⟩:=by rw[<-v];exact aA.aI
 clear v f g j
 refine aJ.cG (β:=Nat×Nat×Nat) (fun u=>en [(10,dI u.1),(9,.one (.c (.osl 3 u.2.1 0 (eE c s (l.take u.1)).length u.2.2))),(8,.one (.c (.ptr 5 (d+32) 0 0))),(7,dS (T.map eEv)),(6,.one (.c (.ptr 5 (d+4) 0 0))),(5,dS (l.map eIn)),(4,.one (.c (.ptr 5 11 0 0))),(3,.one (.c (.ptr 3 10 0 0)))])
  (fun u C n3=>u.1<=l.length/\d+34<=u.2.1/\u.2.1<n3/\C 10=some ⟨3,1,[bI c]⟩/\C 11=some ⟨5,1,[bK s]⟩/\C (d+4)=some ⟨5,1,[bK X]⟩/\C (d+32)=some ⟨5,1,[bK (uC c s (l.take u.1))]⟩/\ ∃m,C u.2.1=some ⟨3,m,(eE c s (l.take u.1)).map eEv⟩/\(eE c s (l.take u.1)).length<=u.2.2/\u.2.2<=m)
  (fun u=>l.length-u.1) (0,d+34,0) ⟨noF,_,by dsimp only[List.take_zero,eE,List.length_nil];repeat' first|exact C1|refine xqI rfl rfl ?_|refine xqP (by omega) rfl rfl ?_|refine xqO (by omega) rfl rfl (by rfl) ?_|fail,aE,by dsimp only;omega,by dsimp only;omega,by dsimp only;omega,o,p,P,I,0,ka,abG _,abG _⟩ ?_
 clear o p P I ka;rintro⟨k,io,cap⟩ C W cf ⟨hk,bb,bh,o,p,P,I,m,Z,o2,o3⟩ KL bk;dsimp only at hk bb bh I Z o2 o3;obtain⟨S,t⟩: ∃S,S=uC c s (l.take k):=⟨_,rfl⟩
 obtain⟨O,z⟩: ∃O,O=eE c s (l.take k):=⟨_,rfl⟩
 have hS:COk c S:=by rw[t];exact(FL y hs).1
 have aa:=((hS.base y).tn.fit).1;rw[<-t] at I;rw[<-z] at Z o2 ⊢;have ck:O.length<=3000:=by have h1:=EB (c:=c) (l:=l.take k) (s:=s);rw[<-z,ab5] at h1;omega
 have j:aO W [10,11,d+4,d+32,io]:=AM.apart (by simp;omega) (by simp;omega);simp only[aO,bG] at j;by_cases J:k<l.length
 ·obtain⟨i,A⟩: ∃i,i=l.getD k default:=⟨_,rfl⟩
  have B:tR i:=by rw[A];exact q _ (bT J)
  have ab:=wH.2 ⟨y,hS⟩;have w1: ∀{H:aA} {nx:Nat} {K:afC},K (dS ((E9 c i S).map eEv)) H nx->afB mJ [dA (bI c),dA (bK S),dA (eIn i)] H nx K:=fun h=>aC.still rfl rfl (Fp ab (JA.2 B)▸TA e aa B.fit) h;have w2: ∀{H:aA} {nx:Nat} {K:afC},K (dA (bK (yR c i S))) H nx->afB uO [dA (bI c),dA (bK S),dA (eIn i)] H nx K:=fun h=>aC.still rfl rfl ((show Ga c S i=yR c i S from if_pos ⟨ab,JA.2 B⟩)▸WE e aa B.fit) h;have cl:=MI (c:=c) (i:=i) (s:=S);have L:eE c s (l.take (k+1))=O++E9 c i S:=by rw[NW J,<-z,<-t,<-A]
  have M:uC c s (l.take (k+1))=yR c i S:=by rw[HV J,<-t,<-A]
  repeat' first| (first|apply vI|apply w1|apply w2)<;>(simp only[go_sem,o,p,P,I,Z,A.symm,j,nL];try simp (disch:=omega) only[Iw])|apply vT (by omega)| (with_reducible first|refine fun(cap:Nat) (bp:_<=cap)=> ?_|refine fun(cp:_<=cap)=> ?_)|refine⟨by omega,?_⟩|fail
  exact bk _ _ _ (k+1,W+12,cap) noF _ (by omega) (by dsimp only;omega) (by dsimp only;rw[L,abL];repeat' first|exact C1|refine xqI rfl rfl ?_|refine xqP (by omega) rfl rfl ?_|refine xqO (by omega) rfl rfl (by rfl) ?_|fail) aE ⟨by dsimp only;omega,by dsimp only;omega,by dsimp only;omega,(by simp only[aA.set,aA.del,abH,Nat.reduceAdd,abJ,Nat.reduceEqDiff,abI,abK,if_true,if_false,j,o];done),(by simp only[aA.set,aA.del,abH,Nat.reduceAdd,abJ,Nat.reduceEqDiff,abI,abK,if_true,if_false,j,p];done),(by simp only[aA.set,aA.del,abH,Nat.reduceAdd,abJ,Nat.reduceEqDiff,abI,abK,if_true,if_false,j,P];done),by dsimp only;rw[M];exact aA.aI,cap,by dsimp only;rw[L,abU,aA.aB (by omega)];exact aA.aI,by dsimp only;rw[L,abL];omega,abG _⟩
 ·have M:S=X:=by rw[t,hX,abM (by omega)]
  have br:O=T:=by rw[z,hT,abM (by omega)]
  subst M;subst br;have q7: ∀{K:afC} {n:Nat},K (dB true) C n->afB iM [.one (.c (.osl 3 io 0 O.length cap)),dS (O.map eEv)] C n K:=fun h=>(J9 O O (by omega) (by omega)).pure rfl (aK ⟨pL HF Z rfl o2 trivial,aF rfl,trivial⟩) fun r hr=>by rw[hr,decide_eq_true rfl];exact h
  obtain⟨n,hn⟩: ∃n,n=l.length/2:=⟨_,rfl⟩
  have cq:n<=l.length:=by omega
  have hq:IntKind.i64.wrap ((l.length:Int).tdiv 2)=(n:Int):=by rw[aeC (by omega)];simp (disch:=omega) only[Iw];omega
  obtain⟨Y,hY⟩: ∃Y,Y=uC c s (l.take n):=⟨_,rfl⟩
  have ad:COk c Y:=hY▸(FL y hs).1;have bw:=((ad.base y).tn.fit).1;have f1:HE (l.take n):=⟨by rw[ab5];omega,fun i hi=>(q i (aeW hi)).Uj⟩
  have f2:HE (l.drop n):=⟨by rw[ab1];omega,fun i hi=>(q i (ad0 hi)).Uj⟩
  have y1:gw c s (l.take n)=Y:=(if_pos (AZ.2 ⟨h2,by rw[ab5];omega,fun i hi=>q i (aeW hi)⟩)).trans hY.symm;have y2:gw c Y (l.drop n)=S:=(if_pos (AZ.2 ⟨wH.2 ⟨y,ad⟩,by rw[ab1];omega,fun i hi=>q i (ad0 hi)⟩)).trans (by rw[hX,hY,<-xy,acU]);have q8: ∀{H:aA} {nx:Nat} {K:afC},K (dA (bK Y)) H nx->afB iC [dA (bI c),dA (bK s),dS ((l.take n).map eIn)] H nx K:=fun h=>aC.still rfl rfl (y1▸xM e w f1) h;have q9: ∀{H:aA} {nx:Nat} {K:afC},K (dA (bK S)) H nx->afB iC [dA (bI c),dA (bK Y),dS ((l.drop n).map eIn)] H nx K:=fun h=>aC.still rfl rfl (y2▸xM e bw f2) h;have w1:((0:Int)<=n)=True:=eq_true (by omega);have w2:((n:Int)<=l.length)=True:=eq_true (by omega);repeat' first| (first|apply vI|apply q6|apply q7|apply q8|apply q9)<;>(simp only[go_sem,o,p,P,I,Z,hq,w1,w2,Int.toNat_natCast,j,nL])|apply vF (by omega)|fail
  all_goals exact hQ _ _ _ _ _ (.inr rfl) rfl ⟨rfl,rfl⟩
end Go.Proofs.YtlncecohbakleaaGreat
