/- Texts laid together by a program: rules, contracts and the walk that leads to the law. -/
import Derived.Test.YtlncecohbakleaaGreatPS10
import Derived.Test.YtlncecohbakleaaGreatPS11
set_option linter.unusedVariables false
set_option linter.unusedSimpArgs false
set_option linter.unusedSectionVars false
set_option maxRecDepth 100000
set_option maxHeartbeats 8000000
namespace Go.AM
structure Part(A:Nat->Prop)(lo hi:Nat)(nm:Nat->Nat):Prop where
 inj: ∀j k,A j->A k->nm j=nm k->j=k
 rng: ∀k,A k->lo<=nm k/\nm k<hi
theorem Part.mono{A:Nat->Prop}{lo hi hi':Nat}{nm:Nat->Nat}(h:Part A lo hi nm)(b:hi<=hi'):Part A lo hi' nm:=⟨h.inj,fun k a=>by have:=h.rng k a;omega⟩
theorem Part.put{A B:Nat->Prop}{lo hi hi' k v:Nat}{nm:Nat->Nat}(h:Part A lo hi nm)(d:lo<=hi)(e:hi<=v)(f:v<hi')(hB: ∀j,B j->A j/\j≠k\/j=k):Part B lo hi' (put nm k v):=by
 refine⟨fun i j hi a he=> ?_,fun j a=> ?_⟩
 ·rcases hB i hi with⟨az9,az2⟩|rfl<;>rcases hB j a with⟨b,c⟩|rfl;·rw[jE az2,jE c] at he;exact h.inj i j az9 b he
  ·rw[jE az2,t8] at he;have:=h.rng i az9;omega
  ·rw[jE c,t8] at he;have:=h.rng j b;omega
  ·rfl
 ·rcases hB j a with⟨az9,az2⟩|rfl;·rw[jE az2];have:=h.rng j az9;omega
  ·rw[t8];omega
structure CSz(s:CSt):Prop where
 pl:s.bM.length=3
 sl:s.dD.length=4
 w:s.words.length<2^21
 h:s.holds.length<2^21
 t:s.told.length<2^21/\ ∀j∈s.told,j.rsp.data.length<2^21
 port: ∀k,k<3->(aF s k).queue.length<2^21/\(aF s k).out.length<2^21
 slv: ∀k,k<4->(aL s k).pipe.length<2^21/\(aL s k).done.length<2^21/\ ∀j∈(aL s k).done,j.rsp.data.length<2^21
variable{H:aA}
theorem aM.TF{P:Program}{T:Nat}{e:Env}{nx:Nat}{Q:AQ}{zs:List AC}(h: ∀G,G=H->aM P T zs e G nx Q):aM P T zs e H nx Q:=h H rfl
def asA(k:Nat)(H:aA)(nm:Nat->Nat)(s:CSt)(rows:List (List D1)):Prop:=rows.length=3/\(∀j,j<k->∃r,rows[j]?=some r/\CX H (nm (5+j)) (nm (8+j)) (aF s j) r)/\ ∀j,k<=j->j<3->rows[j]?=some (cD (aF s j))
def asP(k:Nat)(H:aA)(nm:Nat->Nat)(s:CSt)(rows:List (List D1)):Prop:=rows.length=4/\(∀j,j<k->∃r,rows[j]?=some r/\LJ H (nm (11+j)) (nm (15+j)) (aL s j) r)/\ ∀j,k<=j->j<4->rows[j]?=some (gF (aL s j))
def IQ(H:aA)(lo hi t:Nat)(s:CSt)(A:List Int)(W D:List Job):Prop:=
 ∃a b id_ c d e f g md,H t=some ⟨6,1,[[.isl (s.words.map aJ),.isl (s.holds.map aJ),.osl 1 a 0 A.length c,.osl 5 b 0 W.length d,.osl 5 id_ 0 D.length e,.isl (s.told.map aS)]]⟩/\
  (H a=some ⟨1,f,A.map aJ⟩/\A.length<=c/\c<=f)/\(H b=some ⟨5,g,W.map aS⟩/\W.length<=d/\d<=g)/\(H id_=some ⟨5,md,D.map aS⟩/\D.length<=e/\e<=md)/\
  (lo<=a/\a<hi/\lo<=b/\b<hi/\lo<=id_/\id_<hi)/\a≠b/\a≠id_/\b≠id_
theorem IQ.frame{H':aA}{lo hi hi' t:Nat}{s:CSt}{A:List Int}{W D:List Job}(h:IQ H lo hi t s A W D)(n:t<lo)(o:hi<=hi')(a: ∀id,id<hi->(id=t\/lo<=id)->H' id=H id):IQ H' lo hi' t s A W D:=by obtain⟨b,c,id_,d,e,f,g,i,md,j,⟨k,l⟩,⟨m,k9⟩,⟨l1,bOW⟩,bO2,bPH⟩:=h;exact⟨b,c,id_,d,e,f,g,i,md,by rw[a t (by omega) (.inl rfl)];exact j,⟨by rw[a _ (by omega) (.inr (by omega))];exact k,l⟩,⟨by rw[a _ (by omega) (.inr (by omega))];exact m,k9⟩,⟨by rw[a _ (by omega) (.inr (by omega))];exact l1,bOW⟩,by omega,bPH⟩
theorem KO{nx i:Nat}{o o':bA}(b:H i=some o)(h:CvO H noF id nx o' o):CvX noF nx H (H.set i o'):=fun j x a=>by
 by_cases he:j=i;·subst he;rw[aA.bH] at a;cases a;exact⟨fun h=>h,o,b,.inr h⟩
 ·rw[aA.aC he] at a;exact⟨fun h=>h,x,a,.inl rfl⟩
theorem CL{β:Type}{f:Nat->List β}{k:Nat}:(List.range (k+1)).flatMap f=(List.range k).flatMap f++f k:=by rw[brP,List.flatMap_append];simp
theorem QU{β:Type}{f:Nat->List β}{m:Nat}(n:Nat)(h: ∀k,k<n->(f k).length<=m):((List.range n).flatMap f).length<=m*n:=by
 induction n with
 |zero=>simp
 |succ n a=>rw[CL,t2];have b:=a fun k c=>h k (by omega);have d:=h n (by omega);rw[Nat.mul_succ];omega
theorem af0{K:Env->aA->Nat->Prop}{e:Env}{G:aA}{n:Nat}(h: ∀G',G'=G->K e G' n):K e G n:=h G rfl
theorem as2{H2 G:aA}{lo hi t:Nat}{s:CSt}{A:List Int}{W D:List Job}{a b id_ d e f md bpZ cap nx':Nat}{k n:Int}
 (az9:H2 a=some ⟨1,f,A.map aJ⟩) (az2:A.length<=d/\d<=f) (aAC:H2 id_=some ⟨5,md,D.map aS⟩) (aAB:D.length<=e/\e<=md) (o:lo<=a/\a<hi/\lo<=b/\b<hi/\lo<=id_/\id_<hi) (h:a≠b) (ac:a≠id_) (j:b≠id_) (p:t<lo) (q:hi<=bpZ/\bpZ<nx') (c:W.length+1<=cap)
 (l:G t=some ⟨6,1,[[.isl (s.words.map aJ),.isl (s.holds.map aJ),.osl 1 a 0 A.length d,.osl 5 bpZ 0 (W.length+1) cap,.osl 5 id_ 0 D.length e,.isl (s.told.map aS)]]⟩) (m:G bpZ=some ⟨5,cap,W.map aS++[[cI k,cI n,cI 0,cI 0,.osl 0 0 0 0 0]]⟩) (g: ∀id,id<hi->id≠b->id≠t->G id=H2 id):
 ∃H',CvX noF nx' G H'/\IQ H' lo nx' t s A (W++[(⟨k,n,oW⟩:Job)]) D/\ ∀id,id≠bpZ->H' id=G id:=by
 refine⟨_,KO (i:=bpZ) (o':=⟨5,cap,(W++[(⟨k,n,oW⟩:Job)]).map aS⟩) m (uO (R:=W.map aS) (r':=aS (⟨k,n,oW⟩:Job)) (by rw[bqX];rfl) rfl (fun r hr=>(aG dZ _ r hr).2) rfl (aH (bB rfl) (aH (bB rfl) (aH (bB rfl) (aH (bB rfl) (aH (.frz (.nil ..)) eP)))))),?_,fun id boU=>aA.aC boU⟩
 refine⟨a,bpZ,id_,d,cap,e,f,cap,md,?_,⟨?_,az2⟩,⟨aA.bH,by simpa using c,m5 _⟩,⟨?_,aAB⟩,by omega,by omega,by omega,by omega⟩
 ·rw[aA.aC (by omega),l,t2];rfl
 ·rw[aA.aC (by omega),g _ (by omega) h (by omega)];exact az9
 ·rw[aA.aC (by omega),g _ (by omega) j.symm (by omega)];exact aAC
theorem apO{F:Nat->Prop}{H':aA}{nx t:Nat}{o o':bA}(c: ∀j,F j->H' j=none)(d:H' t=some o')(e:H t=some o)(k9: ¬F t)(l1:CvO H F id nx o' o)(bOW: ∀j,j≠t->¬F j->H' j=H j):CvX F nx H H':=fun j x a=>by
 have b: ¬F j:=fun h=>by rw[c j h] at a;cases a
 by_cases he:j=t;·subst he;rw[d] at a;cases a;exact⟨b,o,e,.inr l1⟩
 ·rw[bOW j he b] at a;exact⟨b,x,a,.inl rfl⟩
def aq5(b n:Nat)(H:aA):aA:=fun j=>if b<=j/\j<b+n then none else H j
theorem acA{b n j:Nat}(h: ¬(b<=j/\j<b+n)):aq5 b n H j=H j:=if_neg h
theorem ZW{b n nx:Nat}:CvX (fun j=>b<=j/\j<b+n) nx H (aq5 b n H):=fun j x a=>by
 unfold aq5 at a;split at a;·cases a
 ·exact⟨by assumption,x,a,.inl rfl⟩
structure bdV(s:CSt):Prop where
 pl:s.bM.length=3
 sl:s.dD.length<=4
 q: ∀k,k<3->(aF s k).queue.length<=3
 v: ∀k,k<s.dD.length->(aL s k).pipe.length<=3/\(aL s k).done.length<=3
 wl:(qU s).length<20
 dl:(uQ s).length<20
 st:aTQ (cX s)
end Go.AM
namespace Go.Proofs.YtlncecohbakleaaGreat
open Go Go.AM
attribute [local irreducible] aM wv aB vd wvH
theorem aoP{c:Cfg}{i:CIn}{s:CSt}{k:Nat}(h: ¬(i.send.getD k default=true/\(aF s k).queue.length<2/\(aF s k).next<(c.cP.getD k default).length)):PA c i s k=none:=if_neg h
section
variable{H:aA}{nx:Nat}{K:bNX}
theorem HN{X:Nat->Prop}{c:Cfg}{i:CIn}{s:CSt}{es:List Ev}{i0 bO6:Nat}{nm:Nat->Nat}(hb:aQ c)(hs:COk c s)(ba:i.send.length=3)(hB:l9 X H nx i0 bO6 nm s es)(hl:es.length<900)
 (h: ∀H' nx' e,nx<=nx'->l9 X H' nx' i0 bO6 e (dR c s (MV c i s)) (es++iP c s (MV c i s))->(∀id,X id->H' id=H id)->K (.tup []) H' nx'):
 bNW nX [.one (.c (.ptr 5 i0 0 0)),boR (cU c),boR (eIn i),.one (.c (.ptr 5 bO6 0 0))] H nx K:=by
 refine cJ.mk Tryz.func190 (by kernel_rfl) FG rfl fun Q hQ=> ?_
 unfold mI
 obtain⟨bb,ad⟩:=hC hb
 obtain⟨wc,hc,P,vc,R,ae,bc,bd,bf,bg,bh⟩: ∃wc hc P vc R,H i0=some ⟨5,1,[[.osl 1 (nm 0) 0 s.words.length wc,.osl 1 (nm 1) 0 s.holds.length hc,.osl 4 (nm 2) 0 3 P,.osl 3 (nm 3) 0 4 vc,.osl 5 (nm 4) 0 s.told.length R]]⟩/\_:=by obtain⟨cells,h1,⟨wc,hc,P,vc,R,rfl,h2⟩,_⟩:=hB.rep.st;exact⟨wc,hc,P,vc,R,h1,h2⟩
 have z:=hB.rep.apart (nx':=nx) [] [] (m5 _) (by simp) (by simp) (by simp) (by simp)
 simp only[bQ,eZ,List.map,List.nil_append] at z
 repeat' first|apply bn1<;>(simp only[go_sem,t1,bqT,ae,z])|fail
 obtain⟨H0,B⟩: ∃H0,H0=(H.set nx ⟨3,1,[cU c]⟩).set (nx+1) ⟨3,1,[eIn i]⟩:=⟨_,rfl⟩
 rw[<-B]
 have af:H0 nx=some ⟨3,1,[cU c]⟩:=by rw[B,aA.aC (by omega)];exact aA.bH
 have ag:H0 (nx+1)=some ⟨3,1,[eIn i]⟩:=by rw[B];exact aA.bH
 have ah:=hB.rep.i0.1
 have ai:=hB.hap.bO6.1
 have aj:l9 (fun id=>X id\/id=nx\/id=nx+1) H0 (nx+8) i0 bO6 nm s es:=hB.next (by omega) (fun id h1 h2=>by rw[B,aA.aC (by omega),aA.aC (by omega)]) fun id a=>by
  rcases a with a|rfl|rfl;·have:=hB.rep.x id (.inl a);exact⟨by omega,.inl a⟩
  ·exact⟨by omega,.inr (m5 _)⟩
  ·exact⟨by omega,.inr (by omega)⟩
 refine aM.gP (β:=Nat×CSt×List Ev×(Nat->Nat)) (fun u=>en [(15,boP u.1),(14,boP 3),(6,.one (.c (.ptr 3 (nx+1) 0 0))),(5,.one (.c (.ptr 3 nx 0 0))),(3,.one (.c (.ptr 5 bO6 0 0))),(0,.one (.c (.ptr 5 i0 0 0)))])
  (fun u H1 g=>u.1<=3/\COk c u.2.1/\l9 (fun id=>X id\/id=nx\/id=nx+1) H1 g i0 bO6 u.2.2.2 u.2.1 u.2.2.1/\(∀id,X id\/id=nx\/id=nx+1->H1 id=H0 id)/\vU c (PA c i) ([0,1,2].drop u.1) u.2.1 u.2.2.1 (dR c s (MV c i s)) (es++iP c s (MV c i s))/\u.2.2.1.length<=es.length+u.1)
  (fun u=>3-u.1) (0,s,es,nm) ⟨noF,_,by repeat' first|exact bo2|refine xqI rfl rfl ?_|refine xqP (by omega) rfl rfl ?_|fail,aK,by dsimp only;omega,hs,aj.mono (by omega),fun _ _=>rfl,⟨rfl,rfl⟩,by simp⟩ ?_
 rintro⟨k,s1,S,C⟩ H1 g bj ⟨hk,f,m,w,T,ak⟩ bpQ U
 dsimp only at hk f m T ak
 obtain⟨wc,hc,P,vc,R,mp,Z,mv,rv,bqC,V,g2,g3,bO4,bPU,bkU,bkV,bp4,bp5,ga,gb⟩:=m.rep.get
 have D:H1 (nx+1)=some ⟨3,1,[eIn i]⟩:=by rw[w _ (.inr (.inr rfl))];exact ag
 have E:H1 nx=some ⟨3,1,[cU c]⟩:=by rw[w _ (.inr (.inl rfl))];exact af
 by_cases q:k<3
 ·have N:=T;rw[ap4 q] at N;obtain⟨p,y⟩: ∃p,p=aF s1 k:=⟨_,rfl⟩
  obtain⟨qo,qc,oc,W,gq,go⟩:=ga k q;rw[<-y] at W gq go;have Y:=f.port k q;rw[<-y] at Y;obtain⟨bk,bm⟩:=Y.next;have bn:=Y.ql;have al:=ad k;obtain⟨mq,rq0,q1,q2,q3,q4,q5,q6⟩:=gq.ex;rw[bqW] at q4;by_cases boT:i.send.getD k default=true/\(aF s1 k).queue.length<2/\(aF s1 k).next<(c.cP.getD k default).length
  ·have F:PA c i s1 k=some (.ask k):=if_pos boT;obtain⟨I,an,ao⟩:=boT;rw[<-y] at an ao;have z:=m.rep.apart (nx':=g) [nx,nx+1] [0,1,2,3,4,5+k,8+k] (m5 _) (by simp) (fun x hx=>.inl (.inr (by simpa using hx))) (by simp;omega) (by simp;omega);simp only[bQ,eZ,List.map,List.cons_append,List.nil_append] at z;have J: ∀r,(Z.set k r)[k]?=some r:=fun r=>by rw[bqZ (by omega)]
   refine aM.BW fun aq=> ?_;have ar: ∀k l,msk (g+k) l H1=H1:=fun k l=>BV aq (by omega);repeat' first| (first|apply bn1|apply bpJ (by omega))<;>(simp only[go_sem,t1,bqT,ar,umS (G:=H1),umD (G:=H1),umB,bqC,V,W,J,bq1,E,D,I,q1,z])|apply bn2 (by omega)| (with_reducible first|refine fun(cap:Nat) (aa:_<=cap)=> ?_|refine fun(bo:_<=cap)=> ?_)|refine⟨by omega,?_⟩|fail
   have er:List.take p.queue.length (List.drop qo rq0)++[[cI p.next]]=(p.queue++[p.next]).map aJ:=(by rw[q2,boL (by simp),bqX];rfl);rw[er];obtain⟨e,L⟩: ∃e,e=put C (5+k) (g+46):=⟨_,rfl⟩
   have A: ∀j,j≠5+k->e j=C j:=fun j h1=>by rw[L,jE h1]
   have p5:e (5+k)=g+46:=(by rw[L,t8]);have bPG:=N.some F;obtain⟨s2,d⟩: ∃s2:CSt,s2= {s1 with bM:=s1.bM.set k {p with queue:=p.queue++[p.next]}}:=⟨_,rfl⟩
   obtain⟨s',n⟩: ∃s',s'=aR c s1 (.ask k):=⟨_,rfl⟩
   rw[<-n,show y0 s1 (.ask k)=[⟨1,k,p.next⟩] from by rw[y];rfl] at bPG;have au:COk c s':=(by rw[n];exact o9 hb f (YH f q F));have t:aF s2 k= {p with queue:=p.queue++[p.next]}:=(by rw[d,bL rfl (by rw[f.pl];omega),if_pos rfl]);have M:aF s' k= {p with queue:=p.queue++[p.next],next:=p.next+1}:=(by rw[n,bL rfl (by rw[f.pl];omega),if_pos rfl,<-y]);refine acI (m.upd k 8 e s2 (by omega) ?_ ?_ ?_ ?_ ?_ ?_ (.inl q) (.inr rfl) (fun j hj b=>by rw[d,bL rfl (by rw[f.pl];omega),if_neg b]) (fun j hj b=>by rw[d];rfl)) (by omega) fun H' nx' hx O aw=> ?_
   ·rw[L];have ax: ∀v,g<=v->¬((X v\/v=nx\/v=nx+1)\/v=bO6):=fun v hv hn=>by have:=m.rep.x v hn;omega
    exact m.rep.names.put (by omega) (by omega) (ax _ (by omega))
   ·intro j hj;by_cases k9:j=5+k;·subst k9;exact .inr ⟨.inr (.inl rfl),by omega⟩
    ·exact .inl (A j k9)
   ·intro id a h0 b;simp only[aA.set,aA.del,b 2 (by omega) (by omega),b (5+k) (by omega) (by omega),show ¬id=g+45 by omega,show ¬id=g+46 by omega,if_false]
   ·refine⟨wc,hc,P,vc,R,?_,?_,?_,?_,bkU,bkV⟩;·simp only[aA.set,aA.del,z,if_false,U2,A 0 (by omega),A 1 (by omega),A 2 (by omega),A 3 (by omega),A 4 (by omega)];rw[d];exact bqC
    ·rw[A 0 (by omega),d];exact g3.frame (by simp only[aA.set,aA.del,z,if_false])
    ·rw[A 1 (by omega),d];exact bO4.frame (by simp only[aA.set,aA.del,z,if_false])
    ·rw[A 4 (by omega),d];exact bPU.frame (by simp only[aA.set,aA.del,z,if_false])
   ·refine⟨mp,_,mp,Z,V,aA.bH,by simp only[Y5,bp4],fun j hj b=>by rw[bq0 (Ne.symm b)],fun _=>⟨_,J _,⟨0,cap,oc,?_,?_,?_⟩⟩⟩;·rw[t,A (8+k) (by omega),p5];simp only[af5,t2,List.length_singleton]
    ·rw[t,p5];exact⟨cap,(p.queue++[p.next]).map aJ,by simp only[aA.set,aA.del,z,if_false,if_true],rfl,by simp,by simp,by simpa using aa,by simp⟩
    ·rw[t,A (8+k) (by omega)];exact go.frame (by simp only[aA.set,aA.del,z,if_false])
   ·exact⟨mv,rv,mv,rv,g2,by simp only[aA.set,aA.del,z,if_false];exact g2,bp5,fun _ _ _=>rfl,fun hh=>by omega⟩
   ·obtain⟨wc,hc,P,vc,R,mp,Z,mv,rv,bqC,V,g2,g3,bO4,bPU,bkU,bkV,bp4,bp5,ga,gb⟩:=O.rep.get;obtain⟨qo,qc,oc,W,gq,go⟩:=ga k q;have J: ∀r,(Z.set k r)[k]?=some r:=fun r=>by rw[bqZ (by omega)]
    have o:=O.rep.apart (nx':=nx') [nx,nx+1] [0,1,2,3,4,5+k,8+k] (m5 _) (by simp) (fun x hx=>.inl (.inr (by simpa using hx))) (by simp;omega) (by simp;omega);simp only[bQ,eZ,List.map,List.cons_append,List.nil_append] at o;have ay:=(A 2 (by omega)).symm;rw[t] at W gq go;simp only[go_sem];repeat' first|apply bn1<;>(simp only[go_sem,t1,bqT,ay,bqC,V,W,J,bq1,o];try simp (disch:=omega) only[Iw])|fail
    have ab:=O.upd (H':=H'.set (e 2) ⟨4,mp,Z.set k [cI (p.next+1),.osl 1 (e (5+k)) qo (p.queue.length+1) qc,.osl 3 (e (8+k)) 0 p.out.length oc,cI p.last]⟩) (nx':=nx'+10) k 8 e s' (by omega) (O.rep.names.mono (by omega)) (fun j _=>.inl rfl) ?_ ?_ ?_ ?_ (.inl q) (.inr rfl) (fun j hj b=>(show aF s' j=aF s1 j from by rw[n,bL (s:=s1) rfl (by rw[f.pl];omega),if_neg b]).trans (show aF s2 j=aF s1 j from by rw[d,bL (s:=s1) rfl (by rw[f.pl];omega),if_neg b]).symm) (fun j hj b=>by rw[n,d];rfl);·exact U _ _ _ (k+1,s',S++[⟨1,k,p.next⟩],e) noF _ (by omega) (by dsimp only;omega) (by repeat' first|exact bo2|refine xqI rfl rfl ?_|refine xqP (by omega) rfl rfl ?_|fail) aK ⟨by dsimp only;omega,au,ab.1,fun id a=>(ab.2 id a).trans ((aw id a).trans (w id a)),bPG,by simp;omega⟩
    ·intro id a h0 b;exact aA.aC (b 2 (by omega) (by omega))
    ·refine⟨wc,hc,P,vc,R,?_,?_,?_,?_,bkU,bkV⟩;·simp only[aA.set,o,if_false];rw[bqC,n,d];rfl
     ·rw[d] at g3;rw[n];exact g3.frame (by simp only[aA.set,o,if_false])
     ·rw[d] at bO4;rw[n];exact bO4.frame (by simp only[aA.set,o,if_false])
     ·rw[d] at bPU;rw[n];exact bPU.frame (by simp only[aA.set,o,if_false])
    ·refine⟨mp,_,mp,Z,V,aA.bH,by simp only[Y5,bp4],fun j hj b=>by rw[bq0 (Ne.symm b)],fun _=>⟨_,J _,⟨qo,qc,oc,?_,?_,?_⟩⟩⟩;·rw[M];simp only[af5,t2,List.length_singleton]
     ·rw[M];exact gq.frame (by simp only[aA.set,o,if_false])
     ·rw[M];exact go.frame (by simp only[aA.set,o,if_false])
    ·exact⟨mv,rv,mv,rv,g2,by simp only[aA.set,o,if_false];exact g2,bp5,fun _ _ _=>rfl,fun hh=>by omega⟩
  ·have F:=aoP boT;rw[<-y] at boT
   cases I:i.send.getD k default with
   |false=>
    repeat' first|apply bn1<;>(simp only[go_sem,t1,bqT,bqC,V,W,E,D,I];try simp (disch:=omega) only[Iw])|apply bn2 (by omega)|refine⟨by omega,?_⟩|fail
    exact U _ _ _ (k+1,s1,S,C) noF _ (by omega) (by dsimp only;omega) (by repeat' first|exact bo2|refine xqI rfl rfl ?_|refine xqP (by omega) rfl rfl ?_|fail) aK ⟨by dsimp only;omega,f,m.mono (by omega),w,N.none (F),by dsimp only;omega⟩
   |true=>
   rw[I] at boT;repeat' first| (first|apply bn1|refine bpL (fun h=> ?_) fun h=> ?_)<;>(simp only[go_sem,t1,bqT,bqC,V,W,E,D,I];try simp (disch:=omega) only[Iw])|apply bn2 (by omega)|refine bnE (fun h=> ?_) fun h=> ?_|refine⟨by omega,?_⟩|fail
   all_goals first|exact absurd ⟨rfl,by omega,by omega⟩ boT| (exact U _ _ _ (k+1,s1,S,C) noF _ (by omega) (by dsimp only;omega) (by repeat' first|exact bo2|refine xqI rfl rfl ?_|refine xqP (by omega) rfl rfl ?_|fail) aK ⟨by dsimp only;omega,f,m.mono (by omega),w,N.none F,by dsimp only;omega⟩)
 ·repeat' first|apply bn1<;>(simp only[go_sem])|apply bn3 (by omega)|fail
  have az:k=3:=by omega
  subst az;obtain⟨rfl,rfl⟩:=vU.nil T;refine hQ _ _ _ _ _ (.inl rfl) rfl (h _ _ C (by omega) (m.next (by omega) (fun _ _ _=>rfl) fun id a=>⟨?_,.inl (.inl a)⟩) fun id a=> ?_);·have:=hB.rep.x id (.inl a);omega
  ·have:=hB.rep.x id (.inl a);rw[w id (.inl a),B,aA.aC (by omega),aA.aC (by omega)]
end
theorem afN{c:Cfg}{s:CSt}{l:List Mic}:(iP c s l).length<=l.length:=by
 induction l generalizing s with
 |nil=>simp[iP]
 |cons m l a=>
  have:=@a (aR c s m);rw[iP,t2,List.length_cons];have b:(y0 s m).length<=1:=by cases m<;>simp[y0]
  omega
theorem aaW{c:Cfg}{f:CSt->Nat->Option Mic}{l:List Nat}{s:CSt}:(vE c f s l).length<=l.length:=by
 induction l generalizing s with
 |nil=>simp[vE]
 |cons k l a=>
  rw[vE];split;·have:=@a s;rw[List.length_cons];omega
  ·rename_i m _;have:=@a (aR c s m);rw[List.length_cons,List.length_cons];omega
theorem aqN{c:Cfg}{l:List Nat}{s a:CSt}{u:List Bool}:iP c a (oP c s u l)=[]:=by
 induction l generalizing s u a with
 |nil=>simp[oP,iP]
 |cons k l b=>
  rw[oP];split;·exact b
  ·rw[iP,b];rfl
theorem aoN{c:Cfg}{i:CIn}{s:CSt}:TK c i s=([]++iP c s (KQ c i s))++iP c (CW c i s) (xX c i (CW c i s))++iP c (OI c i s) (MV c i (OI c i s)):=by
 have a:dR c s (KQ c i s++xX c i (CW c i s)++ad4 c (QD c i s))=OI c i s:=by rw[tB,tB];rfl
 have b:dR c s (KQ c i s++xX c i (CW c i s))=QD c i s:=by rw[tB];rfl
 rw[TK,YC,G6,G6,G6,a,b,List.nil_append];rw[show iP c (QD c i s) (ad4 c (QD c i s))=[] from aqN,bq6];rfl
section
variable{H:aA}{nx:Nat}{K:bNX}
theorem tX{X:Nat->Prop}{c:Cfg}{i:CIn}{s:CSt}{i0:Nat}{nm:Nat->Nat}(t:aQ c)(hs:COk c s)(hi:i.ready.length=3/\i.n9.length=4/\i.send.length=3)(v:Rep X H nx i0 nm s)
 (h: ∀H' nx' S a b d e,nx<=nx'->Rep X H' nx' i0 S (vF c i s)->(∀id,X id->H' id=H id)->K (boR [.isl ((TK c i s).map eEv),cI a,cI b,cI d,cI e]) H' nx'):
 bNW jF [.one (.c (.ptr 5 i0 0 0)),boR (cU c),boR (eIn i)] H nx K:=by
 apply aB.tW
 refine cJ.mk Tryz.func97 (by kernel_rfl) D7 rfl fun Q hQ=> ?_
 unfold lK
 repeat' first|apply bn1<;>(simp only[go_sem,t1,bqT])|fail
 have w:=v.i0.1
 have l:=v.x
 have T:l9 (fun id=>X id\/id=nx\/id=nx+1\/id=nx+2) ((((H.set nx ⟨3,1,[cU c]⟩).set (nx+1) ⟨3,1,[eIn i]⟩).set (nx+2) ⟨5,1,[[.osl 0 0 0 0 0,cI 0,cI 0,cI 0,cI 0]]⟩).set (nx+3) ⟨5,1,[[.osl 0 0 0 0 0,cI 0,cI 0,cI 0,cI 0]]⟩) (nx+7) i0 (nx+3) nm s []:=by
  have ho: ∀id,id<nx->((((H.set nx ⟨3,1,[cU c]⟩).set (nx+1) ⟨3,1,[eIn i]⟩).set (nx+2) ⟨5,1,[[.osl 0 0 0 0 0,cI 0,cI 0,cI 0,cI 0]]⟩).set (nx+3) ⟨5,1,[[.osl 0 0 0 0 0,cI 0,cI 0,cI 0,cI 0]]⟩) id=H id:=fun id f=>by rw[aA.aC (by omega),aA.aC (by omega),aA.aC (by omega),aA.aC (by omega)]
  have o:=v.names.lt;refine⟨v.frame (by omega) (ho _ w) (fun k g=>ho _ (o k g)) fun id f=> ?_,⟨⟨_,0,0,0,0,aA.bH,.inl ⟨rfl,rfl⟩⟩,⟨by omega,?_⟩,?_⟩⟩
  ·rcases f with(f|f)|f;·have:=l id f;exact⟨by omega,fun he=>v.i0.2 (he▸f),fun k g he=>v.names.av k g (he▸f)⟩
   ·exact⟨by omega,by omega,fun k g=>by have:=o k g;omega⟩
   ·exact⟨by omega,by omega,fun k g=>by have:=o k g;omega⟩
  ·rintro((f|f)|f|⟨k,g,f⟩);·have:=l _ f;omega
   ·omega
   ·omega
   ·have:=o k g;omega
  ·rintro id ((f|f)|f|⟨k,g,f⟩);·have:=l _ f;omega
   ·omega
   ·omega
   ·have:=o k g;omega
 have q: ∀{G:aA},(∀id,X id\/id=nx\/id=nx+1\/id=nx+2->G id=((((H.set nx ⟨3,1,[cU c]⟩).set (nx+1) ⟨3,1,[eIn i]⟩).set (nx+2) ⟨5,1,[[.osl 0 0 0 0 0,cI 0,cI 0,cI 0,cI 0]]⟩).set (nx+3) ⟨5,1,[[.osl 0 0 0 0 0,cI 0,cI 0,cI 0,cI 0]]⟩) id)->G nx=some ⟨3,1,[cU c]⟩/\G (nx+1)=some ⟨3,1,[eIn i]⟩/\G (nx+2)=some ⟨5,1,[[.osl 0 0 0 0 0,cI 0,cI 0,cI 0,cI 0]]⟩/\ ∀id,X id->G id=H id:=fun bqK=>by
  refine⟨?_,?_,?_,fun id f=> ?_⟩;·rw[bqK _ (.inr (.inl rfl)),aA.aC (by omega),aA.aC (by omega),aA.aC (by omega)];exact aA.bH
  ·rw[bqK _ (.inr (.inr (.inl rfl))),aA.aC (by omega),aA.aC (by omega)];exact aA.bH
  ·rw[bqK _ (.inr (.inr (.inr rfl))),aA.aC (by omega)];exact aA.bH
  ·have:=l id f;rw[bqK _ (.inl f),aA.aC (by omega),aA.aC (by omega),aA.aC (by omega),aA.aC (by omega)]
 have ae:(iP c s (KQ c i s)).length<=3:=CQ afN aaW
 have af:(iP c (CW c i s) (xX c i (CW c i s))).length<=4:=CQ afN aaW
 refine F8 t hs hi.1 T (by simp) fun H1 ag ah ai U r=> ?_
 obtain⟨b1,b2,boX,boY⟩:=q r
 simp only[go_sem]
 repeat' first|apply bn1<;>(simp only[go_sem,b1,b2,boX])|fail
 refine GF t (PH t hs) hi.2.1 (U.mono (by omega)) (by simp;omega) fun H2 aj ak al V u=> ?_
 obtain⟨bPB,c2,bPO,bPY⟩:=q fun id f=>(u id f).trans (r id f)
 simp only[go_sem]
 repeat' first|apply bn1<;>(simp only[go_sem,bPB,c2,bPO])|fail
 refine HT t (PV t hs) (V.mono (by omega)) fun H3 an ao aq W y=> ?_
 obtain⟨d1,d2,d3,bkS⟩:=q fun id f=>(y id f).trans ((u id f).trans (r id f))
 simp only[go_sem]
 repeat' first|apply bn1<;>(simp only[go_sem,d1,d2,d3])|fail
 refine HN t (afG t hs) hi.2.2 (W.mono (by omega)) (by simp;omega) fun bqL Y p ar n Z=> ?_
 obtain⟨e1,e2,e3,e4⟩:=q fun id f=>(Z id f).trans ((y id f).trans ((u id f).trans (r id f)))
 obtain⟨dv,z,A,B,C,aa,D⟩:=n.hap.ex
 rw[<-aoN] at D
 simp only[go_sem]
 repeat' first|apply bn1<;>(simp only[go_sem,t1,bqT,e1,e2,e3,aa])|fail
 have E:=n.rep.names.av
 have ab:=n.rep.names.lt
 have I:=n.rep.i0
 have J:i0≠nx+2:=by omega
 have L: ∀k,k<19->p k≠nx+2:=fun k g he=>E k g (.inl (.inr (.inr (.inr he))))
 have M: ∀id,X id->id<Y+2/\id≠i0/\ ∀k,k<19->id≠p k:=fun id f=>⟨by have:=l id f;omega,fun he=>I.2 (.inl (.inl (he▸f))),fun k g he=>E k g (.inl (.inl (he▸f)))⟩
 have N:vF c i s=dR c (OI c i s) (MV c i (OI c i s)):=rfl
 rcases D with⟨he,rfl⟩|⟨ev,cap,rfl,⟨m,rows,v1,v2,aXN,v4,aXO,v6⟩,blW,blX,bnA⟩
 ·refine hQ _ _ _ _ _ (.inr rfl) (fZ rfl aA.bH rfl) ⟨boR [.isl ((TK c i s).map eEv),cI z,cI A,cI B,cI C],_,noF,by rw[he];simp only[List.map];repeat' first|exact bo2| (with_reducible first|exact bo4|apply bo5)| ((with_reducible apply bo0);first|exact bo9 rfl|exact bpE)| ((with_reducible apply bo1);apply bo6)|fail,aK,h _ _ p _ _ _ _ (by omega) (N▸n.rep.frame (by omega) (aA.aC J) (fun k g=>aA.aC (L k g)) M) fun id f=> ?_⟩;have:=l id f;rw[aA.aC (by omega)];exact e4 id f
 ·have O:ev≠nx+2:=fun he=>blX (.inl (.inr (.inr (.inr he))));have P:i0≠ev:=fun he=>blX (.inr (.inl he.symm));have R: ∀k,k<19->p k≠ev:=fun k g he=>blX (.inr (.inr ⟨k,g,he.symm⟩));rw[bq5] at v2;subst v2;refine hQ _ _ _ _ _ (.inr rfl) (fZ rfl aA.bH rfl) ⟨boR [.isl ((TK c i s).map eEv),cI z,cI A,cI B,cI C],_,fun j=>j=ev,lY (aH (bW (F:=fun j=>j=ev) (m:=m) aq2 ((aA.aC O).trans v1) rfl (by omega) rfl) (aH (bB rfl) (aH (bB rfl) (aH (bB rfl) (aH (bB rfl) eP))))),PU,h _ _ p _ _ _ _ (by omega) (N▸n.rep.frame (by omega) ((aA.jG P).trans (aA.aC J)) (fun k g=>(aA.jG (R k g)).trans (aA.aC (L k g))) M) fun id f=> ?_⟩;have:=l id f;have ad:id≠ev:=fun he=>blX (.inl (.inl (he▸f)));rw[aA.jG ad,aA.aC (by omega)];exact e4 id f
theorem t6(l:List fC)(hl:l.length<2^21):bNW eE [dS (l.map eCJ)] (hp []) 0
 fun r H' e=>∃cap,l.length<=cap/\e=1/\H'=hp [(0,⟨3,cap,l.map eCJ⟩)]/\r=boQ 3 0 l.length cap:=by
 refine aN.mk Tryz.func264 (by kernel_rfl) tA rfl fun Q c=> ?_
 unfold gB
 refine aM.seq (aM.EJ 3 ?_)
 repeat' first|apply bn1<;>(simp only[go_sem])|refine bpI (fun h=> ?_) fun h=> ?_| (with_reducible first|refine fun(cap:Nat) (d:_<=cap)=> ?_|refine fun(f:_<=cap)=> ?_|refine fun(b:Bool)=> ?_)| ((refine bnF (fun h=> ?_) (fun h=> ?_))<;>try subst h)|refine⟨by omega,?_⟩|fail
 all_goals first
  | (have a:=m5 cap
     (refine c _ _ _ _ _ 1 (boQ 3 0 l.length cap) (hp [(0,⟨3,cap,l.map eCJ⟩)]) _ _ (.inr rfl) rfl (fU [6] (by omega) (by repeat' first|exact bo2| ((with_reducible apply bo0);exact bpB (by omega) rfl rfl (by rfl) rfl)| ((with_reducible apply bo1);apply bo7)|fail) ⟨⟨by simp,by simp[sgL],_,rfl,bP (aG yK _) rfl rfl⟩,trivial⟩ (by simp[sgL])) ?_)
     exact⟨cap,by omega,rfl,rfl,rfl⟩)
  | (have g:l=[]:=CE (by omega)
     subst g
     (refine c _ _ _ _ _ 1 (boQ 3 0 0 0) (hp [(0,⟨3,0,([]:List fC).map eCJ⟩)]) _ _ (.inr rfl) rfl (fU [0] (by omega) (by repeat' first|exact bo2| ((with_reducible apply bo0);exact bpA)| ((with_reducible apply bo1);apply bo7)|fail) ⟨⟨by simp,by simp[sgL],_,rfl,bP (aG yK _) rfl rfl⟩,trivial⟩ (by simp[sgL])) ?_)
     exact⟨0,m5 _,rfl,rfl,rfl⟩)
theorem tY{l:List fC}(hl:l.length<2^21)(h: ∀cap,l.length<=cap->K (boQ 3 nx l.length cap) (H.set nx ⟨3,cap,l.map eCJ⟩) (nx+1)):bNW eE [dS (l.map eCJ)] H nx K:=by
 refine(t6 l hl).AF (l0:=[]) [] rfl ⟨aE rfl,trivial⟩ trivial (by simp) (by simp) (by simp) fun r H' e _ ⟨cap,bqB,a,b,c⟩=> ?_;have h:=h cap bqB;subst a;subst b;subst c;have d:back (tau 0 nx (nth [])) (hp [(0,⟨3,cap,l.map eCJ⟩)]) 1 H=H.set nx ⟨3,cap,l.map eCJ⟩:=by simp only[back,hp,aA.set,tau,bq2,if_true,if_false,Nat.sub_zero,Nat.add_zero,Option.map_some,XO,aA.eL]
 rw[<-d] at h;exact h
theorem uX(l:List fC)(cap m:Nat)(hl:l.length<2^21)(hc:l.length<=cap):bNW eQ [boQ 3 0 l.length cap] (hp [(0,⟨3,m,l.map eCJ⟩)]) 1
 fun r H' a=>a=1/\ ∃o',H'=hp [(0,o')]/\C7 o'/\o'=⟨3,m,l.map eCJ⟩/\r=boQ 3 0 l.length l.length:=by
 refine aN.mk Tryz.func263 (by kernel_rfl) uK rfl fun Q b=> ?_
 unfold gK
 repeat' first|apply bn1<;>(simp only[go_sem])|refine⟨by omega,?_⟩|fail
 exact lA b (boQ 3 0 l.length l.length) _ _ rfl (by repeat' first|exact bo2| ((with_reducible apply bo0);exact bpB (by omega) rfl rfl (by rfl) rfl)| ((with_reducible apply bo1);apply bo7)|fail) rfl (oB yK _) ⟨rfl,rfl⟩
theorem vQ{l:List fC}{cap m i:Nat}(hl:l.length<2^21)(hc:l.length<=cap)(hi:i<nx)(a:H i=some ⟨3,m,l.map eCJ⟩)(h:K (boQ 3 i l.length l.length) (H.set i ⟨3,m,l.map eCJ⟩) nx):
 bNW eQ [boQ 3 i l.length cap] H nx K:=
 (uX l cap m hl hc).OU i rfl (gW ⟨qS (by omega) rfl rfl rfl rfl,trivial⟩) hi a (oB yK _) fun r o' ⟨b,c⟩=>by subst b;subst c;exact h
theorem AI(l:List fC)(hl:l.length<2^21):bNW eK [dS (l.map eCJ)] (hp []) 0
 fun r H' b=>∃cap,l.length<=cap/\b=1/\H'=hp [(0,⟨3,cap,l.map eCJ⟩)]/\r=boQ 3 0 l.length l.length:=by
 refine aN.mk Tryz.func186 (by kernel_rfl) yS rfl fun Q c=> ?_
 unfold i9
 repeat' first| (first|apply bn1|refine tY hl (fun cap a=> ?_)|refine vQ hl a (by omega) rfl ?_)<;>(simp only[go_sem])|fail
 (refine c _ _ _ _ _ 1 (boQ 3 0 l.length l.length) (hp [(0,⟨3,cap,l.map eCJ⟩)]) _ _ (.inr rfl) rfl (fU [5] (by omega) (by repeat' first|exact bo2| ((with_reducible apply bo0);exact bpB (by omega) rfl rfl (by rfl) rfl)| ((with_reducible apply bo1);apply bo7)|fail) ⟨⟨by simp,by simp[sgL],_,rfl,bP (aG yK _) rfl rfl⟩,trivial⟩ (by simp[sgL])) ?_)
 exact⟨cap,a,rfl,rfl,rfl⟩
theorem oD{l:List fC}(hl:l.length<2^21)(h: ∀m,l.length<=m->K (boQ 3 nx l.length l.length) (H.set nx ⟨3,m,l.map eCJ⟩) (nx+1)):bNW eK [dS (l.map eCJ)] H nx K:=by
 refine(AI l hl).AF (l0:=[]) [] rfl ⟨aE rfl,trivial⟩ trivial (by simp) (by simp) (by simp) fun r H' e _ ⟨cap,bqB,a,b,c⟩=> ?_;have h:=h cap bqB;subst a;subst b;subst c;have d:back (tau 0 nx (nth [])) (hp [(0,⟨3,cap,l.map eCJ⟩)]) 1 H=H.set nx ⟨3,cap,l.map eCJ⟩:=by simp only[back,hp,aA.set,tau,bq2,if_true,if_false,Nat.sub_zero,Nat.add_zero,Option.map_some,XO,aA.eL]
 rw[<-d] at h;exact h
theorem VV{τ:Nat->Nat}{n m:Nat}{l:List fR}:bA.rn τ ⟨n,m,l.map cD⟩=⟨n,m,l.map cD⟩:=by refine rF fun r hr x a=> ?_;obtain⟨y,_,rfl⟩:=CF.1 hr;exact w2.1 (t7 y).2 x a
theorem r7(l:List fR)(hl:l.length<2^21):bNW dL [dS (l.map cD)] (hp []) 0
 fun r H' e=>∃cap,l.length<=cap/\e=1/\H'=hp [(0,⟨4,cap,l.map cD⟩)]/\r=boQ 4 0 l.length cap:=by
 refine aN.mk Tryz.func257 (by kernel_rfl) qP rfl fun Q c=> ?_
 unfold fN
 refine aM.seq (aM.EJ 4 ?_)
 repeat' first|apply bn1<;>(simp only[go_sem])|refine bpI (fun h=> ?_) fun h=> ?_| (with_reducible first|refine fun(cap:Nat) (d:_<=cap)=> ?_|refine fun(f:_<=cap)=> ?_|refine fun(b:Bool)=> ?_)| ((refine bnF (fun h=> ?_) (fun h=> ?_))<;>try subst h)|refine⟨by omega,?_⟩|fail
 all_goals first
  | (have a:=m5 cap
     (refine c _ _ _ _ _ 1 (boQ 4 0 l.length cap) (hp [(0,⟨4,cap,l.map cD⟩)]) _ _ (.inr rfl) rfl (fU [6] (by omega) (by repeat' first|exact bo2| ((with_reducible apply bo0);exact bpB (by omega) rfl rfl (by rfl) rfl)| ((with_reducible apply bo1);apply bo7)|fail) ⟨⟨by simp,by simp[sgL],_,rfl,bP (aG t7 _) rfl rfl⟩,trivial⟩ (by simp[sgL])) ?_)
     exact⟨cap,by omega,rfl,rfl,rfl⟩)
  | (have g:l=[]:=CE (by omega)
     subst g
     (refine c _ _ _ _ _ 1 (boQ 4 0 0 0) (hp [(0,⟨4,0,([]:List fR).map cD⟩)]) _ _ (.inr rfl) rfl (fU [0] (by omega) (by repeat' first|exact bo2| ((with_reducible apply bo0);exact bpA)| ((with_reducible apply bo1);apply bo7)|fail) ⟨⟨by simp,by simp[sgL],_,rfl,bP (aG t7 _) rfl rfl⟩,trivial⟩ (by simp[sgL])) ?_)
     exact⟨0,m5 _,rfl,rfl,rfl⟩)
theorem sC{l:List fR}(hl:l.length<2^21)(h: ∀cap,l.length<=cap->K (boQ 4 nx l.length cap) (H.set nx ⟨4,cap,l.map cD⟩) (nx+1)):bNW dL [dS (l.map cD)] H nx K:=by
 refine(r7 l hl).AF (l0:=[]) [] rfl ⟨aE rfl,trivial⟩ trivial (by simp) (by simp) (by simp) fun r H' e _ ⟨cap,bqB,a,b,c⟩=> ?_;have h:=h cap bqB;subst a;subst b;subst c;have d:back (tau 0 nx (nth [])) (hp [(0,⟨4,cap,l.map cD⟩)]) 1 H=H.set nx ⟨4,cap,l.map cD⟩:=by simp only[back,hp,aA.set,tau,bq2,if_true,if_false,Nat.sub_zero,Nat.add_zero,Option.map_some,VV,aA.eL]
 rw[<-d] at h;exact h
theorem tJ(l:List fR)(cap m:Nat)(hl:l.length<2^21)(hc:l.length<=cap):bNW dV [boQ 4 0 l.length cap] (hp [(0,⟨4,m,l.map cD⟩)]) 1
 fun r H' a=>a=1/\ ∃o',H'=hp [(0,o')]/\C7 o'/\o'=⟨4,m,l.map cD⟩/\r=boQ 4 0 l.length l.length:=by
 refine aN.mk Tryz.func256 (by kernel_rfl) rW rfl fun Q b=> ?_
 unfold fV
 repeat' first|apply bn1<;>(simp only[go_sem])|refine⟨by omega,?_⟩|fail
 exact lA b (boQ 4 0 l.length l.length) _ _ rfl (by repeat' first|exact bo2| ((with_reducible apply bo0);exact bpB (by omega) rfl rfl (by rfl) rfl)| ((with_reducible apply bo1);apply bo7)|fail) rfl (oB t7 _) ⟨rfl,rfl⟩
theorem sT{l:List fR}{cap m i:Nat}(hl:l.length<2^21)(hc:l.length<=cap)(hi:i<nx)(a:H i=some ⟨4,m,l.map cD⟩)(h:K (boQ 4 i l.length l.length) (H.set i ⟨4,m,l.map cD⟩) nx):
 bNW dV [boQ 4 i l.length cap] H nx K:=
 (tJ l cap m hl hc).OU i rfl (gW ⟨qS (by omega) rfl rfl rfl rfl,trivial⟩) hi a (oB t7 _) fun r o' ⟨b,c⟩=>by subst b;subst c;exact h
theorem yZ(l:List fR)(hl:l.length<2^21):bNW fY [dS (l.map cD)] (hp []) 0
 fun r H' b=>∃cap,l.length<=cap/\b=1/\H'=hp [(0,⟨4,cap,l.map cD⟩)]/\r=boQ 4 0 l.length l.length:=by
 refine aN.mk Tryz.func182 (by kernel_rfl) xQ rfl fun Q c=> ?_
 unfold iV
 repeat' first| (first|apply bn1|refine sC hl (fun cap a=> ?_)|refine sT hl a (by omega) rfl ?_)<;>(simp only[go_sem])|fail
 (refine c _ _ _ _ _ 1 (boQ 4 0 l.length l.length) (hp [(0,⟨4,cap,l.map cD⟩)]) _ _ (.inr rfl) rfl (fU [5] (by omega) (by repeat' first|exact bo2| ((with_reducible apply bo0);exact bpB (by omega) rfl rfl (by rfl) rfl)| ((with_reducible apply bo1);apply bo7)|fail) ⟨⟨by simp,by simp[sgL],_,rfl,bP (aG t7 _) rfl rfl⟩,trivial⟩ (by simp[sgL])) ?_)
 exact⟨cap,a,rfl,rfl,rfl⟩
theorem yX{l:List fR}(hl:l.length<2^21)(h: ∀m,l.length<=m->K (boQ 4 nx l.length l.length) (H.set nx ⟨4,m,l.map cD⟩) (nx+1)):bNW fY [dS (l.map cD)] H nx K:=by
 refine(yZ l hl).AF (l0:=[]) [] rfl ⟨aE rfl,trivial⟩ trivial (by simp) (by simp) (by simp) fun r H' e _ ⟨cap,bqB,a,b,c⟩=> ?_;have h:=h cap bqB;subst a;subst b;subst c;have d:back (tau 0 nx (nth [])) (hp [(0,⟨4,cap,l.map cD⟩)]) 1 H=H.set nx ⟨4,cap,l.map cD⟩:=by simp only[back,hp,aA.set,tau,bq2,if_true,if_false,Nat.sub_zero,Nat.add_zero,Option.map_some,VV,aA.eL]
 rw[<-d] at h;exact h
theorem ZC{τ:Nat->Nat}{n m:Nat}{l:List nY}:bA.rn τ ⟨n,m,l.map gF⟩=⟨n,m,l.map gF⟩:=by refine rF fun r hr x a=> ?_;obtain⟨y,_,rfl⟩:=CF.1 hr;exact w2.1 (zJ y).2 x a
theorem qB(l:List nY)(hl:l.length<2^21):bNW cZ [dS (l.map gF)] (hp []) 0
 fun r H' e=>∃cap,l.length<=cap/\e=1/\H'=hp [(0,⟨3,cap,l.map gF⟩)]/\r=boQ 3 0 l.length cap:=by
 refine aN.mk Tryz.func259 (by kernel_rfl) oX rfl fun Q c=> ?_
 unfold eW
 refine aM.seq (aM.EJ 3 ?_)
 repeat' first|apply bn1<;>(simp only[go_sem])|refine bpI (fun h=> ?_) fun h=> ?_| (with_reducible first|refine fun(cap:Nat) (d:_<=cap)=> ?_|refine fun(f:_<=cap)=> ?_|refine fun(b:Bool)=> ?_)| ((refine bnF (fun h=> ?_) (fun h=> ?_))<;>try subst h)|refine⟨by omega,?_⟩|fail
 all_goals first
  | (have a:=m5 cap
     (refine c _ _ _ _ _ 1 (boQ 3 0 l.length cap) (hp [(0,⟨3,cap,l.map gF⟩)]) _ _ (.inr rfl) rfl (fU [6] (by omega) (by repeat' first|exact bo2| ((with_reducible apply bo0);exact bpB (by omega) rfl rfl (by rfl) rfl)| ((with_reducible apply bo1);apply bo7)|fail) ⟨⟨by simp,by simp[sgL],_,rfl,bP (aG zJ _) rfl rfl⟩,trivial⟩ (by simp[sgL])) ?_)
     exact⟨cap,by omega,rfl,rfl,rfl⟩)
  | (have g:l=[]:=CE (by omega)
     subst g
     (refine c _ _ _ _ _ 1 (boQ 3 0 0 0) (hp [(0,⟨3,0,([]:List nY).map gF⟩)]) _ _ (.inr rfl) rfl (fU [0] (by omega) (by repeat' first|exact bo2| ((with_reducible apply bo0);exact bpA)| ((with_reducible apply bo1);apply bo7)|fail) ⟨⟨by simp,by simp[sgL],_,rfl,bP (aG zJ _) rfl rfl⟩,trivial⟩ (by simp[sgL])) ?_)
     exact⟨0,m5 _,rfl,rfl,rfl⟩)
theorem qG{l:List nY}(hl:l.length<2^21)(h: ∀cap,l.length<=cap->K (boQ 3 nx l.length cap) (H.set nx ⟨3,cap,l.map gF⟩) (nx+1)):bNW cZ [dS (l.map gF)] H nx K:=by
 refine(qB l hl).AF (l0:=[]) [] rfl ⟨aE rfl,trivial⟩ trivial (by simp) (by simp) (by simp) fun r H' e _ ⟨cap,bqB,a,b,c⟩=> ?_;have h:=h cap bqB;subst a;subst b;subst c;have d:back (tau 0 nx (nth [])) (hp [(0,⟨3,cap,l.map gF⟩)]) 1 H=H.set nx ⟨3,cap,l.map gF⟩:=by simp only[back,hp,aA.set,tau,bq2,if_true,if_false,Nat.sub_zero,Nat.add_zero,Option.map_some,ZC,aA.eL]
 rw[<-d] at h;exact h
theorem rJ(l:List nY)(cap m:Nat)(hl:l.length<2^21)(hc:l.length<=cap):bNW dE [boQ 3 0 l.length cap] (hp [(0,⟨3,m,l.map gF⟩)]) 1
 fun r H' a=>a=1/\ ∃o',H'=hp [(0,o')]/\C7 o'/\o'=⟨3,m,l.map gF⟩/\r=boQ 3 0 l.length l.length:=by
 refine aN.mk Tryz.func258 (by kernel_rfl) pZ rfl fun Q b=> ?_
 unfold fG
 repeat' first|apply bn1<;>(simp only[go_sem])|refine⟨by omega,?_⟩|fail
 exact lA b (boQ 3 0 l.length l.length) _ _ rfl (by repeat' first|exact bo2| ((with_reducible apply bo0);exact bpB (by omega) rfl rfl (by rfl) rfl)| ((with_reducible apply bo1);apply bo7)|fail) rfl (oB zJ _) ⟨rfl,rfl⟩
theorem qZ{l:List nY}{cap m i:Nat}(hl:l.length<2^21)(hc:l.length<=cap)(hi:i<nx)(a:H i=some ⟨3,m,l.map gF⟩)(h:K (boQ 3 i l.length l.length) (H.set i ⟨3,m,l.map gF⟩) nx):
 bNW dE [boQ 3 i l.length cap] H nx K:=
 (rJ l cap m hl hc).OU i rfl (gW ⟨qS (by omega) rfl rfl rfl rfl,trivial⟩) hi a (oB zJ _) fun r o' ⟨b,c⟩=>by subst b;subst c;exact h
theorem yJ(l:List nY)(hl:l.length<2^21):bNW fM [dS (l.map gF)] (hp []) 0
 fun r H' b=>∃cap,l.length<=cap/\b=1/\H'=hp [(0,⟨3,cap,l.map gF⟩)]/\r=boQ 3 0 l.length l.length:=by
 refine aN.mk Tryz.func183 (by kernel_rfl) wJ rfl fun Q c=> ?_
 unfold iB
 repeat' first| (first|apply bn1|refine qG hl (fun cap a=> ?_)|refine qZ hl a (by omega) rfl ?_)<;>(simp only[go_sem])|fail
 (refine c _ _ _ _ _ 1 (boQ 3 0 l.length l.length) (hp [(0,⟨3,cap,l.map gF⟩)]) _ _ (.inr rfl) rfl (fU [5] (by omega) (by repeat' first|exact bo2| ((with_reducible apply bo0);exact bpB (by omega) rfl rfl (by rfl) rfl)| ((with_reducible apply bo1);apply bo7)|fail) ⟨⟨by simp,by simp[sgL],_,rfl,bP (aG zJ _) rfl rfl⟩,trivial⟩ (by simp[sgL])) ?_)
 exact⟨cap,a,rfl,rfl,rfl⟩
theorem xA{l:List nY}(hl:l.length<2^21)(h: ∀m,l.length<=m->K (boQ 3 nx l.length l.length) (H.set nx ⟨3,m,l.map gF⟩) (nx+1)):bNW fM [dS (l.map gF)] H nx K:=by
 refine(yJ l hl).AF (l0:=[]) [] rfl ⟨aE rfl,trivial⟩ trivial (by simp) (by simp) (by simp) fun r H' e _ ⟨cap,bqB,a,b,c⟩=> ?_;have h:=h cap bqB;subst a;subst b;subst c;have d:back (tau 0 nx (nth [])) (hp [(0,⟨3,cap,l.map gF⟩)]) 1 H=H.set nx ⟨3,cap,l.map gF⟩:=by simp only[back,hp,aA.set,tau,bq2,if_true,if_false,Nat.sub_zero,Nat.add_zero,Option.map_some,ZC,aA.eL]
 rw[<-d] at h;exact h
end
theorem BJ:cJ bNV cV Tryz.f96 kM pR:=cJ.mk Tryz.func96 (by kernel_rfl) AZ
section
variable{H:aA}{nx:Nat}{K:bNX}
theorem fJ{s:CSt}(hs:CSz s)
 (h: ∀H' nx' nm cells,nx<=nx'->abY H' nm s cells->Part (fun k=>k<19) nx nx' nm->(∀id,id<nx->H' id=H id)->K (.one (.agg cells)) H' nx'):
 bNW cV [boR (eI s)] H nx K:=by
 have U:=hs.pl
 have V:=hs.sl
 refine BJ rfl fun Q hQ=> ?_
 unfold kM
 refine aM.BW fun ai=> ?_
 have aj: ∀k l,msk (nx+k) l H=H:=fun k l=>BV ai (by omega)
 repeat' first| (first|apply bn1|refine qN (w:=s.words) (u:=s.holds) hs.w hs.h (fun m0 m1 bf bg=> ?_)|refine yX (l:=s.bM) (by omega) (fun bp3 bh=> ?_)|refine xA (l:=s.dD) (by omega) (fun bqM bj=> ?_)|refine gY (l:=s.told) hs.t.1 hs.t.2 (fun bqN bk=> ?_))<;>(simp only[go_sem,boC,aj,umS (G:=H),umD (G:=H),umB,msk,List.map,t3,bq7,or_false,U,V])|fail
 refine aM.TF fun bqO e=> ?_
 have c0:bqO nx=some ⟨5,1,[eI s]⟩:=by rw[e];simp only[aA.set,bqU,Nat.reduceEqDiff,bqV,bqT,if_false,if_true]
 have bPB:bqO (nx+1)=some ⟨5,1,[[.osl 0 0 0 0 0,.osl 0 0 0 0 0,.osl 0 0 0 0 0,.osl 0 0 0 0 0,.osl 0 0 0 0 0]]⟩:=by rw[e];simp only[aA.set,bqU,Nat.reduceEqDiff,bqV,bqT,if_false,if_true]
 have ak:bqO (nx+15)=some ⟨5,1,[[.osl 1 (nx+17) 0 s.words.length s.words.length,.osl 1 (nx+18) 0 s.holds.length s.holds.length,.osl 4 (nx+19) 0 3 3,.osl 3 (nx+20) 0 4 4,.osl 5 (nx+21) 0 s.told.length s.told.length]]⟩:=by rw[e];simp only[aA.set,bqU,Nat.reduceEqDiff,bqV,bqT,if_false,if_true]
 have al:bqO (nx+17)=some ⟨1,m0,s.words.map aJ⟩:=by rw[e];simp only[aA.set,bqU,Nat.reduceEqDiff,bqV,bqT,if_false,if_true]
 have an:bqO (nx+18)=some ⟨1,m1,s.holds.map aJ⟩:=by rw[e];simp only[aA.set,bqU,Nat.reduceEqDiff,bqV,bqT,if_false,if_true]
 have ao:bqO (nx+19)=some ⟨4,bp3,s.bM.map cD⟩:=by rw[e];simp only[aA.set,bqU,Nat.reduceEqDiff,bqV,bqT,if_false,if_true]
 have aq:bqO (nx+20)=some ⟨3,bqM,s.dD.map gF⟩:=by rw[e];simp only[aA.set,bqU,Nat.reduceEqDiff,bqV,bqT,if_false,if_true]
 have ar:bqO (nx+21)=some ⟨5,bqN,s.told.map aS⟩:=by rw[e];simp only[aA.set,bqU,Nat.reduceEqDiff,bqV,bqT,if_false,if_true]
 have au: ∀id,id<nx->bqO id=H id:=fun id W=>by rw[e];simp only[aA.set,show ¬id=nx by omega,show ¬id=nx+1 by omega,show ¬id=nx+15 by omega,show ¬id=nx+17 by omega,show ¬id=nx+18 by omega,show ¬id=nx+19 by omega,show ¬id=nx+20 by omega,show ¬id=nx+21 by omega,if_false]
 clear e
 refine aM.gP (β:=Nat×(Nat->Nat)) (fun u=>en [(24,boP u.1),(23,boP 3),(22,dS (s.bM.map cD)),(3,.one (.c (.ptr 5 (nx+15) 0 0))),(2,.one (.c (.ptr 5 (nx+1) 0 0))),(1,.one (.c (.ptr 5 nx 0 0)))])
  (fun u H1 g=>u.1<=3/\(∀j,j<5->u.2 j=nx+17+j)/\Part (fun j=>j<5\/(5<=j/\j<5+u.1)\/(8<=j/\j<8+u.1)) (nx+17) g u.2/\(∀id,id<nx+22->id≠nx+19->H1 id=bqO id)/\ ∃rows,H1 (nx+19)=some ⟨4,bp3,rows⟩/\asA u.1 H1 u.2 s rows)
  (fun u=>3-u.1) (0,fun j=>nx+17+j) ⟨noF,_,by repeat' first|exact bo2|refine xqI rfl rfl ?_|refine xqP (by omega) rfl rfl ?_|fail,aK,by dsimp only;omega,fun _ _=>rfl,⟨fun j k _ _ he=>by dsimp only at he;omega,fun j a=>by dsimp only at a ⊢;omega⟩,fun _ _ _=>rfl,_,ao,by simpa using U,fun j a=>by dsimp only at a;omega,fun j _ a=>by rw[p0];simp[aF,List.getD,show j<s.bM.length by omega]⟩ ?_
 rintro⟨k,nm⟩ H1 g bm ⟨X,z,boS,o,rows,Y,Z,N,O⟩ bpQ aw
 dsimp only at X z boS N O
 have bqC:H1 nx=some ⟨5,1,[eI s]⟩:=by rw[o _ (by omega) (by omega)];exact c0
 have ad:H1 (nx+15)=some ⟨5,1,[[.osl 1 (nx+17) 0 s.words.length s.words.length,.osl 1 (nx+18) 0 s.holds.length s.holds.length,.osl 4 (nx+19) 0 3 3,.osl 3 (nx+20) 0 4 4,.osl 5 (nx+21) 0 s.told.length s.told.length]]⟩:=by rw[o _ (by omega) (by omega)];exact ak
 have hA:bQ g [nx,nx+1,nx+15,nx+19,nx+20]:=AM.apart (by simp) (by simp;omega)
 simp only[bQ,eZ] at hA
 by_cases A:k<3
 ·obtain⟨p,q⟩: ∃p,p=aF s k:=⟨_,rfl⟩
  have aa:s.bM.getD k default=p:=q.symm;obtain⟨hq,ho⟩:=hs.port k A;rw[<-q] at hq ho;have C: ∀r,(rows.set k r)[k]?=some r:=fun r=>by rw[bqZ (by omega)]
  have D:=O k (m5 _) A;rw[<-q] at D;refine aM.BW fun E=> ?_;have F: ∀k l,msk (g+k) l H1=H1:=fun k l=>BV E (by omega);repeat' first| (first|apply bn1|refine kH (l:=p.queue) hq (fun mq ax=> ?_)|refine oD (l:=p.out) ho (fun mo ay=> ?_))<;>(simp only[go_sem,boC,F,umS (G:=H1),umD (G:=H1),umB,msk,List.map,t3,bq7,or_false,aa,C,D,bq1,bqC,ad,Y,hA];try simp (disch:=omega) only[Iw])|apply bn2 (by omega)|refine⟨by omega,?_⟩|fail
  have L: ∀j,j<5\/(5<=j/\j<5+k)\/(8<=j/\j<8+k)->j≠2->nm j≠nx+19:=fun j a i he=>i (boS.inj j 2 a (.inl (by omega)) (by rw[he,z 2 (by omega)]));refine aw _ _ _ (k+1,put (put nm (5+k) (g+25)) (8+k) (g+26)) noF _ (by omega) (by dsimp only;omega) (by repeat' first|exact bo2|refine xqI rfl rfl ?_|refine xqP (by omega) rfl rfl ?_|fail) aK ⟨by dsimp only;omega,fun j a=> ?_,?_,fun id boU e1=> ?_,_,aA.bH,?_,fun j a=> ?_,fun j x i=> ?_⟩;·dsimp only;rw[jE (by omega),jE (by omega)];exact z j a
  ·exact(boS.put (B:=fun j=>j<5\/(5<=j/\j<5+(k+1))\/(8<=j/\j<8+k)) (hi':=g+26) (by omega) (by omega) (by omega) (fun j a=>by first|omega| (dsimp only at*;omega))).put (by omega) (by omega) (by omega) (fun j a=>by first|omega| (dsimp only at*;omega))
  ·rw[aA.aC e1,aA.aC (by omega),aA.aC (by omega),aA.aC (by omega)];exact o id boU e1
  ·rw[Y5];exact Z
  ·dsimp only at a ⊢;by_cases P:j=k
   ·subst P;refine⟨_,C _,⟨0,p.queue.length,p.out.length,?_,?_,?_⟩⟩;·rw[jE (by omega),t8,t8,<-q];rfl
    ·rw[jE (by omega),t8,<-q];exact⟨mq,p.queue.map aJ,by rw[aA.aC (by omega),aA.aC (by omega)];exact aA.bH,rfl,by simp,by simp,m5 _,by omega⟩
    ·rw[t8,<-q];exact⟨mo,p.out.map eCJ,by rw[aA.aC (by omega)];exact aA.bH,rfl,by simp,by simp,m5 _,by omega⟩
   ·obtain⟨r,x,i⟩:=N j (by omega);have aAA:=boS.rng (5+j) (.inr (.inl ⟨by omega,by omega⟩));have aAB:=boS.rng (8+j) (.inr (.inr ⟨by omega,by omega⟩));refine⟨r,by rw[bq0 (by omega)];exact x,?_⟩;rw[jE (show 5+j≠8+k by omega),jE (show 5+j≠5+k by omega),jE (show 8+j≠8+k by omega),jE (show 8+j≠5+k by omega)];apply i.frame;·rw[aA.aC (L _ (.inr (.inl ⟨by omega,by omega⟩)) (by omega)),aA.aC (by omega),aA.aC (by omega),aA.aC (by omega)]
    ·rw[aA.aC (L _ (.inr (.inr ⟨by omega,by omega⟩)) (by omega)),aA.aC (by omega),aA.aC (by omega),aA.aC (by omega)]
  ·dsimp only at x ⊢;rw[bq0 (by omega)];exact O j (by omega) i
 ·repeat' first|apply bn1<;>(simp only[go_sem,bqC])|apply bn3 (by omega)|fail
  have az:k=3:=by omega
  subst az;have ba:H1 (nx+20)=some ⟨3,bqM,s.dD.map gF⟩:=by rw[o _ (by omega) (by omega)];exact aq
  refine aM.gP (β:=Nat×(Nat->Nat)) (fun u=>en [(49,boP u.1),(48,boP 4),(47,dS (s.dD.map gF)),(3,.one (.c (.ptr 5 (nx+15) 0 0))),(2,.one (.c (.ptr 5 (nx+1) 0 0)))])
   (fun u H2 n=>u.1<=4/\(∀j,j<11->u.2 j=nm j)/\Part (fun j=>j<11\/(11<=j/\j<11+u.1)\/(15<=j/\j<15+u.1)) (nx+17) n u.2/\(∀id,id<g->id≠nx+20->H2 id=H1 id)/\ ∃rv,H2 (nx+20)=some ⟨3,bqM,rv⟩/\asP u.1 H2 u.2 s rv)
   (fun u=>4-u.1) (0,nm) ⟨noF,_,by repeat' first|exact bo2|refine xqI rfl rfl ?_|refine xqP (by omega) rfl rfl ?_|refine xqV rfl (by omega) ?_|fail,aK,by dsimp only;omega,fun _ _=>rfl,⟨fun j k a X he=>boS.inj j k (by first|omega| (dsimp only at*;omega)) (by first|omega| (dsimp only at*;omega)) he,fun j a=>by have:=boS.rng j (by first|omega| (dsimp only at*;omega));first|omega| (dsimp only at*;omega)⟩,fun _ _ _=>rfl,_,ba,by simpa using V,fun j a=>by dsimp only at a;omega,fun j _ a=>by rw[p0];simp[aL,List.getD,show j<s.dD.length by omega]⟩ ?_
  rintro⟨k,m⟩ H2 n bb ⟨X,b,f,d,rv,f20,ae,R,S⟩ bqG bc;dsimp only at X b f R S;have af:H2 (nx+15)=some ⟨5,1,[[.osl 1 (nx+17) 0 s.words.length s.words.length,.osl 1 (nx+18) 0 s.holds.length s.holds.length,.osl 4 (nx+19) 0 3 3,.osl 3 (nx+20) 0 4 4,.osl 5 (nx+21) 0 s.told.length s.told.length]]⟩:=by rw[d _ (by omega) (by omega)];exact ad
  have bpR:H2 (nx+1)=some ⟨5,1,[[.osl 0 0 0 0 0,.osl 0 0 0 0 0,.osl 0 0 0 0 0,.osl 0 0 0 0 0,.osl 0 0 0 0 0]]⟩:=by rw[d _ (by omega) (by omega),o _ (by omega) (by omega)];exact bPB
  have T:bQ n [nx,nx+1,nx+15,nx+19,nx+20]:=AM.apart (by simp) (by simp;omega);simp only[bQ,eZ] at T;have I:m 3=nx+20:=by rw[b 3 (by omega),z 3 (by omega)]
  by_cases A:k<4
  ·obtain⟨v,y⟩: ∃v,v=aL s k:=⟨_,rfl⟩
   have ab:s.dD.getD k default=v:=y.symm;obtain⟨hq,ho,ag⟩:=hs.slv k A;rw[<-y] at hq ho ag;have C: ∀r,(rv.set k r)[k]?=some r:=fun r=>by rw[bqZ (by omega)]
   have D:=S k (m5 _) A;rw[<-y] at D;refine aM.BW fun E=> ?_;have F: ∀k l,msk (n+k) l H2=H2:=fun k l=>BV E (by omega);repeat' first| (first|apply bn1|refine oD (l:=v.pipe) hq (fun mq ax=> ?_)|refine gY (l:=v.done) ho ag (fun mo ay=> ?_))<;>(simp only[go_sem,boC,F,umS (G:=H2),umD (G:=H2),umB,msk,List.map,t3,bq7,or_false,ab,C,D,bq1,af,f20,T];try simp (disch:=omega) only[Iw])|apply bn2 (by omega)|refine⟨by omega,?_⟩|fail
   have M: ∀j,j<11\/(11<=j/\j<11+k)\/(15<=j/\j<15+k)->j≠3->m j≠nx+20:=fun j a i he=>i (f.inj j 3 a (.inl (by omega)) (by rw[he,I]));refine bc _ _ _ (k+1,put (put m (11+k) (n+25)) (15+k) (n+26)) noF _ (by omega) (by dsimp only;omega) (by repeat' first|exact bo2|refine xqI rfl rfl ?_|refine xqP (by omega) rfl rfl ?_|fail) aK ⟨by dsimp only;omega,fun j a=> ?_,?_,fun id boU e1=> ?_,_,aA.bH,?_,fun j a=> ?_,fun j x i=> ?_⟩;·dsimp only;rw[jE (by omega),jE (by omega)];exact b j a
   ·exact(f.put (B:=fun j=>j<11\/(11<=j/\j<11+(k+1))\/(15<=j/\j<15+k)) (hi':=n+26) (by omega) (by omega) (by omega) (fun j a=>by first|omega| (dsimp only at*;omega))).put (by omega) (by omega) (by omega) (fun j a=>by first|omega| (dsimp only at*;omega))
   ·rw[aA.aC e1,aA.aC (by omega),aA.aC (by omega),aA.aC (by omega)];exact d id boU e1
   ·rw[Y5];exact ae
   ·dsimp only at a ⊢;by_cases P:j=k
    ·subst P;refine⟨_,C _,⟨0,v.pipe.length,0,v.done.length,?_,?_,?_⟩⟩;·rw[jE (by omega),t8,t8,<-y];rfl
     ·rw[jE (by omega),t8,<-y];exact⟨mq,v.pipe.map eCJ,by rw[aA.aC (by omega),aA.aC (by omega)];exact aA.bH,rfl,by simp,by simp,m5 _,by omega⟩
     ·rw[t8,<-y];exact⟨mo,v.done.map aS,by rw[aA.aC (by omega)];exact aA.bH,rfl,by simp,by simp,m5 _,by omega⟩
    ·obtain⟨r,x,i⟩:=R j (by omega);have aAA:=f.rng (11+j) (.inr (.inl ⟨by omega,by omega⟩));have aAB:=f.rng (15+j) (.inr (.inr ⟨by omega,by omega⟩));refine⟨r,by rw[bq0 (by omega)];exact x,?_⟩;rw[jE (show 11+j≠15+k by omega),jE (show 11+j≠11+k by omega),jE (show 15+j≠15+k by omega),jE (show 15+j≠11+k by omega)];apply i.frame;·rw[aA.aC (M _ (.inr (.inl ⟨by omega,by omega⟩)) (by omega)),aA.aC (by omega),aA.aC (by omega),aA.aC (by omega)]
     ·rw[aA.aC (M _ (.inr (.inr ⟨by omega,by omega⟩)) (by omega)),aA.aC (by omega),aA.aC (by omega),aA.aC (by omega)]
   ·dsimp only at x ⊢;rw[bq0 (by omega)];exact S j (by omega) i
  ·repeat' first|apply bn1<;>(simp only[go_sem,af,bpR,T])|apply bn3 (by omega)|fail
   have bd:k=4:=(by omega);subst bd;have boU: ∀j,j<5->m j=nx+17+j:=fun j a=>(b j (by omega)).trans (z j a);have J: ∀id,id<nx+22->id≠nx+1->id≠nx+19->id≠nx+20->(H2.set (nx+1) ⟨5,1,[[.osl 1 (nx+17) 0 s.words.length s.words.length,.osl 1 (nx+18) 0 s.holds.length s.holds.length,.osl 4 (nx+19) 0 3 3,.osl 3 (nx+20) 0 4 4,.osl 5 (nx+21) 0 s.told.length s.told.length]]⟩) id=bqO id:=fun id x i h3 k9=>by rw[aA.aC i,d id (by omega) k9,o id x h3]
   have ah: ∀j,j<19->nx+17<=m j:=fun j a=>(f.rng j (by first|omega| (dsimp only;omega))).1;refine hQ _ _ _ _ _ (.inr rfl) (fZ rfl aA.bH rfl) (h _ _ m _ (by omega) ⟨⟨s.words.length,s.holds.length,3,4,s.told.length,?_,?_,?_,?_,m5 _,m5 _⟩,⟨bp3,rows,?_,Z,fun j a=> ?_⟩,⟨bqM,rv,?_,ae,fun j a=> ?_⟩⟩ ⟨fun j k a X he=>f.inj j k (by first|omega| (dsimp only;omega)) (by first|omega| (dsimp only;omega)) he,fun j a=>by have:=f.rng j (by first|omega| (dsimp only;omega));omega⟩ fun id W=> ?_);·rw[U2,boU 0 (by omega),boU 1 (by omega),boU 2 (by omega),boU 3 (by omega),boU 4 (by omega)]
   ·rw[boU 0 (by omega)];exact⟨m0,s.words.map aJ,(J _ (by omega) (by omega) (by omega) (by omega)).trans al,rfl,by simp,by simp,m5 _,by omega⟩
   ·rw[boU 1 (by omega)];exact⟨m1,s.holds.map aJ,(J _ (by omega) (by omega) (by omega) (by omega)).trans an,rfl,by simp,by simp,m5 _,by omega⟩
   ·rw[boU 4 (by omega)];exact⟨bqN,s.told.map aS,(J _ (by omega) (by omega) (by omega) (by omega)).trans ar,rfl,by simp,by simp,m5 _,by omega⟩
   ·rw[boU 2 (by omega),aA.aC (by omega),d _ (by omega) (by omega)];exact Y
   ·obtain⟨r,x,i⟩:=N j a;have aAA:=boS.rng (5+j) (.inr (.inl ⟨by omega,by omega⟩));have aAB:=boS.rng (8+j) (.inr (.inr ⟨by omega,by omega⟩));have boZ:m (5+j)≠nx+20:=fun he=>by have:=f.inj (5+j) 3 (.inl (by omega)) (.inl (by omega)) (by rw[he,I]);omega
    have bnB:m (8+j)≠nx+20:=fun he=>by have:=f.inj (8+j) 3 (.inl (by omega)) (.inl (by omega)) (by rw[he,I]);omega
    rw[b _ (by omega)] at boZ bnB;refine⟨r,x,?_⟩;rw[b _ (by omega),b _ (by omega)];exact i.frame (by rw[aA.aC (by omega),d _ (by omega) boZ]) (by rw[aA.aC (by omega),d _ (by omega) bnB])
   ·rw[I,aA.aC (by omega)];exact f20
   ·obtain⟨r,x,i⟩:=R j a;exact⟨r,x,i.frame (aA.aC (by have:=ah (11+j) (by omega);omega)) (aA.aC (by have:=ah (15+j) (by omega);omega))⟩
   ·rw[J id (by omega) (by omega) (by omega) (by omega)];exact au id W
end
section
variable{H:aA}{nx:Nat}{K:bNX}
theorem a4R(s:TSt)(hs:aTQ s):bNW iG [boR (eSt s)] (hp []) 0
 fun r H' i=>∃m0 m1 bp3 bqM bqN bqQ,(s.words.length<=m0/\s.holds.length<=m1/\s.asked.length<=bp3/\s.wait.length<=bqM/\s.done.length<=bqN/\s.told.length<=bqQ)/\i=6/\H'=hp [(0,⟨1,m0,s.words.map aJ⟩),(1,⟨1,m1,s.holds.map aJ⟩),(2,⟨1,bp3,s.asked.map aJ⟩),(3,⟨5,bqM,s.wait.map aS⟩),(4,⟨5,bqN,s.done.map aS⟩),(5,⟨5,bqQ,s.told.map aS⟩)]/\
  r=boR (oIm 0 1 2 3 4 5 s.words.length s.holds.length s.asked.length s.wait.length s.done.length s.told.length s):=by
 obtain⟨k,m,n,o,p,q,b⟩:=hs
 refine aN.mk Tryz.func132 (by kernel_rfl) A3 rfl fun Q t=> ?_
 unfold kD
 repeat' first| (first|apply bn1|refine qN (w:=s.words) (u:=s.holds) (by omega) (by omega) (fun m0 m1 c d=> ?_)|refine kH (l:=s.asked) (by omega) (fun bp3 e=> ?_)|refine gY (l:=s.wait) (by omega) (fun j a=>b j (by simp[a])) (fun bqM f=> ?_)|refine gY (l:=s.done) (by omega) (fun j a=>b j (by simp[a])) (fun bqN g=> ?_)|refine gY (l:=s.told) (by omega) (fun j a=>b j (by simp[a])) (fun bqQ h=> ?_))<;>(simp only[go_sem])|fail
 (refine t _ _ _ _ _ 6 (boR (oIm 0 1 2 3 4 5 s.words.length s.holds.length s.asked.length s.wait.length s.done.length s.told.length s)) (hp [(0,⟨1,m0,s.words.map aJ⟩),(1,⟨1,m1,s.holds.map aJ⟩),(2,⟨1,bp3,s.asked.map aJ⟩),(3,⟨5,bqM,s.wait.map aS⟩),(4,⟨5,bqN,s.done.map aS⟩),(5,⟨5,bqQ,s.told.map aS⟩)]) _ _ (.inr rfl) rfl (fU [19,20,21,22,23,24] (by omega) (by repeat' first|exact bo2| ((with_reducible apply bo0);exact bpB (by omega) rfl rfl (by rfl) rfl)| ((with_reducible apply bo1);apply bo6)|exact bo4|apply bo5|fail) ⟨⟨by simp,by simp[sgL],_,rfl,bP (aG bF _) rfl rfl⟩,⟨by simp,by simp[sgL],_,rfl,bP (aG bF _) rfl rfl⟩,⟨by simp,by simp[sgL],_,rfl,bP (aG bF _) rfl rfl⟩,⟨by simp,by simp[sgL],_,rfl,bP (aG dZ _) rfl rfl⟩,⟨by simp,by simp[sgL],_,rfl,bP (aG dZ _) rfl rfl⟩,⟨by simp,by simp[sgL],_,rfl,bP (aG dZ _) rfl rfl⟩,trivial⟩ (by simp[sgL])) ?_)
 exact⟨m0,m1,bp3,bqM,bqN,bqQ,⟨c,d,e,f,g,h⟩,rfl,rfl,rfl⟩
theorem a43{s:TSt}(hs:aTQ s)(h: ∀m0 m1 bp3 bqM bqN bqQ,(s.words.length<=m0/\s.holds.length<=m1/\s.asked.length<=bp3/\s.wait.length<=bqM/\s.done.length<=bqN/\s.told.length<=bqQ)->K (boR (oIm nx (nx+1) (nx+2) (nx+3) (nx+4) (nx+5) s.words.length s.holds.length s.asked.length s.wait.length s.done.length s.told.length s)) ((((((H.set nx ⟨1,m0,s.words.map aJ⟩).set (nx+1) ⟨1,m1,s.holds.map aJ⟩).set (nx+2) ⟨1,bp3,s.asked.map aJ⟩).set (nx+3) ⟨5,bqM,s.wait.map aS⟩).set (nx+4) ⟨5,bqN,s.done.map aS⟩).set (nx+5) ⟨5,bqQ,s.told.map aS⟩) (nx+6)):
 bNW iG [boR (eSt s)] H nx K:=by
 refine(a4R s hs).AF (l0:=[]) [] rfl ⟨aE rfl,trivial⟩ trivial (by simp) (by simp) (by simp) fun r H' e _ ⟨m0,m1,bp3,bqM,bqN,bqQ,bqB,a,b,c⟩=> ?_
 have h:=h m0 m1 bp3 bqM bqN bqQ bqB
 subst a;subst b;subst c
 have d:back (tau 0 nx (nth [])) (hp [(0,⟨1,m0,s.words.map aJ⟩),(1,⟨1,m1,s.holds.map aJ⟩),(2,⟨1,bp3,s.asked.map aJ⟩),(3,⟨5,bqM,s.wait.map aS⟩),(4,⟨5,bqN,s.done.map aS⟩),(5,⟨5,bqQ,s.told.map aS⟩)]) 6 H=((((((H.set nx ⟨1,m0,s.words.map aJ⟩).set (nx+1) ⟨1,m1,s.holds.map aJ⟩).set (nx+2) ⟨1,bp3,s.asked.map aJ⟩).set (nx+3) ⟨5,bqM,s.wait.map aS⟩).set (nx+4) ⟨5,bqN,s.done.map aS⟩).set (nx+5) ⟨5,bqQ,s.told.map aS⟩):=by simp[back,hp,aA.set,aA.nil,tau,nth,uB,BB,aA.eL,aA.yI]
 rw[<-d] at h
 exact h
theorem bdE{s:CSt}(hs:bdV s)(h: ∀H' nx',nx<=nx'->(∀id,id<nx->H' id=H id)->K (boR (eSt (cX s))) H' nx'):bNW zX [boR (eI s)] H nx K:=by
 have aw:=hs.pl;have ba:=hs.sl;obtain⟨N,l2⟩: ∃N,N=s.dD.length:=⟨_,rfl⟩
 rw[<-l2] at ba;apply aB.tW;refine cJ.mk Tryz.func51 (by kernel_rfl) RY rfl fun Q hQ=> ?_;unfold yF;repeat' first|apply bn1<;>(simp only[go_sem,boC,aw])|fail
 apply aM.EJ 1;apply aM.EJ 5;apply aM.EJ 5;refine aM.tW _ _ noF (fun t=>.inl rfl) (KO (i:=nx+7) (o:=⟨6,1,[[.isl (s.words.map aJ),.isl (s.holds.map aJ),.osl 0 0 0 0 0,.osl 0 0 0 0 0,.osl 0 0 0 0 0,.isl (s.told.map aS)]]⟩) (o':=⟨6,1,[[.isl (s.words.map aJ),.isl (s.holds.map aJ),.osl 1 (nx+13) 0 0 0,.osl 5 (nx+14) 0 0 0,.osl 5 (nx+15) 0 0 0,.isl (s.told.map aS)]]⟩) (by simp only[aA.set,t1,bqU,Nat.reduceEqDiff,Nat.reduceAdd,if_false,if_true]) (aP (aH (bB rfl) (aH (bB rfl) (aH (.VS ..) (aH (.VS ..) (aH (.VS ..) (aH (bB rfl) eP)))))))) ?_;refine aM.TF fun bqO P=> ?_;have c0:bqO nx=some ⟨5,1,[eI s]⟩:=by rw[P];simp only[aA.set,t1,bqU,Nat.reduceEqDiff,Nat.reduceAdd,bqT,if_false,if_true]
 have bPB:bqO (nx+1)=some ⟨6,1,[[.osl 0 0 0 0 0,.osl 0 0 0 0 0,.osl 0 0 0 0 0,.osl 0 0 0 0 0,.osl 0 0 0 0 0,.osl 0 0 0 0 0]]⟩:=by rw[P];simp only[aA.set,t1,bqU,Nat.reduceEqDiff,Nat.reduceAdd,bqT,if_false,if_true]
 have bf3:IQ bqO (nx+13) (nx+16) (nx+7) s [] [] []:=by refine⟨nx+13,nx+14,nx+15,0,0,0,0,0,0,?_,⟨?_,by simp,by simp⟩,⟨?_,by simp,by simp⟩,⟨?_,by simp,by simp⟩,by omega,by omega,by omega,by omega⟩<;>rw[P]<;>simp only[aA.set,t1,bqU,Nat.reduceEqDiff,Nat.reduceAdd,bqT,if_false,if_true]<;>rfl
 have bb: ∀id,id<nx->bqO id=H id:=fun id L=>by rw[P];simp only[aA.set,t1,show ¬id=nx by omega,show ¬id=nx+1 by omega,show ¬id=nx+7 by omega,show ¬id=nx+13 by omega,show ¬id=nx+(13+1) by omega,show ¬id=nx+(13+(1+1)) by omega,Nat.reduceAdd,show ¬id=nx+14 by omega,show ¬id=nx+15 by omega,if_false]
 clear P
 refine aM.gP (β:=Nat) (fun k=>en [(20,boP k),(19,boP 3),(18,dS (s.bM.map cD)),(3,.one (.c (.ptr 6 (nx+7) 0 0))),(2,.one (.c (.ptr 6 (nx+1) 0 0))),(1,.one (.c (.ptr 5 nx 0 0)))])
  (fun k H1 M=>k<=3/\IQ H1 (nx+13) M (nx+7) s ((s.bM.take k).map (·.next)) ((List.range k).flatMap (jJ s)) []/\ ∀id,id<nx+13->id≠nx+7->H1 id=bqO id)
  (fun k=>3-k) 0 ⟨noF,_,by repeat' first|exact bo2|refine xqI rfl rfl ?_|refine xqP (by omega) rfl rfl ?_|fail,aK,by omega,bf3,fun _ _ _=>rfl⟩ ?_
 rintro k H1 M cb ⟨hk,d,e⟩ bpQ bc;have bqC:H1 nx=some ⟨5,1,[eI s]⟩:=by rw[e _ (by omega) (by omega)];exact c0
 obtain⟨A,Y⟩: ∃A,A=(s.bM.take k).map (·.next):=⟨_,rfl⟩
 obtain⟨W,Z⟩: ∃W,W=(List.range k).flatMap (jJ s):=⟨_,rfl⟩
 have cc:A.length=k:=by rw[Y];simp;omega
 have ax: ∀k,k<3->(jJ s k).length<=3:=fun k hk=>by have:=hs.q k hk;simpa [jJ] using this
 have cf:W.length<=3*k:=by rw[Z];exact QU k fun j hj=>ax j (by omega)
 rw[<-Y,<-Z] at d;obtain⟨w,x,id_,ca,cw,cd,ma,mw,md,az5,⟨az9,az2,aAD⟩,⟨aAE,aAA,aAF⟩,⟨aAC,aAB,aAG⟩,aa,O,ac,F⟩:=d;have I:bQ M [nx,nx+1,nx+7,w,x,id_]:=AM.apart (by simp;omega) (by simp;omega);simp only[bQ,eZ] at I;by_cases ai:k<3
 ·obtain⟨p,R⟩: ∃p,p=aF s k:=⟨_,rfl⟩
  have ae:s.bM.getD k default=p:=R.symm;have bd:=hs.q k ai;rw[<-R] at bd;repeat' first|apply bn1<;>(simp only[go_sem,boC,ae,az5,az9,aAE,aAC,I,List.set])|apply bn2 (by omega)| (with_reducible first|refine fun(cap:Nat) (y:_<=cap)=> ?_|refine fun(T:_<=cap)=> ?_)|refine⟨by omega,?_⟩|fail
  obtain⟨A',U⟩: ∃A',A'=A++[p.next]:=⟨_,rfl⟩
  have ak:A'.length=A.length+1:=by rw[U];simp
  refine aM.gP (β:=Nat) (fun i=>en [(35,boP i),(34,boP p.queue.length),(33,dS (p.queue.map aJ)),(20,boP k),(19,boP 3),(18,dS (s.bM.map cD)),(4,boP k),(3,.one (.c (.ptr 6 (nx+7) 0 0))),(2,.one (.c (.ptr 6 (nx+1) 0 0))),(1,.one (.c (.ptr 5 nx 0 0)))])
   (fun i H2 a=>i<=p.queue.length/\IQ H2 (nx+13) a (nx+7) s A' (W++(jJ s k).take i) []/\ ∀id,id<nx+13->id≠nx+7->H2 id=bqO id)
   (fun i=>p.queue.length-i) 0 ⟨noF,_,by repeat' first|exact bo2|refine xqI rfl rfl ?_|refine xqP (by omega) rfl rfl ?_|fail,aK,by omega,?_,fun id boU g=> ?_⟩ ?_
  ·rw[List.take_zero,bq6];refine⟨M+12,x,id_,cap,cw,cd,cap,mw,md,?_,⟨?_,by omega,m5 _⟩,⟨?_,aAA,aAF⟩,⟨?_,aAB,aAG⟩,by omega,by omega,by omega,by omega⟩;·rw[ak,aA.bH];rfl
   ·rw[U];simp only[aA.set,aA.del,I,if_false,if_true]
   ·simp only[aA.set,aA.del,I,if_false];exact aAE
   ·simp only[aA.set,aA.del,I,if_false];exact aAC
  ·rw[aA.aC g,aA.aC (by omega),aA.aC (by omega),aA.aC (by omega),aA.jG (by omega)];exact e id boU g
  clear az5 az9 aAE aAC aa O ac F I;rintro i H2 a al ⟨hi,d,af⟩ bqG an;obtain⟨u,b⟩: ∃u,u=W++(jJ s k).take i:=⟨_,rfl⟩
  have ao:u.length<=3*k+3:=by have:=ax k ai;rw[b,t2,CG];omega
  rw[<-b] at d;obtain⟨w,x,id_,ca,cw,cd,ma,mw,md,az5,⟨az9,az2,aAD⟩,⟨aAE,aAA,aAF⟩,⟨aAC,aAB,aAG⟩,aa,O,ac,F⟩:=d;have I:bQ a [nx,nx+1,nx+7,w,x,id_]:=AM.apart (by simp;omega) (by simp;omega);simp only[bQ,eZ] at I;by_cases z:i<p.queue.length
  ·repeat' first|apply bn1<;>(simp only[go_sem,boC,az5,az9,aAE,aAC,I,List.set];try simp (disch:=omega) only[Iw])|apply bn2 (by omega)| (with_reducible first|refine fun(cap:Nat) (y:_<=cap)=> ?_|refine fun(T:_<=cap)=> ?_)|refine⟨by omega,?_⟩|fail
   refine af0 (K:=bqG) fun G bqK=> ?_;obtain⟨H',q1,q2,q3⟩:=as2 (H2:=H2) (G:=G) (hi:=a) (lo:=nx+13) (t:=nx+7) (s:=s) (W:=u) (D:=[]) (bpZ:=a+10) (nx':=a+15) (k:=k) (n:=p.queue.getD i default) az9 ⟨az2,aAD⟩ aAC ⟨aAB,aAG⟩ aa O ac F (by omega) (by omega) y (by rw[bqK];exact aA.bH) (by rw[bqK,aA.aC (by omega)];exact aA.bH) (fun id boU g e2=>by rw[bqK,aA.aC e2,aA.aC (by omega),aA.aC (by omega),aA.jG g]);have q4: ∀id,id<nx+13->id≠nx+7->H' id=H2 id:=fun id boU g=>by rw[q3 id (by omega),bqK,aA.aC g,aA.aC (by omega),aA.aC (by omega),aA.jG (by omega)]
   have C:W++(jJ s k).take (i+1)=u++[(⟨k,p.queue.getD i default,oW⟩:Job)]:=(by rw[nK (by simpa [jJ,<-R] using z),<-C0,<-b];congr 2;simp[jJ,<-R,List.getD,z]);exact an _ _ _ (i+1) noF H' (by omega) (by omega) (by repeat' first|exact bo2|refine xqI rfl rfl ?_|refine xqP (by omega) rfl rfl ?_|fail) q1 ⟨by omega,by rw[C];exact q2,fun id boU g=>(q4 id boU g).trans (af id boU g)⟩
  ·repeat' first|apply bn1<;>(simp only[go_sem];try simp (disch:=omega) only[Iw])|apply bn3 (by omega)|fail
   have bf:i=p.queue.length:=(by omega);have C:u=(List.range (k+1)).flatMap (jJ s):=(by rw[b,CL,<-Z,boL (by simp[jJ,<-R];omega)]);have bg:A'=(s.bM.take (k+1)).map (·.next):=(by rw[U,nK (by omega),bqX,<-Y];rw[<-ae];rfl);exact bc _ _ _ (k+1) noF _ (by omega) (by omega) (by repeat' first|exact bo2|refine xqI rfl rfl ?_|refine xqP (by omega) rfl rfl ?_|fail) aK ⟨by omega,by rw[<-C,<-bg];exact⟨w,x,id_,ca,cw,cd,ma,mw,md,az5,⟨az9,az2,aAD⟩,⟨aAE,aAA,aAF⟩,⟨aAC,aAB,aAG⟩,by omega,O,ac,F⟩,af⟩
 ·repeat' first|apply bn1<;>(simp only[go_sem,bqC])|apply bn3 (by omega)|fail
  have bh:k=3:=by omega
  subst bh;have aq: ∀k,k<N->(hJ s k).length<=3/\(aL s k).done.length<=3:=fun k hk=>⟨by have:=(hs.v k (by omega)).1;simpa [hJ] using this,(hs.v k (by omega)).2⟩
  refine aM.gP (β:=Nat) (fun k=>en [(52,boP k),(51,boP N),(50,dS (s.dD.map gF)),(3,.one (.c (.ptr 6 (nx+7) 0 0))),(2,.one (.c (.ptr 6 (nx+1) 0 0)))])
   (fun k H1 M=>k<=N/\IQ H1 (nx+13) M (nx+7) s A (W++(List.range k).flatMap (hJ s)) ((List.range k).flatMap fun k=>(aL s k).done)/\ ∀id,id<nx+13->id≠nx+7->H1 id=bqO id)
   (fun k=>N-k) 0 ⟨noF,_,by repeat' first|exact bo2|refine xqI rfl rfl ?_|refine xqP (by omega) rfl rfl ?_|refine xqV rfl (by omega) ?_|fail,aK,by omega,?_,e⟩ ?_
  ·simp only[List.range_zero,List.flatMap_nil,bq6];exact⟨w,x,id_,ca,cw,cd,ma,mw,md,az5,⟨az9,az2,aAD⟩,⟨aAE,aAA,aAF⟩,⟨aAC,aAB,aAG⟩,by omega,O,ac,F⟩
  clear az5 az9 aAE aAC aa O ac F I e bqC;rintro k H2 a al ⟨hk,d,e⟩ bqG an;obtain⟨u,b⟩: ∃u,u=W++(List.range k).flatMap (hJ s):=⟨_,rfl⟩
  obtain⟨D,aj⟩: ∃D,D=(List.range k).flatMap fun k=>(aL s k).done:=⟨_,rfl⟩
  have ao:u.length<=9+3*k:=by have:=QU (f:=hJ s) (m:=3) k fun j hj=>(aq j (by omega)).1;rw[b,t2];omega
  have cg:D.length<=3*k:=by rw[aj];exact QU k fun j hj=>(aq j (by omega)).2
  rw[<-b,<-aj] at d;obtain⟨w,x,id_,ca,cw,cd,ma,mw,md,az5,⟨az9,az2,aAD⟩,⟨aAE,aAA,aAF⟩,⟨aAC,aAB,aAG⟩,aa,O,ac,F⟩:=d;by_cases ai:k<N
  ·obtain⟨v,E⟩: ∃v,v=aL s k:=⟨_,rfl⟩
   have ar:s.dD.getD k default=v:=E.symm;obtain⟨bj,bk⟩:=aq k ai;have bm:v.pipe.length<=3:=(by simpa [hJ,<-E] using bj);rw[<-E] at bk;repeat' first|apply bn1<;>(simp only[go_sem,boC,ar,az5,List.set])|apply bn2 (by omega)|refine⟨by omega,?_⟩|fail
   refine aM.gP (β:=Nat) (fun i=>en [(59,boP i),(58,boP v.pipe.length),(57,dS (v.pipe.map eCJ)),(52,boP k),(51,boP N),(50,dS (s.dD.map gF)),(9,.one (.c (.ptr 3 (a+3) 0 0))),(3,.one (.c (.ptr 6 (nx+7) 0 0))),(2,.one (.c (.ptr 6 (nx+1) 0 0)))])
    (fun i H3 B=>i<=v.pipe.length/\IQ H3 (nx+13) B (nx+7) s A (u++(hJ s k).take i) D/\H3 (a+3)=some ⟨3,1,[gF v]⟩/\ ∀id,id<nx+13->id≠nx+7->H3 id=bqO id)
    (fun i=>v.pipe.length-i) 0 ⟨noF,_,by repeat' first|exact bo2|refine xqI rfl rfl ?_|refine xqP (by omega) rfl rfl ?_|fail,aK,by omega,?_,aA.bH,fun id boU g=>by rw[aA.aC (by omega)];exact e id boU g⟩ ?_
   ·rw[List.take_zero,bq6];refine IQ.frame (hi:=a) ⟨w,x,id_,ca,cw,cd,ma,mw,md,az5,⟨az9,az2,aAD⟩,⟨aAE,aAA,aAF⟩,⟨aAC,aAB,aAG⟩,aa,O,ac,F⟩ (by omega) (by omega) fun id boU _=>aA.aC (by omega)
   clear az5 az9 aAE aAC aa O ac F e;rintro i H3 B bn ⟨hi,d,bp5,e⟩ bqR bo;obtain⟨bf4,J⟩: ∃bf4,bf4=u++(hJ s k).take i:=⟨_,rfl⟩
   have bp:bf4.length<=12+3*k:=(by rw[J,t2,CG];omega);rw[<-J] at d;obtain⟨w,x,id_,ca,cw,cd,ma,mw,md,az5,⟨az9,az2,aAD⟩,⟨aAE,aAA,aAF⟩,⟨aAC,aAB,aAG⟩,aa,O,ac,F⟩:=d;have bp0:a+3≠w:=fun he=>by rw[<-he,bp5] at az9;simp at az9
   have n2:a+3≠x:=fun he=>by rw[<-he,bp5] at aAE;simp at aAE
   have bqP:a+3≠id_:=fun he=>by rw[<-he,bp5] at aAC;simp at aAC
   have I:bQ B [nx,nx+1,nx+7,a+3,w,x,id_]:=AM.apart (by simp;omega) (by simp;omega);simp only[bQ,eZ] at I;by_cases z:i<v.pipe.length
   ·repeat' first|apply bn1<;>(simp only[go_sem,boC,az5,az9,aAE,aAC,bp5,I,List.set];try simp (disch:=omega) only[Iw])|apply bn2 (by omega)| (with_reducible first|refine fun(cap:Nat) (y:_<=cap)=> ?_|refine fun(T:_<=cap)=> ?_)|refine⟨by omega,?_⟩|fail
    refine af0 (K:=bqR) fun G bqK=> ?_;obtain⟨H',q1,q2,q3⟩:=as2 (H2:=H3) (G:=G) (hi:=B) (lo:=nx+13) (t:=nx+7) (s:=s) (W:=bf4) (D:=D) (bpZ:=B+13) (nx':=B+18) (k:=(v.pipe.getD i default).who) (n:=(v.pipe.getD i default).n) az9 ⟨az2,aAD⟩ aAC ⟨aAB,aAG⟩ aa O ac F (by omega) (by omega) y (by rw[bqK];exact aA.bH) (by rw[bqK,aA.aC (by omega)];exact aA.bH) (fun id boU g e2=>by rw[bqK,aA.aC e2,aA.aC (by omega),aA.aC (by omega),aA.aC (by omega),aA.jG g]);have q4: ∀id,id<nx+13->id≠nx+7->H' id=H3 id:=fun id boU g=>by rw[q3 id (by omega),bqK,aA.aC g,aA.aC (by omega),aA.aC (by omega),aA.aC (by omega),aA.jG (by omega)]
    have C:u++(hJ s k).take (i+1)=bf4++[(⟨(v.pipe.getD i default).who,(v.pipe.getD i default).n,oW⟩:Job)]:=(by rw[nK (by simpa [hJ,<-E] using z),<-C0,<-J];congr 2;simp[hJ,<-E,List.getD,z]);exact bo _ _ _ (i+1) noF H' (by omega) (by omega) (by repeat' first|exact bo2|refine xqI rfl rfl ?_|refine xqP (by omega) rfl rfl ?_|fail) q1 ⟨by omega,by rw[C];exact q2,by rw[q3 _ (by omega),bqK,aA.aC (by omega),aA.aC (by omega),aA.aC (by omega),aA.aC (by omega),aA.jG n2];exact bp5,fun id boU g=>(q4 id boU g).trans (e id boU g)⟩
   ·have bf:i=v.pipe.length:=(by omega);have C:bf4=W++(List.range (k+1)).flatMap (hJ s):=(by rw[J,CL,<-C0,<-b,boL (by simp[hJ,<-E];omega)]);repeat' first|apply bn1<;>(simp only[go_sem,boC,az5,az9,aAE,aAC,bp5,I,List.set];try simp (disch:=omega) only[Iw])|apply bn3 (by omega)| (with_reducible first|refine fun(cap:Nat) (y:_<=cap)=> ?_|refine fun(T:_<=cap)=> ?_)|refine⟨by omega,?_⟩|fail
    have bq:D++v.done=(List.range (k+1)).flatMap fun k=>(aL s k).done:=by rw[CL,<-aj,E]
    have T:D.length+v.done.length<=cap:=(by omega);refine an _ _ _ (k+1) noF _ (by omega) (by omega) (by repeat' first|exact bo2|refine xqI rfl rfl ?_|refine xqP (by omega) rfl rfl ?_|fail) aK ⟨by omega,?_,fun id boU g=>by rw[aA.aC g,aA.aC (by omega),aA.jG (by omega)];exact e id boU g⟩;rw[<-C,<-bq];refine⟨w,x,B+5,ca,cw,cap,ma,mw,cap,?_,⟨?_,az2,aAD⟩,⟨?_,aAA,aAF⟩,⟨?_,by simpa using T,m5 _⟩,by omega,by omega,by omega,by omega⟩;·rw[aA.bH,t2]
    ·rw[aA.aC (by omega),aA.aC (by omega),aA.jG ac];exact az9
    ·rw[aA.aC (by omega),aA.aC (by omega),aA.jG F];exact aAE
    ·rw[aA.aC (by omega),aA.bH,bqX]
  ·repeat' first|apply bn1<;>(simp only[go_sem,az5])|apply bn3 (by omega)|fail
   have br:k=N:=(by omega);subst br;have ay:u=qU s:=(by rw[b,Z];unfold qU;rw[aw,<-l2]);have az:D=uQ s:=(by rw[aj];unfold uQ;rw[<-l2]);have d:A=s.bM.map (·.next):=(by rw[Y,boL (by omega)]);have ag:=hs.wl;have ah:=hs.dl;rw[<-ay] at ag;rw[<-az] at ah;refine a3D (l:=u) (by omega) (by omega) aAE fun H3 B ch bpT V=> ?_;have bfZ:=(V (nx+7) (by omega) (by omega)).trans az5;have bpR:=(V w (by omega) O).trans az9;have bpW:=(V id_ (by omega) F.symm).trans aAC;simp only[go_sem];repeat' first|apply bn1<;>(simp only[go_sem,bfZ])|fail
   refine a3D (l:=D) (by omega) (by omega) bpW fun bqL r cj bO0 X=> ?_;have boU:=(X (nx+7) (by omega) (by omega)).trans bfZ;have g:=(X w (by omega) ac).trans bpR;have e4:=(X x (by omega) F).trans bpT;have ex:=((X (nx+1) (by omega) (by omega)).trans ((V (nx+1) (by omega) (by omega)).trans ((e _ (by omega) (by omega)).trans bPB)))
   have bs: ∀id,id<nx->bqL id=H id:=fun id L=>(X id (by omega) (by omega)).trans ((V id (by omega) (by omega)).trans ((e id (by omega) (by omega)).trans (bb id L)));simp only[go_sem];try apply bn0
   have bt:(jX u).length=u.length:=(fH _).length_eq;have bu:(jX D).length=D.length:=(fH _).length_eq;have bw:eSt (cX s)=[.isl (s.words.map aJ),.isl (s.holds.map aJ),.isl (A.map aJ),.isl ((jX u).map aS),.isl ((jX D).map aS),.isl (s.told.map aS)]:=(by rw[d,ay,az];rfl);obtain⟨aZJ,au⟩: ∃aZJ:aA,aZJ=fun j=>if j=w\/j=x\/j=id_ then none else if j=nx+7 then some ⟨6,1,[eSt (cX s)]⟩ else bqL j:=⟨_,rfl⟩
   have q5: ∀j,j≠w->j≠x->j≠id_->j≠nx+7->aZJ j=bqL j:=fun j h1 h2 h3 k9=>by rw[au];simp only[h1,h2,h3,k9,or_self,if_false]
   have bqJ:aZJ (nx+7)=some ⟨6,1,[eSt (cX s)]⟩:=(by rw[au];simp only[show ¬nx+7=w by omega,show ¬nx+7=x by omega,show ¬nx+7=id_ by omega,or_self,if_false,if_true]);refine aM.tW _ aZJ (fun j=>j=w\/j=x\/j=id_) (fun t=>.inl rfl) (apO (t:=nx+7) (fun j hj=>by rw[au];simp only[hj,if_true]) bqJ boU (by omega) (aP ?_) fun j h1 h2=>q5 j (fun h=>h2 (.inl h)) (fun h=>h2 (.inr (.inl h))) (fun h=>h2 (.inr (.inr h))) h1) ?_;·rw[bw];exact aH (bB rfl) (aH (bB rfl) (aH (bW bF g rfl az2 (.inl rfl)) (aH (bW dZ e4 bt.symm (by omega) (.inr (.inl rfl))) (aH (bW dZ bO0 bu.symm (by omega) (.inr (.inr rfl))) (aH (bB rfl) eP)))))
   have qx:=(q5 (nx+1) (by omega) (by omega) (by omega) (by omega)).trans ex;have bx: ∀id,id<nx->aZJ id=H id:=fun id L=>(q5 id (by omega) (by omega) (by omega) (by omega)).trans (bs id L);have bz:=hs.st;have hz: ∀k,(nx=r+k)=False:=fun k=>eq_false (by omega);generalize hS:cX s=S at*;repeat' first| (first|apply bn1|refine a43 (s:=S) bz (fun m0 m1 bp3 bqM bqN bqQ hm=> ?_))<;>(simp only[go_sem,t1,bqT,bqJ,qx,hz,oIm])|fail
   refine hQ _ _ _ _ _ (.inr rfl) (fZ rfl aA.bH rfl) ⟨boR (eSt S),_,fun j=>r+3<=j/\j<r+3+6,lY (aH (bW bF (m:=m0) (by simp only[aA.set,bqU,Nat.reduceEqDiff,show ¬r+3=nx+1 by omega,if_false,if_true]) rfl (m5 _) (by omega)) (aH (bW bF (m:=m1) (by simp only[aA.set,bqU,Nat.reduceEqDiff,show ¬r+4=nx+1 by omega,if_false,if_true]) rfl (m5 _) (by omega)) (aH (bW bF (m:=bp3) (by simp only[aA.set,bqU,Nat.reduceEqDiff,show ¬r+5=nx+1 by omega,if_false,if_true]) rfl (m5 _) (by omega)) (aH (bW dZ (m:=bqM) (by simp only[aA.set,bqU,Nat.reduceEqDiff,show ¬r+6=nx+1 by omega,if_false,if_true]) rfl (m5 _) (by omega)) (aH (bW dZ (m:=bqN) (by simp only[aA.set,bqU,Nat.reduceEqDiff,show ¬r+7=nx+1 by omega,if_false,if_true]) rfl (m5 _) (by omega)) (aH (bW dZ (m:=bqQ) (by simp only[aA.set,bqU,Nat.reduceEqDiff,show ¬r+8=nx+1 by omega,if_false,if_true]) rfl (m5 _) (by omega)) eP)))))),ZW,h _ _ (by omega) fun id L=> ?_⟩;rw[acA (by omega),aA.aC (by omega),aA.aC (by omega),aA.aC (by omega),aA.aC (by omega),aA.aC (by omega),aA.aC (by omega),aA.aC (by omega)];exact bx id L
end
end Go.Proofs.YtlncecohbakleaaGreat
