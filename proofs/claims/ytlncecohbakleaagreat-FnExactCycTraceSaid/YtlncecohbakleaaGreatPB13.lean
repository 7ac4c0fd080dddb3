/- Texts laid together by a program: rules, contracts and the walk that leads to the law. -/
import Derived.Test.YtlncecohbakleaaGreatPB10
import Derived.Test.YtlncecohbakleaaGreatPB11
set_option linter.unusedVariables false
set_option linter.unusedSimpArgs false
set_option linter.unusedSectionVars false
set_option maxRecDepth 100000
set_option maxHeartbeats 8000000
namespace Go.AM
structure Part(A:Nat->Prop)(lo hi:Nat)(nm:Nat->Nat):Prop where
 inj: ∀j k,A j->A k->nm j=nm k->j=k
 rng: ∀k,A k->lo<=nm k/\nm k<hi
theorem Part.mono{A:Nat->Prop}{lo hi hi':Nat}{nm:Nat->Nat}(h:Part A lo hi nm)(b:hi<=hi'):Part A lo hi' nm:=⟨h.inj,fun k a=>by have:=h.rng k a;omega⟩
theorem Part.put{A B:Nat->Prop}{lo hi hi' k v:Nat}{nm:Nat->Nat}(h:Part A lo hi nm)(f:lo<=hi)(g:hi<=v)(l:v<hi')(hB: ∀j,B j->A j/\j≠k\/j=k):Part B lo hi' (put nm k v):=by
 refine⟨fun i j hi c he=> ?_,fun j c=> ?_⟩
 ·rcases hB i hi with⟨a,b⟩|rfl<;>rcases hB j c with⟨d,e⟩|rfl;·rw[dG b,dG e] at he;exact h.inj i j a d he
  ·rw[dG b,kQ] at he;have:=h.rng i a;omega
  ·rw[dG e,kQ] at he;have:=h.rng j d;omega
  ·rfl
 ·rcases hB j c with⟨a,b⟩|rfl;·rw[dG b];have:=h.rng j a;omega
  ·rw[kQ];omega
structure CSz(s:CSt):Prop where
 pl:s.bE.length=3
 sl:s.bM.length=4
 w:s.words.length<2^21
 h:s.holds.length<2^21
 t:s.told.length<2^21/\ ∀j∈s.told,j.rsp.data.length<2^21
 port: ∀k,k<3->(aL s k).queue.length<2^21/\(aL s k).out.length<2^21
 slv: ∀k,k<4->(aU s k).pipe.length<2^21/\(aU s k).done.length<2^21/\ ∀j∈(aU s k).done,j.rsp.data.length<2^21
variable{H:aA}
theorem aH.Ia{P:Program}{T:Nat}{e:Env}{nx:Nat}{Q:AQ}{zs:List AC}(h: ∀G,G=H->aH P T zs e G nx Q):aH P T zs e H nx Q:=h H rfl
def aiG(k:Nat)(H:aA)(nm:Nat->Nat)(s:CSt)(rows:List (List D1)):Prop:=rows.length=3/\(∀j,j<k->∃r,rows[j]?=some r/\IU H (nm (5+j)) (nm (8+j)) (aL s j) r)/\ ∀j,k<=j->j<3->rows[j]?=some (bV (aL s j))
def ahS(k:Nat)(H:aA)(nm:Nat->Nat)(s:CSt)(rows:List (List D1)):Prop:=rows.length=4/\(∀j,j<k->∃r,rows[j]?=some r/\SK H (nm (11+j)) (nm (15+j)) (aU s j) r)/\ ∀j,k<=j->j<4->rows[j]?=some (eV (aU s j))
def WG(H:aA)(lo hi t:Nat)(s:CSt)(A:List Int)(W D:List Job):Prop:=
 ∃a b id_ c d e f g md,H t=some ⟨6,1,[[.isl (s.words.map aG),.isl (s.holds.map aG),.osl 1 a 0 A.length c,.osl 5 b 0 W.length d,.osl 5 id_ 0 D.length e,.isl (s.told.map aP)]]⟩/\
  (H a=some ⟨1,f,A.map aG⟩/\A.length<=c/\c<=f)/\(H b=some ⟨5,g,W.map aP⟩/\W.length<=d/\d<=g)/\(H id_=some ⟨5,md,D.map aP⟩/\D.length<=e/\e<=md)/\
  (lo<=a/\a<hi/\lo<=b/\b<hi/\lo<=id_/\id_<hi)/\a≠b/\a≠id_/\b≠id_
theorem WG.frame{H':aA}{lo hi hi' t:Nat}{s:CSt}{A:List Int}{W D:List Job}(h:WG H lo hi t s A W D)(r:t<lo)(u:hi<=hi')(a: ∀id,id<hi->(id=t\/lo<=id)->H' id=H id):WG H' lo hi' t s A W D:=by obtain⟨b,c,id_,d,e,f,g,i,md,j,⟨k,l⟩,⟨m,n⟩,⟨o,p⟩,v,q⟩:=h;exact⟨b,c,id_,d,e,f,g,i,md,by rw[a t (by omega) (.inl rfl)];exact j,⟨by rw[a _ (by omega) (.inr (by omega))];exact k,l⟩,⟨by rw[a _ (by omega) (.inr (by omega))];exact m,n⟩,⟨by rw[a _ (by omega) (.inr (by omega))];exact o,p⟩,by omega,q⟩
theorem dd{nx i:Nat}{o o':bQ}(b:H i=some o)(h:CvO H noF id nx o' o):CvX noF nx H (H.set i o'):=fun j x a=>by
 by_cases he:j=i;·subst he;rw[aA.aI] at a;cases a;exact⟨fun h=>h,o,b,.inr h⟩
 ·rw[aA.aB he] at a;exact⟨fun h=>h,x,a,.inl rfl⟩
theorem w7{β:Type}{f:Nat->List β}{k:Nat}:(List.range (k+1)).flatMap f=(List.range k).flatMap f++f k:=by rw[amZ,List.flatMap_append];simp
theorem yB{β:Type}{f:Nat->List β}{m:Nat}(n:Nat)(h: ∀k,k<n->(f k).length<=m):((List.range n).flatMap f).length<=m*n:=by
 induction n with
 |zero=>simp
 |succ n a=>rw[w7,akG];have b:=a fun k c=>h k (by omega);have d:=h n (by omega);rw[Nat.mul_succ];omega
theorem tj{K:Env->aA->Nat->Prop}{e:Env}{G:aA}{n:Nat}(h: ∀G',G'=G->K e G' n):K e G n:=h G rfl
theorem aiA{H2 G:aA}{lo hi t:Nat}{s:CSt}{A:List Int}{W D:List Job}{a b id_ d e f md x2 cap nx':Nat}{k n:Int}
 (h:H2 a=some ⟨1,f,A.map aG⟩) (j:A.length<=d/\d<=f) (l:H2 id_=some ⟨5,md,D.map aP⟩) (m:D.length<=e/\e<=md) (w:lo<=a/\a<hi/\lo<=b/\b<hi/\lo<=id_/\id_<hi) (o:a≠b) (ac:a≠id_) (p:b≠id_) (x:t<lo) (y:hi<=x2/\x2<nx') (c:W.length+1<=cap)
 (q:G t=some ⟨6,1,[[.isl (s.words.map aG),.isl (s.holds.map aG),.osl 1 a 0 A.length d,.osl 5 x2 0 (W.length+1) cap,.osl 5 id_ 0 D.length e,.isl (s.told.map aP)]]⟩) (u:G x2=some ⟨5,cap,W.map aP++[[cI k,cI n,cI 0,cI 0,.osl 0 0 0 0 0]]⟩) (g: ∀id,id<hi->id≠b->id≠t->G id=H2 id):
 ∃H',CvX noF nx' G H'/\WG H' lo nx' t s A (W++[(⟨k,n,kL⟩:Job)]) D/\ ∀id,id≠x2->H' id=G id:=by
 refine⟨_,dd (i:=x2) (o':=⟨5,cap,(W++[(⟨k,n,kL⟩:Job)]).map aP⟩) u (Iv (R:=W.map aP) (r':=aP (⟨k,n,kL⟩:Job)) (by rw[akQ];rfl) rfl (fun r hr=>(aW dE _ r hr).2) rfl (aQ (bZ rfl) (aQ (bZ rfl) (aQ (bZ rfl) (aQ (bZ rfl) (aQ (.frz (.nil ..)) iA)))))),?_,fun id v=>aA.aB v⟩
 refine⟨a,x2,id_,d,cap,e,f,cap,md,?_,⟨?_,j⟩,⟨aA.aI,by simpa using c,akA _⟩,⟨?_,m⟩,by omega,by omega,by omega,by omega⟩
 ·rw[aA.aB (by omega),q,akG];rfl
 ·rw[aA.aB (by omega),g _ (by omega) o (by omega)];exact h
 ·rw[aA.aB (by omega),g _ (by omega) p.symm (by omega)];exact l
theorem adQ{F:Nat->Prop}{H':aA}{nx t:Nat}{o o':bQ}(c: ∀j,F j->H' j=none)(d:H' t=some o')(e:H t=some o)(i: ¬F t)(f:CvO H F id nx o' o)(g: ∀j,j≠t->¬F j->H' j=H j):CvX F nx H H':=fun j x a=>by
 have b: ¬F j:=fun h=>by rw[c j h] at a;cases a
 by_cases he:j=t;·subst he;rw[d] at a;cases a;exact⟨b,o,e,.inr f⟩
 ·rw[g j he b] at a;exact⟨b,x,a,.inl rfl⟩
def ag2(b n:Nat)(H:aA):aA:=fun j=>if b<=j/\j<b+n then none else H j
theorem afN{b n j:Nat}(h: ¬(b<=j/\j<b+n)):ag2 b n H j=H j:=if_neg h
theorem aaN{b n nx:Nat}:CvX (fun j=>b<=j/\j<b+n) nx H (ag2 b n H):=fun j x a=>by
 unfold ag2 at a;split at a;·cases a
 ·exact⟨by assumption,x,a,.inl rfl⟩
structure jx(s:CSt):Prop where
 pl:s.bE.length=3
 sl:s.bM.length<=4
 q: ∀k,k<3->(aL s k).queue.length<=3
 v: ∀k,k<s.bM.length->(aU s k).pipe.length<=3/\(aU s k).done.length<=3
 wl:(pN s).length<20
 dl:(tP s).length<20
 st:Fu (dH s)
end Go.AM
namespace Go.Proofs.YtlncecohbakleaaGreat
open Go Go.AM
attribute [local irreducible] aH wv aC vd wvH
theorem acK{c:Cfg}{i:CIn}{s:CSt}{k:Nat}(h: ¬(i.send.getD k default=true/\(aL s k).queue.length<2/\(aL s k).next<(c.b7.getD k default).length)):xv c i s k=none:=if_neg h
section
variable{H:aA}{nx:Nat}{K:an4}
theorem UG{X:Nat->Prop}{c:Cfg}{i:CIn}{s:CSt}{es:List Ev}{i0 i1:Nat}{nm:Nat->Nat}(hb:bI c)(hs:COk c s)(ds:i.send.length=3)(hB:qW X H nx i0 i1 nm s es)(hl:es.length<900)
 (h: ∀H' nx' e,nx<=nx'->qW X H' nx' i0 i1 e (mU c s (yt c i s)) (es++jV c s (yt c i s))->(∀id,X id->H' id=H id)->K (.tup []) H' nx'):
 an3 tT [.one (.c (.ptr 5 i0 0 0)),dA (cD c),dA (eIn i),.one (.c (.ptr 5 i1 0 0))] H nx K:=by
 refine bA.mk Tryz.func190 (by kernel_rfl) RQ rfl fun Q hQ=> ?_
 unfold mE
 obtain⟨dv,ad⟩:=eN hb
 obtain⟨wc,hc,P,vc,R,ao,dx,dy,dz,ed,ei⟩: ∃wc hc P vc R,H i0=some ⟨5,1,[[.osl 1 (nm 0) 0 s.words.length wc,.osl 1 (nm 1) 0 s.holds.length hc,.osl 4 (nm 2) 0 3 P,.osl 3 (nm 3) 0 4 vc,.osl 5 (nm 4) 0 s.told.length R]]⟩/\_:=by obtain⟨cells,h1,⟨wc,hc,P,vc,R,rfl,h2⟩,_⟩:=hB.rep.st;exact⟨wc,hc,P,vc,R,h1,h2⟩
 have z:=hB.rep.apart (nx':=nx) [] [] (akA _) (by simp) (by simp) (by simp) (by simp)
 simp only[bH,cU,List.map,List.nil_append] at z
 repeat' first|apply vI<;>(simp only[go_sem,akB,akC,ao,z])|fail
 obtain⟨H0,B⟩: ∃H0,H0=(H.set nx ⟨3,1,[cD c]⟩).set (nx+1) ⟨3,1,[eIn i]⟩:=⟨_,rfl⟩
 rw[<-B]
 have az:H0 nx=some ⟨3,1,[cD c]⟩:=by rw[B,aA.aB (by omega)];exact aA.aI
 have br:H0 (nx+1)=some ⟨3,1,[eIn i]⟩:=by rw[B];exact aA.aI
 have ca:=hB.rep.i0.1
 have cc:=hB.hap.i1.1
 have cd:qW (fun id=>X id\/id=nx\/id=nx+1) H0 (nx+8) i0 i1 nm s es:=hB.next (by omega) (fun id h1 h2=>by rw[B,aA.aB (by omega),aA.aB (by omega)]) fun id a=>by
  rcases a with a|rfl|rfl;·have:=hB.rep.x id (.inl a);exact⟨by omega,.inl a⟩
  ·exact⟨by omega,.inr (akA _)⟩
  ·exact⟨by omega,.inr (by omega)⟩
 refine aH.cE (β:=Nat×CSt×List Ev×(Nat->Nat)) (fun u=>en [(15,dI u.1),(14,dI 3),(6,.one (.c (.ptr 3 (nx+1) 0 0))),(5,.one (.c (.ptr 3 nx 0 0))),(3,.one (.c (.ptr 5 i1 0 0))),(0,.one (.c (.ptr 5 i0 0 0)))])
  (fun u H1 g=>u.1<=3/\COk c u.2.1/\qW (fun id=>X id\/id=nx\/id=nx+1) H1 g i0 i1 u.2.2.2 u.2.1 u.2.2.1/\(∀id,X id\/id=nx\/id=nx+1->H1 id=H0 id)/\FL c (xv c i) ([0,1,2].drop u.1) u.2.1 u.2.2.1 (mU c s (yt c i s)) (es++jV c s (yt c i s))/\u.2.2.1.length<=es.length+u.1)
  (fun u=>3-u.1) (0,s,es,nm) ⟨noF,_,by repeat' first|exact C1|refine xqI rfl rfl ?_|refine xqP (by omega) rfl rfl ?_|fail,aF,by dsimp only;omega,hs,cd.mono (by omega),fun _ _=>rfl,⟨rfl,rfl⟩,by simp⟩ ?_
 rintro⟨k,s1,S,C⟩ H1 g ej ⟨hk,f,m,w,T,cf⟩ KL U
 dsimp only at hk f m T cf
 obtain⟨wc,hc,P,vc,R,mp,rp,mv,rv,V,W,g2,g3,g4,g5,g6,g7,g8,g9,ga,gb⟩:=m.rep.get
 have D:H1 (nx+1)=some ⟨3,1,[eIn i]⟩:=by rw[w _ (.inr (.inr rfl))];exact br
 have E:H1 nx=some ⟨3,1,[cD c]⟩:=by rw[w _ (.inr (.inl rfl))];exact az
 by_cases q:k<3
 ·have N:=T;rw[Pq q] at N;obtain⟨p,y⟩: ∃p,p=aL s1 k:=⟨_,rfl⟩
  obtain⟨qo,qc,oc,Y,gq,go⟩:=ga k q;rw[<-y] at Y gq go;have Z:=f.port k q;rw[<-y] at Z;obtain⟨eo,ep⟩:=Z.next;have et:=Z.ql;have cl:=ad k;obtain⟨mq,rq0,q1,q2,q3,q4,q5,q6⟩:=gq.ex;rw[akU] at q4;by_cases hO:i.send.getD k default=true/\(aL s1 k).queue.length<2/\(aL s1 k).next<(c.b7.getD k default).length
  ·have F:xv c i s1 k=some (.ask k):=if_pos hO;obtain⟨I,cp,cq⟩:=hO;rw[<-y] at cp cq;have z:=m.rep.apart (nx':=g) [nx,nx+1] [0,1,2,3,4,5+k,8+k] (akA _) (by simp) (fun x hx=>.inl (.inr (by simpa using hx))) (by simp;omega) (by simp;omega);simp only[bH,cU,List.map,List.cons_append,List.nil_append] at z;have J: ∀r,(rp.set k r)[k]?=some r:=fun r=>by rw[ak6 (by omega)]
   refine aH.EN fun ct=> ?_;have cw: ∀k l,msk (g+k) l H1=H1:=fun k l=>CW ct (by omega);repeat' first| (first|apply vI|apply Y4 (by omega))<;>(simp only[go_sem,akB,akC,cw,umS (G:=H1),umD (G:=H1),umB,V,W,Y,J,ak4,E,D,I,q1,z])|apply vT (by omega)| (with_reducible first|refine fun(cap:Nat) (aa:_<=cap)=> ?_|refine fun(eu:_<=cap)=> ?_)|refine⟨by omega,?_⟩|fail
   have er:List.take p.queue.length (List.drop qo rq0)++[[cI p.next]]=(p.queue++[p.next]).map aG:=(by rw[q2,akM (by simp),akQ];rfl);rw[er];obtain⟨e,L⟩: ∃e,e=put C (5+k) (g+46):=⟨_,rfl⟩
   have A: ∀j,j≠5+k->e j=C j:=fun j h1=>by rw[L,dG h1]
   have p5:e (5+k)=g+46:=(by rw[L,kQ]);have hL:=N.some F;obtain⟨s2,d⟩: ∃s2:CSt,s2= {s1 with bE:=s1.bE.set k {p with queue:=p.queue++[p.next]}}:=⟨_,rfl⟩
   obtain⟨s',n⟩: ∃s',s'=bS c s1 (.ask k):=⟨_,rfl⟩
   rw[<-n,show JE s1 (.ask k)=[⟨1,k,p.next⟩] from by rw[y];rfl] at hL;have cx:COk c s':=(by rw[n];exact ES hb f (Ep f q F));have t:aL s2 k= {p with queue:=p.queue++[p.next]}:=(by rw[d,cH rfl (by rw[f.pl];omega),if_pos rfl]);have M:aL s' k= {p with queue:=p.queue++[p.next],next:=p.next+1}:=(by rw[n,cH rfl (by rw[f.pl];omega),if_pos rfl,<-y]);refine Mb (m.upd k 8 e s2 (by omega) ?_ ?_ ?_ ?_ ?_ ?_ (.inl q) (.inr rfl) (fun j hj b=>by rw[d,cH rfl (by rw[f.pl];omega),if_neg b]) (fun j hj b=>by rw[d];rfl)) (by omega) fun H' nx' hx O cy=> ?_
   ·rw[L];have dc: ∀v,g<=v->¬((X v\/v=nx\/v=nx+1)\/v=i1):=fun v hv hn=>by have:=m.rep.x v hn;omega
    exact m.rep.names.put (by omega) (by omega) (dc _ (by omega))
   ·intro j hj;by_cases h4:j=5+k;·subst h4;exact .inr ⟨.inr (.inl rfl),by omega⟩
    ·exact .inl (A j h4)
   ·intro id a h0 b;simp only[aA.set,aA.del,b 2 (by omega) (by omega),b (5+k) (by omega) (by omega),show ¬id=g+45 by omega,show ¬id=g+46 by omega,if_false]
   ·refine⟨wc,hc,P,vc,R,?_,?_,?_,?_,g6,g7⟩;·simp only[aA.set,aA.del,z,if_false,kh,A 0 (by omega),A 1 (by omega),A 2 (by omega),A 3 (by omega),A 4 (by omega)];rw[d];exact V
    ·rw[A 0 (by omega),d];exact g3.frame (by simp only[aA.set,aA.del,z,if_false])
    ·rw[A 1 (by omega),d];exact g4.frame (by simp only[aA.set,aA.del,z,if_false])
    ·rw[A 4 (by omega),d];exact g5.frame (by simp only[aA.set,aA.del,z,if_false])
   ·refine⟨mp,_,mp,rp,W,aA.aI,by simp only[akI,g8],fun j hj b=>by rw[ak7 (Ne.symm b)],fun _=>⟨_,J _,⟨0,cap,oc,?_,?_,?_⟩⟩⟩;·rw[t,A (8+k) (by omega),p5];simp only[Cp,akG,List.length_singleton]
    ·rw[t,p5];exact⟨cap,(p.queue++[p.next]).map aG,by simp only[aA.set,aA.del,z,if_false,if_true],rfl,by simp,by simp,by simpa using aa,by simp⟩
    ·rw[t,A (8+k) (by omega)];exact go.frame (by simp only[aA.set,aA.del,z,if_false])
   ·exact⟨mv,rv,mv,rv,g2,by simp only[aA.set,aA.del,z,if_false];exact g2,g9,fun _ _ _=>rfl,fun hh=>by omega⟩
   ·obtain⟨wc,hc,P,vc,R,mp,rp,mv,rv,V,W,g2,g3,g4,g5,g6,g7,g8,g9,ga,gb⟩:=O.rep.get;obtain⟨qo,qc,oc,Y,gq,go⟩:=ga k q;have J: ∀r,(rp.set k r)[k]?=some r:=fun r=>by rw[ak6 (by omega)]
    have o:=O.rep.apart (nx':=nx') [nx,nx+1] [0,1,2,3,4,5+k,8+k] (akA _) (by simp) (fun x hx=>.inl (.inr (by simpa using hx))) (by simp;omega) (by simp;omega);simp only[bH,cU,List.map,List.cons_append,List.nil_append] at o;have df:=(A 2 (by omega)).symm;rw[t] at Y gq go;simp only[go_sem];repeat' first|apply vI<;>(simp only[go_sem,akB,akC,df,V,W,Y,J,ak4,o];try simp (disch:=omega) only[Iw])|fail
    have ab:=O.upd (H':=H'.set (e 2) ⟨4,mp,rp.set k [cI (p.next+1),.osl 1 (e (5+k)) qo (p.queue.length+1) qc,.osl 3 (e (8+k)) 0 p.out.length oc,cI p.last]⟩) (nx':=nx'+10) k 8 e s' (by omega) (O.rep.names.mono (by omega)) (fun j _=>.inl rfl) ?_ ?_ ?_ ?_ (.inl q) (.inr rfl) (fun j hj b=>(show aL s' j=aL s1 j from by rw[n,cH (s:=s1) rfl (by rw[f.pl];omega),if_neg b]).trans (show aL s2 j=aL s1 j from by rw[d,cH (s:=s1) rfl (by rw[f.pl];omega),if_neg b]).symm) (fun j hj b=>by rw[n,d];rfl);·exact U _ _ _ (k+1,s',S++[⟨1,k,p.next⟩],e) noF _ (by omega) (by dsimp only;omega) (by repeat' first|exact C1|refine xqI rfl rfl ?_|refine xqP (by omega) rfl rfl ?_|fail) aF ⟨by dsimp only;omega,cx,ab.1,fun id a=>(ab.2 id a).trans ((cy id a).trans (w id a)),hL,by simp;omega⟩
    ·intro id a h0 b;exact aA.aB (b 2 (by omega) (by omega))
    ·refine⟨wc,hc,P,vc,R,?_,?_,?_,?_,g6,g7⟩;·simp only[aA.set,o,if_false];rw[V,n,d];rfl
     ·rw[d] at g3;rw[n];exact g3.frame (by simp only[aA.set,o,if_false])
     ·rw[d] at g4;rw[n];exact g4.frame (by simp only[aA.set,o,if_false])
     ·rw[d] at g5;rw[n];exact g5.frame (by simp only[aA.set,o,if_false])
    ·refine⟨mp,_,mp,rp,W,aA.aI,by simp only[akI,g8],fun j hj b=>by rw[ak7 (Ne.symm b)],fun _=>⟨_,J _,⟨qo,qc,oc,?_,?_,?_⟩⟩⟩;·rw[M];simp only[Cp,akG,List.length_singleton]
     ·rw[M];exact gq.frame (by simp only[aA.set,o,if_false])
     ·rw[M];exact go.frame (by simp only[aA.set,o,if_false])
    ·exact⟨mv,rv,mv,rv,g2,by simp only[aA.set,o,if_false];exact g2,g9,fun _ _ _=>rfl,fun hh=>by omega⟩
  ·have F:=acK hO;rw[<-y] at hO
   cases I:i.send.getD k default with
   |false=>
    repeat' first|apply vI<;>(simp only[go_sem,akB,akC,V,W,Y,E,D,I];try simp (disch:=omega) only[Iw])|apply vT (by omega)|refine⟨by omega,?_⟩|fail
    exact U _ _ _ (k+1,s1,S,C) noF _ (by omega) (by dsimp only;omega) (by repeat' first|exact C1|refine xqI rfl rfl ?_|refine xqP (by omega) rfl rfl ?_|fail) aF ⟨by dsimp only;omega,f,m.mono (by omega),w,N.none (F),by dsimp only;omega⟩
   |true=>
   rw[I] at hO;repeat' first| (first|apply vI|refine Y6 (fun h=> ?_) fun h=> ?_)<;>(simp only[go_sem,akB,akC,V,W,Y,E,D,I];try simp (disch:=omega) only[Iw])|apply vT (by omega)|refine iB (fun h=> ?_) fun h=> ?_|refine⟨by omega,?_⟩|fail
   all_goals first|exact absurd ⟨rfl,by omega,by omega⟩ hO| (exact U _ _ _ (k+1,s1,S,C) noF _ (by omega) (by dsimp only;omega) (by repeat' first|exact C1|refine xqI rfl rfl ?_|refine xqP (by omega) rfl rfl ?_|fail) aF ⟨by dsimp only;omega,f,m.mono (by omega),w,N.none F,by dsimp only;omega⟩)
 ·repeat' first|apply vI<;>(simp only[go_sem])|apply vF (by omega)|fail
  have dh:k=3:=by omega
  subst dh;obtain⟨rfl,rfl⟩:=FL.nil T;refine hQ _ _ _ _ _ (.inl rfl) rfl (h _ _ C (by omega) (m.next (by omega) (fun _ _ _=>rfl) fun id a=>⟨?_,.inl (.inl a)⟩) fun id a=> ?_);·have:=hB.rep.x id (.inl a);omega
  ·have:=hB.rep.x id (.inl a);rw[w id (.inl a),B,aA.aB (by omega),aA.aB (by omega)]
end
theorem Z2{c:Cfg}{s:CSt}{l:List Mic}:(jV c s l).length<=l.length:=by
 induction l generalizing s with
 |nil=>simp[jV]
 |cons m l a=>
  have:=@a (bS c s m);rw[jV,akG,List.length_cons];have b:(JE s m).length<=1:=by cases m<;>simp[JE]
  omega
theorem R4{c:Cfg}{f:CSt->Nat->Option Mic}{l:List Nat}{s:CSt}:(L4 c f s l).length<=l.length:=by
 induction l generalizing s with
 |nil=>simp[L4]
 |cons k l a=>
  rw[L4];split;·have:=@a s;rw[List.length_cons];omega
  ·rename_i m _;have:=@a (bS c s m);rw[List.length_cons,List.length_cons];omega
theorem afM{c:Cfg}{l:List Nat}{s a:CSt}{u:List Bool}:jV c a (xd c s u l)=[]:=by
 induction l generalizing s u a with
 |nil=>simp[xd,jV]
 |cons k l b=>
  rw[xd];split;·exact b
  ·rw[jV,b];rfl
theorem Qm{c:Cfg}{i:CIn}{s:CSt}:qu c i s=([]++jV c s (V0 c i s))++jV c (QY c i s) (PL c i (QY c i s))++jV c (X6 c i s) (yt c i (X6 c i s)):=by
 have a:mU c s (V0 c i s++PL c i (QY c i s)++Nn c (XH c i s))=X6 c i s:=by rw[BB,BB];rfl
 have b:mU c s (V0 c i s++PL c i (QY c i s))=XH c i s:=by rw[BB];rfl
 rw[qu,Sy,TF,TF,TF,a,b,List.nil_append];rw[show jV c (XH c i s) (Nn c (XH c i s))=[] from afM,alE];rfl
section
variable{H:aA}{nx:Nat}{K:an4}
theorem Ii{X:Nat->Prop}{c:Cfg}{i:CIn}{s:CSt}{i0:Nat}{nm:Nat->Nat}(t:bI c)(hs:COk c s)(hi:i.ready.length=3/\i.iP.length=4/\i.send.length=3)(v:Rep X H nx i0 nm s)
 (h: ∀H' nx' U a b d e,nx<=nx'->Rep X H' nx' i0 U (T5 c i s)->(∀id,X id->H' id=H id)->K (dA [.isl ((qu c i s).map eEv),cI a,cI b,cI d,cI e]) H' nx'):
 an3 mC [.one (.c (.ptr 5 i0 0 0)),dA (cD c),dA (eIn i)] H nx K:=by
 apply aC.VP
 refine bA.mk Tryz.func97 (by kernel_rfl) PU rfl fun Q hQ=> ?_
 unfold lJ
 repeat' first|apply vI<;>(simp only[go_sem,akB,akC])|fail
 have w:=v.i0.1
 have l:=v.x
 have V:qW (fun id=>X id\/id=nx\/id=nx+1\/id=nx+2) ((((H.set nx ⟨3,1,[cD c]⟩).set (nx+1) ⟨3,1,[eIn i]⟩).set (nx+2) ⟨5,1,[[.osl 0 0 0 0 0,cI 0,cI 0,cI 0,cI 0]]⟩).set (nx+3) ⟨5,1,[[.osl 0 0 0 0 0,cI 0,cI 0,cI 0,cI 0]]⟩) (nx+7) i0 (nx+3) nm s []:=by
  have ho: ∀id,id<nx->((((H.set nx ⟨3,1,[cD c]⟩).set (nx+1) ⟨3,1,[eIn i]⟩).set (nx+2) ⟨5,1,[[.osl 0 0 0 0 0,cI 0,cI 0,cI 0,cI 0]]⟩).set (nx+3) ⟨5,1,[[.osl 0 0 0 0 0,cI 0,cI 0,cI 0,cI 0]]⟩) id=H id:=fun id f=>by rw[aA.aB (by omega),aA.aB (by omega),aA.aB (by omega),aA.aB (by omega)]
  have o:=v.names.lt;refine⟨v.frame (by omega) (ho _ w) (fun k g=>ho _ (o k g)) fun id f=> ?_,⟨⟨_,0,0,0,0,aA.aI,.inl ⟨rfl,rfl⟩⟩,⟨by omega,?_⟩,?_⟩⟩
  ·rcases f with(f|f)|f;·have:=l id f;exact⟨by omega,fun he=>v.i0.2 (he▸f),fun k g he=>v.names.av k g (he▸f)⟩
   ·exact⟨by omega,by omega,fun k g=>by have:=o k g;omega⟩
   ·exact⟨by omega,by omega,fun k g=>by have:=o k g;omega⟩
  ·rintro((f|f)|f|⟨k,g,f⟩);·have:=l _ f;omega
   ·omega
   ·omega
   ·have:=o k g;omega
  ·rintro id ((f|f)|f|⟨k,g,f⟩);·have:=l _ f;omega
   ·omega
   ·omega
   ·have:=o k g;omega
 have q: ∀{G:aA},(∀id,X id\/id=nx\/id=nx+1\/id=nx+2->G id=((((H.set nx ⟨3,1,[cD c]⟩).set (nx+1) ⟨3,1,[eIn i]⟩).set (nx+2) ⟨5,1,[[.osl 0 0 0 0 0,cI 0,cI 0,cI 0,cI 0]]⟩).set (nx+3) ⟨5,1,[[.osl 0 0 0 0 0,cI 0,cI 0,cI 0,cI 0]]⟩) id)->G nx=some ⟨3,1,[cD c]⟩/\G (nx+1)=some ⟨3,1,[eIn i]⟩/\G (nx+2)=some ⟨5,1,[[.osl 0 0 0 0 0,cI 0,cI 0,cI 0,cI 0]]⟩/\ ∀id,X id->G id=H id:=fun S=>by
  refine⟨?_,?_,?_,fun id f=> ?_⟩;·rw[S _ (.inr (.inl rfl)),aA.aB (by omega),aA.aB (by omega),aA.aB (by omega)];exact aA.aI
  ·rw[S _ (.inr (.inr (.inl rfl))),aA.aB (by omega),aA.aB (by omega)];exact aA.aI
  ·rw[S _ (.inr (.inr (.inr rfl))),aA.aB (by omega)];exact aA.aI
  ·have:=l id f;rw[S _ (.inl f),aA.aB (by omega),aA.aB (by omega),aA.aB (by omega),aA.aB (by omega)]
 have br:(jV c s (V0 c i s)).length<=3:=alJ Z2 R4
 have ca:(jV c (QY c i s) (PL c i (QY c i s))).length<=4:=alJ Z2 R4
 refine QQ t hs hi.1 V (by simp) fun H1 cc cd cf W r=> ?_
 obtain⟨b1,b2,b3,b4⟩:=q r
 simp only[go_sem]
 repeat' first|apply vI<;>(simp only[go_sem,b1,b2,b3])|fail
 refine Q5 t (ra t hs) hi.2.1 (W.mono (by omega)) (by simp;omega) fun H2 cl cp cq Y u=> ?_
 obtain⟨c1,c2,c3,c4⟩:=q fun id f=>(u id f).trans (r id f)
 simp only[go_sem]
 repeat' first|apply vI<;>(simp only[go_sem,c1,c2,c3])|fail
 refine UX t (sb t hs) (Y.mono (by omega)) fun H3 ct cw cx Z y=> ?_
 obtain⟨d1,d2,d3,d4⟩:=q fun id f=>(y id f).trans ((u id f).trans (r id f))
 simp only[go_sem]
 repeat' first|apply vI<;>(simp only[go_sem,d1,d2,d3])|fail
 refine UG t (Pz t hs) hi.2.2 (Z.mono (by omega)) (by simp;omega) fun H4 aa p cy n ab=> ?_
 obtain⟨e1,e2,e3,e4⟩:=q fun id f=>(ab id f).trans ((y id f).trans ((u id f).trans (r id f)))
 obtain⟨dv,z,A,B,C,ad,D⟩:=n.hap.ex
 rw[<-Qm] at D
 simp only[go_sem]
 repeat' first|apply vI<;>(simp only[go_sem,akB,akC,e1,e2,e3,ad])|fail
 have E:=n.rep.names.av
 have ao:=n.rep.names.lt
 have I:=n.rep.i0
 have J:i0≠nx+2:=by omega
 have L: ∀k,k<19->p k≠nx+2:=fun k g he=>E k g (.inl (.inr (.inr (.inr he))))
 have M: ∀id,X id->id<aa+2/\id≠i0/\ ∀k,k<19->id≠p k:=fun id f=>⟨by have:=l id f;omega,fun he=>I.2 (.inl (.inl (he▸f))),fun k g he=>E k g (.inl (.inl (he▸f)))⟩
 have N:T5 c i s=mU c (X6 c i s) (yt c i (X6 c i s)):=rfl
 rcases D with⟨he,rfl⟩|⟨ev,cap,rfl,⟨m,rows,v1,v2,v3,v4,v5,v6⟩,v7,T,v9⟩
 ·refine hQ _ _ _ _ _ (.inr rfl) (kD rfl aA.aI rfl) ⟨dA [.isl ((qu c i s).map eEv),cI z,cI A,cI B,cI C],_,noF,by rw[he];simp only[List.map];repeat' first|exact C1| (with_reducible first|exact C3|apply C4)| ((with_reducible apply C0);first|exact CB rfl|exact CF)| ((with_reducible apply D0);apply C9)|fail,aF,h _ _ p _ _ _ _ (by omega) (N▸n.rep.frame (by omega) (aA.aB J) (fun k g=>aA.aB (L k g)) M) fun id f=> ?_⟩;have:=l id f;rw[aA.aB (by omega)];exact e4 id f
 ·have O:ev≠nx+2:=fun he=>T (.inl (.inr (.inr (.inr he))));have P:i0≠ev:=fun he=>T (.inr (.inl he.symm));have R: ∀k,k<19->p k≠ev:=fun k g he=>T (.inr (.inr ⟨k,g,he.symm⟩));rw[alK] at v2;subst v2;refine hQ _ _ _ _ _ (.inr rfl) (kD rfl aA.aI rfl) ⟨dA [.isl ((qu c i s).map eEv),cI z,cI A,cI B,cI C],_,fun j=>j=ev,sR (aQ (iN (F:=fun j=>j=ev) (m:=m) Ms ((aA.aB O).trans v1) rfl (by omega) rfl) (aQ (bZ rfl) (aQ (bZ rfl) (aQ (bZ rfl) (aQ (bZ rfl) iA))))),Eu,h _ _ p _ _ _ _ (by omega) (N▸n.rep.frame (by omega) ((aA.gK P).trans (aA.aB J)) (fun k g=>(aA.gK (R k g)).trans (aA.aB (L k g))) M) fun id f=> ?_⟩;have:=l id f;have az:id≠ev:=fun he=>T (.inl (.inl (he▸f)));rw[aA.gK az,aA.aB (by omega)];exact e4 id f
theorem DP(l:List eZ)(hl:l.length<2^21):an3 fQ [dS (l.map eCJ)] (hp []) 0
 fun r H' e=>∃cap,l.length<=cap/\e=1/\H'=hp [(0,⟨3,cap,l.map eCJ⟩)]/\r=dO 3 0 l.length cap:=by
 refine aM.mk Tryz.func264 (by kernel_rfl) A8 rfl fun Q c=> ?_
 unfold fL
 refine aH.seq (aH.kd 3 ?_)
 repeat' first|apply vI<;>(simp only[go_sem])|refine Z7 (fun h=> ?_) fun h=> ?_| (with_reducible first|refine fun(cap:Nat) (d:_<=cap)=> ?_|refine fun(f:_<=cap)=> ?_|refine fun(b:Bool)=> ?_)| ((refine L0 (fun h=> ?_) (fun h=> ?_))<;>try subst h)|refine⟨by omega,?_⟩|fail
 all_goals first
  | (have a:=akA cap
     (refine c _ _ _ _ _ 1 (dO 3 0 l.length cap) (hp [(0,⟨3,cap,l.map eCJ⟩)]) _ _ (.inr rfl) rfl (oE [6] (by omega) (by repeat' first|exact C1| ((with_reducible apply C0);exact CQ (by omega) rfl rfl (by rfl) rfl)| ((with_reducible apply D0);apply CJ)|fail) ⟨⟨by simp,by simp[sgL],_,rfl,dX (aW E0 _) rfl rfl⟩,trivial⟩ (by simp[sgL])) ?_)
     exact⟨cap,by omega,rfl,rfl,rfl⟩)
  | (have g:l=[]:=ak9 (by omega)
     subst g
     (refine c _ _ _ _ _ 1 (dO 3 0 0 0) (hp [(0,⟨3,0,([]:List eZ).map eCJ⟩)]) _ _ (.inr rfl) rfl (oE [0] (by omega) (by repeat' first|exact C1| ((with_reducible apply C0);exact CC)| ((with_reducible apply D0);apply CJ)|fail) ⟨⟨by simp,by simp[sgL],_,rfl,dX (aW E0 _) rfl rfl⟩,trivial⟩ (by simp[sgL])) ?_)
     exact⟨0,akA _,rfl,rfl,rfl⟩)
theorem ED{l:List eZ}(hl:l.length<2^21)(h: ∀cap,l.length<=cap->K (dO 3 nx l.length cap) (H.set nx ⟨3,cap,l.map eCJ⟩) (nx+1)):an3 fQ [dS (l.map eCJ)] H nx K:=by
 refine(DP l hl).YD (l0:=[]) [] rfl ⟨aD rfl,trivial⟩ trivial (by simp) (by simp) (by simp) fun r H' f _ ⟨cap,a,b,c,d⟩=> ?_;have h:=h cap a;subst b;subst c;subst d;have e:back (tau 0 nx (nth [])) (hp [(0,⟨3,cap,l.map eCJ⟩)]) 1 H=H.set nx ⟨3,cap,l.map eCJ⟩:=by simp only[back,hp,aA.set,tau,alA,if_true,if_false,Nat.sub_zero,Nat.add_zero,Option.map_some,Dx,aA.mF]
 rw[<-e] at h;exact h
theorem EP(l:List eZ)(cap m:Nat)(hl:l.length<2^21)(hc:l.length<=cap):an3 gD [dO 3 0 l.length cap] (hp [(0,⟨3,m,l.map eCJ⟩)]) 1
 fun r H' a=>a=1/\ ∃o',H'=hp [(0,o')]/\DZ o'/\o'=⟨3,m,l.map eCJ⟩/\r=dO 3 0 l.length l.length:=by
 refine aM.mk Tryz.func263 (by kernel_rfl) D5 rfl fun Q b=> ?_
 unfold fR
 repeat' first|apply vI<;>(simp only[go_sem])|refine⟨by omega,?_⟩|fail
 exact Q6 b (dO 3 0 l.length l.length) _ _ rfl (by repeat' first|exact C1| ((with_reducible apply C0);exact CQ (by omega) rfl rfl (by rfl) rfl)| ((with_reducible apply D0);apply CJ)|fail) rfl (eS E0 _) ⟨rfl,rfl⟩
theorem FC{l:List eZ}{cap m i:Nat}(hl:l.length<2^21)(hc:l.length<=cap)(hi:i<nx)(a:H i=some ⟨3,m,l.map eCJ⟩)(h:K (dO 3 i l.length l.length) (H.set i ⟨3,m,l.map eCJ⟩) nx):
 an3 gD [dO 3 i l.length cap] H nx K:=
 (EP l cap m hl hc).Iq i rfl (lY ⟨I2 (by omega) rfl rfl rfl rfl,trivial⟩) hi a (eS E0 _) fun r o' ⟨b,c⟩=>by subst b;subst c;exact h
theorem LF(l:List eZ)(hl:l.length<2^21):an3 gB [dS (l.map eCJ)] (hp []) 0
 fun r H' b=>∃cap,l.length<=cap/\b=1/\H'=hp [(0,⟨3,cap,l.map eCJ⟩)]/\r=dO 3 0 l.length l.length:=by
 refine aM.mk Tryz.func186 (by kernel_rfl) JC rfl fun Q c=> ?_
 unfold iL
 repeat' first| (first|apply vI|refine ED hl (fun cap a=> ?_)|refine FC hl a (by omega) rfl ?_)<;>(simp only[go_sem])|fail
 (refine c _ _ _ _ _ 1 (dO 3 0 l.length l.length) (hp [(0,⟨3,cap,l.map eCJ⟩)]) _ _ (.inr rfl) rfl (oE [5] (by omega) (by repeat' first|exact C1| ((with_reducible apply C0);exact CQ (by omega) rfl rfl (by rfl) rfl)| ((with_reducible apply D0);apply CJ)|fail) ⟨⟨by simp,by simp[sgL],_,rfl,dX (aW E0 _) rfl rfl⟩,trivial⟩ (by simp[sgL])) ?_)
 exact⟨cap,a,rfl,rfl,rfl⟩
theorem uV{l:List eZ}(hl:l.length<2^21)(h: ∀m,l.length<=m->K (dO 3 nx l.length l.length) (H.set nx ⟨3,m,l.map eCJ⟩) (nx+1)):an3 gB [dS (l.map eCJ)] H nx K:=by
 refine(LF l hl).YD (l0:=[]) [] rfl ⟨aD rfl,trivial⟩ trivial (by simp) (by simp) (by simp) fun r H' f _ ⟨cap,a,b,c,d⟩=> ?_;have h:=h cap a;subst b;subst c;subst d;have e:back (tau 0 nx (nth [])) (hp [(0,⟨3,cap,l.map eCJ⟩)]) 1 H=H.set nx ⟨3,cap,l.map eCJ⟩:=by simp only[back,hp,aA.set,tau,alA,if_true,if_false,Nat.sub_zero,Nat.add_zero,Option.map_some,Dx,aA.mF]
 rw[<-e] at h;exact h
theorem Di{τ:Nat->Nat}{n m:Nat}{l:List cJ}:bQ.rn τ ⟨n,m,l.map bV⟩=⟨n,m,l.map bV⟩:=by refine CS fun r hr x a=> ?_;obtain⟨y,_,rfl⟩:=akJ.1 hr;exact akR.1 (MP y).2 x a
theorem AP(l:List cJ)(hl:l.length<2^21):an3 fD [dS (l.map bV)] (hp []) 0
 fun r H' e=>∃cap,l.length<=cap/\e=1/\H'=hp [(0,⟨4,cap,l.map bV⟩)]/\r=dO 4 0 l.length cap:=by
 refine aM.mk Tryz.func257 (by kernel_rfl) xY rfl fun Q c=> ?_
 unfold eO
 refine aH.seq (aH.kd 4 ?_)
 repeat' first|apply vI<;>(simp only[go_sem])|refine Z7 (fun h=> ?_) fun h=> ?_| (with_reducible first|refine fun(cap:Nat) (d:_<=cap)=> ?_|refine fun(f:_<=cap)=> ?_|refine fun(b:Bool)=> ?_)| ((refine L0 (fun h=> ?_) (fun h=> ?_))<;>try subst h)|refine⟨by omega,?_⟩|fail
 all_goals first
  | (have a:=akA cap
     (refine c _ _ _ _ _ 1 (dO 4 0 l.length cap) (hp [(0,⟨4,cap,l.map bV⟩)]) _ _ (.inr rfl) rfl (oE [6] (by omega) (by repeat' first|exact C1| ((with_reducible apply C0);exact CQ (by omega) rfl rfl (by rfl) rfl)| ((with_reducible apply D0);apply CJ)|fail) ⟨⟨by simp,by simp[sgL],_,rfl,dX (aW MP _) rfl rfl⟩,trivial⟩ (by simp[sgL])) ?_)
     exact⟨cap,by omega,rfl,rfl,rfl⟩)
  | (have g:l=[]:=ak9 (by omega)
     subst g
     (refine c _ _ _ _ _ 1 (dO 4 0 0 0) (hp [(0,⟨4,0,([]:List cJ).map bV⟩)]) _ _ (.inr rfl) rfl (oE [0] (by omega) (by repeat' first|exact C1| ((with_reducible apply C0);exact CC)| ((with_reducible apply D0);apply CJ)|fail) ⟨⟨by simp,by simp[sgL],_,rfl,dX (aW MP _) rfl rfl⟩,trivial⟩ (by simp[sgL])) ?_)
     exact⟨0,akA _,rfl,rfl,rfl⟩)
theorem AL{l:List cJ}(hl:l.length<2^21)(h: ∀cap,l.length<=cap->K (dO 4 nx l.length cap) (H.set nx ⟨4,cap,l.map bV⟩) (nx+1)):an3 fD [dS (l.map bV)] H nx K:=by
 refine(AP l hl).YD (l0:=[]) [] rfl ⟨aD rfl,trivial⟩ trivial (by simp) (by simp) (by simp) fun r H' f _ ⟨cap,a,b,c,d⟩=> ?_;have h:=h cap a;subst b;subst c;subst d;have e:back (tau 0 nx (nth [])) (hp [(0,⟨4,cap,l.map bV⟩)]) 1 H=H.set nx ⟨4,cap,l.map bV⟩:=by simp only[back,hp,aA.set,tau,alA,if_true,if_false,Nat.sub_zero,Nat.add_zero,Option.map_some,Di,aA.mF]
 rw[<-e] at h;exact h
theorem BW(l:List cJ)(cap m:Nat)(hl:l.length<2^21)(hc:l.length<=cap):an3 fK [dO 4 0 l.length cap] (hp [(0,⟨4,m,l.map bV⟩)]) 1
 fun r H' a=>a=1/\ ∃o',H'=hp [(0,o')]/\DZ o'/\o'=⟨4,m,l.map bV⟩/\r=dO 4 0 l.length l.length:=by
 refine aM.mk Tryz.func256 (by kernel_rfl) AS rfl fun Q b=> ?_
 unfold fE
 repeat' first|apply vI<;>(simp only[go_sem])|refine⟨by omega,?_⟩|fail
 exact Q6 b (dO 4 0 l.length l.length) _ _ rfl (by repeat' first|exact C1| ((with_reducible apply C0);exact CQ (by omega) rfl rfl (by rfl) rfl)| ((with_reducible apply D0);apply CJ)|fail) rfl (eS MP _) ⟨rfl,rfl⟩
theorem BX{l:List cJ}{cap m i:Nat}(hl:l.length<2^21)(hc:l.length<=cap)(hi:i<nx)(a:H i=some ⟨4,m,l.map bV⟩)(h:K (dO 4 i l.length l.length) (H.set i ⟨4,m,l.map bV⟩) nx):
 an3 fK [dO 4 i l.length cap] H nx K:=
 (BW l cap m hl hc).Iq i rfl (lY ⟨I2 (by omega) rfl rfl rfl rfl,trivial⟩) hi a (eS MP _) fun r o' ⟨b,c⟩=>by subst b;subst c;exact h
theorem JG(l:List cJ)(hl:l.length<2^21):an3 iK [dS (l.map bV)] (hp []) 0
 fun r H' b=>∃cap,l.length<=cap/\b=1/\H'=hp [(0,⟨4,cap,l.map bV⟩)]/\r=dO 4 0 l.length l.length:=by
 refine aM.mk Tryz.func182 (by kernel_rfl) IQ rfl fun Q c=> ?_
 unfold gY
 repeat' first| (first|apply vI|refine AL hl (fun cap a=> ?_)|refine BX hl a (by omega) rfl ?_)<;>(simp only[go_sem])|fail
 (refine c _ _ _ _ _ 1 (dO 4 0 l.length l.length) (hp [(0,⟨4,cap,l.map bV⟩)]) _ _ (.inr rfl) rfl (oE [5] (by omega) (by repeat' first|exact C1| ((with_reducible apply C0);exact CQ (by omega) rfl rfl (by rfl) rfl)| ((with_reducible apply D0);apply CJ)|fail) ⟨⟨by simp,by simp[sgL],_,rfl,dX (aW MP _) rfl rfl⟩,trivial⟩ (by simp[sgL])) ?_)
 exact⟨cap,a,rfl,rfl,rfl⟩
theorem JI{l:List cJ}(hl:l.length<2^21)(h: ∀m,l.length<=m->K (dO 4 nx l.length l.length) (H.set nx ⟨4,m,l.map bV⟩) (nx+1)):an3 iK [dS (l.map bV)] H nx K:=by
 refine(JG l hl).YD (l0:=[]) [] rfl ⟨aD rfl,trivial⟩ trivial (by simp) (by simp) (by simp) fun r H' f _ ⟨cap,a,b,c,d⟩=> ?_;have h:=h cap a;subst b;subst c;subst d;have e:back (tau 0 nx (nth [])) (hp [(0,⟨4,cap,l.map bV⟩)]) 1 H=H.set nx ⟨4,cap,l.map bV⟩:=by simp only[back,hp,aA.set,tau,alA,if_true,if_false,Nat.sub_zero,Nat.add_zero,Option.map_some,Di,aA.mF]
 rw[<-e] at h;exact h
theorem Gv{τ:Nat->Nat}{n m:Nat}{l:List lR}:bQ.rn τ ⟨n,m,l.map eV⟩=⟨n,m,l.map eV⟩:=by refine CS fun r hr x a=> ?_;obtain⟨y,_,rfl⟩:=akJ.1 hr;exact akR.1 (TH y).2 x a
theorem xQ(l:List lR)(hl:l.length<2^21):an3 eL [dS (l.map eV)] (hp []) 0
 fun r H' e=>∃cap,l.length<=cap/\e=1/\H'=hp [(0,⟨3,cap,l.map eV⟩)]/\r=dO 3 0 l.length cap:=by
 refine aM.mk Tryz.func259 (by kernel_rfl) wM rfl fun Q c=> ?_
 unfold eF
 refine aH.seq (aH.kd 3 ?_)
 repeat' first|apply vI<;>(simp only[go_sem])|refine Z7 (fun h=> ?_) fun h=> ?_| (with_reducible first|refine fun(cap:Nat) (d:_<=cap)=> ?_|refine fun(f:_<=cap)=> ?_|refine fun(b:Bool)=> ?_)| ((refine L0 (fun h=> ?_) (fun h=> ?_))<;>try subst h)|refine⟨by omega,?_⟩|fail
 all_goals first
  | (have a:=akA cap
     (refine c _ _ _ _ _ 1 (dO 3 0 l.length cap) (hp [(0,⟨3,cap,l.map eV⟩)]) _ _ (.inr rfl) rfl (oE [6] (by omega) (by repeat' first|exact C1| ((with_reducible apply C0);exact CQ (by omega) rfl rfl (by rfl) rfl)| ((with_reducible apply D0);apply CJ)|fail) ⟨⟨by simp,by simp[sgL],_,rfl,dX (aW TH _) rfl rfl⟩,trivial⟩ (by simp[sgL])) ?_)
     exact⟨cap,by omega,rfl,rfl,rfl⟩)
  | (have g:l=[]:=ak9 (by omega)
     subst g
     (refine c _ _ _ _ _ 1 (dO 3 0 0 0) (hp [(0,⟨3,0,([]:List lR).map eV⟩)]) _ _ (.inr rfl) rfl (oE [0] (by omega) (by repeat' first|exact C1| ((with_reducible apply C0);exact CC)| ((with_reducible apply D0);apply CJ)|fail) ⟨⟨by simp,by simp[sgL],_,rfl,dX (aW TH _) rfl rfl⟩,trivial⟩ (by simp[sgL])) ?_)
     exact⟨0,akA _,rfl,rfl,rfl⟩)
theorem xS{l:List lR}(hl:l.length<2^21)(h: ∀cap,l.length<=cap->K (dO 3 nx l.length cap) (H.set nx ⟨3,cap,l.map eV⟩) (nx+1)):an3 eL [dS (l.map eV)] H nx K:=by
 refine(xQ l hl).YD (l0:=[]) [] rfl ⟨aD rfl,trivial⟩ trivial (by simp) (by simp) (by simp) fun r H' f _ ⟨cap,a,b,c,d⟩=> ?_;have h:=h cap a;subst b;subst c;subst d;have e:back (tau 0 nx (nth [])) (hp [(0,⟨3,cap,l.map eV⟩)]) 1 H=H.set nx ⟨3,cap,l.map eV⟩:=by simp only[back,hp,aA.set,tau,alA,if_true,if_false,Nat.sub_zero,Nat.add_zero,Option.map_some,Gv,aA.mF]
 rw[<-e] at h;exact h
theorem zV(l:List lR)(cap m:Nat)(hl:l.length<2^21)(hc:l.length<=cap):an3 eW [dO 3 0 l.length cap] (hp [(0,⟨3,m,l.map eV⟩)]) 1
 fun r H' a=>a=1/\ ∃o',H'=hp [(0,o')]/\DZ o'/\o'=⟨3,m,l.map eV⟩/\r=dO 3 0 l.length l.length:=by
 refine aM.mk Tryz.func258 (by kernel_rfl) xR rfl fun Q b=> ?_
 unfold eJ
 repeat' first|apply vI<;>(simp only[go_sem])|refine⟨by omega,?_⟩|fail
 exact Q6 b (dO 3 0 l.length l.length) _ _ rfl (by repeat' first|exact C1| ((with_reducible apply C0);exact CQ (by omega) rfl rfl (by rfl) rfl)| ((with_reducible apply D0);apply CJ)|fail) rfl (eS TH _) ⟨rfl,rfl⟩
theorem xU{l:List lR}{cap m i:Nat}(hl:l.length<2^21)(hc:l.length<=cap)(hi:i<nx)(a:H i=some ⟨3,m,l.map eV⟩)(h:K (dO 3 i l.length l.length) (H.set i ⟨3,m,l.map eV⟩) nx):
 an3 eW [dO 3 i l.length cap] H nx K:=
 (zV l cap m hl hc).Iq i rfl (lY ⟨I2 (by omega) rfl rfl rfl rfl,trivial⟩) hi a (eS TH _) fun r o' ⟨b,c⟩=>by subst b;subst c;exact h
theorem HJ(l:List lR)(hl:l.length<2^21):an3 gZ [dS (l.map eV)] (hp []) 0
 fun r H' b=>∃cap,l.length<=cap/\b=1/\H'=hp [(0,⟨3,cap,l.map eV⟩)]/\r=dO 3 0 l.length l.length:=by
 refine aM.mk Tryz.func183 (by kernel_rfl) GH rfl fun Q c=> ?_
 unfold gT
 repeat' first| (first|apply vI|refine xS hl (fun cap a=> ?_)|refine xU hl a (by omega) rfl ?_)<;>(simp only[go_sem])|fail
 (refine c _ _ _ _ _ 1 (dO 3 0 l.length l.length) (hp [(0,⟨3,cap,l.map eV⟩)]) _ _ (.inr rfl) rfl (oE [5] (by omega) (by repeat' first|exact C1| ((with_reducible apply C0);exact CQ (by omega) rfl rfl (by rfl) rfl)| ((with_reducible apply D0);apply CJ)|fail) ⟨⟨by simp,by simp[sgL],_,rfl,dX (aW TH _) rfl rfl⟩,trivial⟩ (by simp[sgL])) ?_)
 exact⟨cap,a,rfl,rfl,rfl⟩
theorem HT{l:List lR}(hl:l.length<2^21)(h: ∀m,l.length<=m->K (dO 3 nx l.length l.length) (H.set nx ⟨3,m,l.map eV⟩) (nx+1)):an3 gZ [dS (l.map eV)] H nx K:=by
 refine(HJ l hl).YD (l0:=[]) [] rfl ⟨aD rfl,trivial⟩ trivial (by simp) (by simp) (by simp) fun r H' f _ ⟨cap,a,b,c,d⟩=> ?_;have h:=h cap a;subst b;subst c;subst d;have e:back (tau 0 nx (nth [])) (hp [(0,⟨3,cap,l.map eV⟩)]) 1 H=H.set nx ⟨3,cap,l.map eV⟩:=by simp only[back,hp,aA.set,tau,alA,if_true,if_false,Nat.sub_zero,Nat.add_zero,Option.map_some,Gv,aA.mF]
 rw[<-e] at h;exact h
end
section
variable{H:aA}{nx:Nat}{K:an4}
theorem Ft{s:CSt}(hs:CSz s)
 (h: ∀H' nx' nm cells,nx<=nx'->Ej H' nm s cells->Part (fun k=>k<19) nx nx' nm->(∀id,id<nx->H' id=H id)->K (.one (.agg cells)) H' nx'):
 an3 gX [dA (dY s)] H nx K:=by
 have X:=hs.pl
 have Y:=hs.sl
 refine bA.mk Tryz.func96 (by kernel_rfl) L3 rfl fun Q hQ=> ?_
 unfold jL
 refine aH.EN fun cf=> ?_
 have cl: ∀k l,msk (nx+k) l H=H:=fun k l=>CW cf (by omega)
 repeat' first| (first|apply vI|refine zU (w:=s.words) (u:=s.holds) hs.w hs.h (fun m0 m1 ei ej=> ?_)|refine JI (l:=s.bE) (by omega) (fun m2 eo=> ?_)|refine HT (l:=s.bM) (by omega) (fun m3 ep=> ?_)|refine pI (l:=s.told) hs.t.1 hs.t.2 (fun m4 et=> ?_))<;>(simp only[go_sem,nL,cl,umS (G:=H),umD (G:=H),umB,msk,List.map,akK,alM,or_false,X,Y])|fail
 refine aH.Ia fun A e=> ?_
 have c0:A nx=some ⟨5,1,[dY s]⟩:=by rw[e];simp only[aA.set,akW,Nat.reduceEqDiff,al0,akC,if_false,if_true]
 have c1:A (nx+1)=some ⟨5,1,[[.osl 0 0 0 0 0,.osl 0 0 0 0 0,.osl 0 0 0 0 0,.osl 0 0 0 0 0,.osl 0 0 0 0 0]]⟩:=by rw[e];simp only[aA.set,akW,Nat.reduceEqDiff,al0,akC,if_false,if_true]
 have cp:A (nx+15)=some ⟨5,1,[[.osl 1 (nx+17) 0 s.words.length s.words.length,.osl 1 (nx+18) 0 s.holds.length s.holds.length,.osl 4 (nx+19) 0 3 3,.osl 3 (nx+20) 0 4 4,.osl 5 (nx+21) 0 s.told.length s.told.length]]⟩:=by rw[e];simp only[aA.set,akW,Nat.reduceEqDiff,al0,akC,if_false,if_true]
 have cq:A (nx+17)=some ⟨1,m0,s.words.map aG⟩:=by rw[e];simp only[aA.set,akW,Nat.reduceEqDiff,al0,akC,if_false,if_true]
 have ct:A (nx+18)=some ⟨1,m1,s.holds.map aG⟩:=by rw[e];simp only[aA.set,akW,Nat.reduceEqDiff,al0,akC,if_false,if_true]
 have cw:A (nx+19)=some ⟨4,m2,s.bE.map bV⟩:=by rw[e];simp only[aA.set,akW,Nat.reduceEqDiff,al0,akC,if_false,if_true]
 have cx:A (nx+20)=some ⟨3,m3,s.bM.map eV⟩:=by rw[e];simp only[aA.set,akW,Nat.reduceEqDiff,al0,akC,if_false,if_true]
 have cy:A (nx+21)=some ⟨5,m4,s.told.map aP⟩:=by rw[e];simp only[aA.set,akW,Nat.reduceEqDiff,al0,akC,if_false,if_true]
 have dc: ∀id,id<nx->A id=H id:=fun id Z=>by rw[e];simp only[aA.set,show ¬id=nx by omega,show ¬id=nx+1 by omega,show ¬id=nx+15 by omega,show ¬id=nx+17 by omega,show ¬id=nx+18 by omega,show ¬id=nx+19 by omega,show ¬id=nx+20 by omega,show ¬id=nx+21 by omega,if_false]
 clear e
 refine aH.cE (β:=Nat×(Nat->Nat)) (fun u=>en [(24,dI u.1),(23,dI 3),(22,dS (s.bE.map bV)),(3,.one (.c (.ptr 5 (nx+15) 0 0))),(2,.one (.c (.ptr 5 (nx+1) 0 0))),(1,.one (.c (.ptr 5 nx 0 0)))])
  (fun u H1 g=>u.1<=3/\(∀j,j<5->u.2 j=nx+17+j)/\Part (fun j=>j<5\/(5<=j/\j<5+u.1)\/(8<=j/\j<8+u.1)) (nx+17) g u.2/\(∀id,id<nx+22->id≠nx+19->H1 id=A id)/\ ∃rows,H1 (nx+19)=some ⟨4,m2,rows⟩/\aiG u.1 H1 u.2 s rows)
  (fun u=>3-u.1) (0,fun j=>nx+17+j) ⟨noF,_,by repeat' first|exact C1|refine xqI rfl rfl ?_|refine xqP (by omega) rfl rfl ?_|fail,aF,by dsimp only;omega,fun _ _=>rfl,⟨fun j k _ _ he=>by dsimp only at he;omega,fun j a=>by dsimp only at a ⊢;omega⟩,fun _ _ _=>rfl,_,cw,by simpa using X,fun j a=>by dsimp only at a;omega,fun j _ a=>by rw[akN];simp[aL,List.getD,show j<s.bE.length by omega]⟩ ?_
 rintro⟨k,nm⟩ H1 g eu ⟨hk,C,L,o,rows,ad,ao,R,S⟩ KL df
 dsimp only at hk C L R S
 have g0:H1 nx=some ⟨5,1,[dY s]⟩:=by rw[o _ (by omega) (by omega)];exact c0
 have az:H1 (nx+15)=some ⟨5,1,[[.osl 1 (nx+17) 0 s.words.length s.words.length,.osl 1 (nx+18) 0 s.holds.length s.holds.length,.osl 4 (nx+19) 0 3 3,.osl 3 (nx+20) 0 4 4,.osl 5 (nx+21) 0 s.told.length s.told.length]]⟩:=by rw[o _ (by omega) (by omega)];exact cp
 have hA:bH g [nx,nx+1,nx+15,nx+19,nx+20]:=AM.apart (by simp) (by simp;omega)
 simp only[bH,cU] at hA
 by_cases D:k<3
 ·obtain⟨p,q⟩: ∃p,p=aL s k:=⟨_,rfl⟩
  have aa:s.bE.getD k default=p:=q.symm;obtain⟨hq,ho⟩:=hs.port k D;rw[<-q] at hq ho;have E: ∀r,(rows.set k r)[k]?=some r:=fun r=>by rw[ak6 (by omega)]
  have F:=S k (akA _) D;rw[<-q] at F;refine aH.EN fun I=> ?_;have J: ∀k l,msk (g+k) l H1=H1:=fun k l=>CW I (by omega);repeat' first| (first|apply vI|refine nY (l:=p.queue) hq (fun mq dh=> ?_)|refine uV (l:=p.out) ho (fun mo ds=> ?_))<;>(simp only[go_sem,nL,J,umS (G:=H1),umD (G:=H1),umB,msk,List.map,akK,alM,or_false,aa,E,F,ak4,g0,az,ad,hA];try simp (disch:=omega) only[Iw])|apply vT (by omega)|refine⟨by omega,?_⟩|fail
  have O: ∀j,j<5\/(5<=j/\j<5+k)\/(8<=j/\j<8+k)->j≠2->nm j≠nx+19:=fun j a i he=>i (L.inj j 2 a (.inl (by omega)) (by rw[he,C 2 (by omega)]));refine df _ _ _ (k+1,put (put nm (5+k) (g+25)) (8+k) (g+26)) noF _ (by omega) (by dsimp only;omega) (by repeat' first|exact C1|refine xqI rfl rfl ?_|refine xqP (by omega) rfl rfl ?_|fail) aF ⟨by dsimp only;omega,fun j a=> ?_,?_,fun id x e1=> ?_,_,aA.aI,?_,fun j a=> ?_,fun j y i=> ?_⟩;·dsimp only;rw[dG (by omega),dG (by omega)];exact C j a
  ·exact(L.put (B:=fun j=>j<5\/(5<=j/\j<5+(k+1))\/(8<=j/\j<8+k)) (hi':=g+26) (by omega) (by omega) (by omega) (fun j a=>by first|omega| (dsimp only at*;omega))).put (by omega) (by omega) (by omega) (fun j a=>by first|omega| (dsimp only at*;omega))
  ·rw[aA.aB e1,aA.aB (by omega),aA.aB (by omega),aA.aB (by omega)];exact o id x e1
  ·rw[akI];exact ao
  ·dsimp only at a ⊢;by_cases T:j=k
   ·subst T;refine⟨_,E _,⟨0,p.queue.length,p.out.length,?_,?_,?_⟩⟩;·rw[dG (by omega),kQ,kQ,<-q];rfl
    ·rw[dG (by omega),kQ,<-q];exact⟨mq,p.queue.map aG,by rw[aA.aB (by omega),aA.aB (by omega)];exact aA.aI,rfl,by simp,by simp,akA _,by omega⟩
    ·rw[kQ,<-q];exact⟨mo,p.out.map eCJ,by rw[aA.aB (by omega)];exact aA.aI,rfl,by simp,by simp,akA _,by omega⟩
   ·obtain⟨r,y,i⟩:=R j (by omega);have a5:=L.rng (5+j) (.inr (.inl ⟨by omega,by omega⟩));have a8:=L.rng (8+j) (.inr (.inr ⟨by omega,by omega⟩));refine⟨r,by rw[ak7 (by omega)];exact y,?_⟩;rw[dG (show 5+j≠8+k by omega),dG (show 5+j≠5+k by omega),dG (show 8+j≠8+k by omega),dG (show 8+j≠5+k by omega)];apply i.frame;·rw[aA.aB (O _ (.inr (.inl ⟨by omega,by omega⟩)) (by omega)),aA.aB (by omega),aA.aB (by omega),aA.aB (by omega)]
    ·rw[aA.aB (O _ (.inr (.inr ⟨by omega,by omega⟩)) (by omega)),aA.aB (by omega),aA.aB (by omega),aA.aB (by omega)]
  ·dsimp only at y ⊢;rw[ak7 (by omega)];exact S j (by omega) i
 ·repeat' first|apply vI<;>(simp only[go_sem,g0])|apply vF (by omega)|fail
  have dv:k=3:=by omega
  subst dv;have dx:H1 (nx+20)=some ⟨3,m3,s.bM.map eV⟩:=by rw[o _ (by omega) (by omega)];exact cx
  refine aH.cE (β:=Nat×(Nat->Nat)) (fun u=>en [(49,dI u.1),(48,dI 4),(47,dS (s.bM.map eV)),(3,.one (.c (.ptr 5 (nx+15) 0 0))),(2,.one (.c (.ptr 5 (nx+1) 0 0)))])
   (fun u H2 n=>u.1<=4/\(∀j,j<11->u.2 j=nm j)/\Part (fun j=>j<11\/(11<=j/\j<11+u.1)\/(15<=j/\j<15+u.1)) (nx+17) n u.2/\(∀id,id<g->id≠nx+20->H2 id=H1 id)/\ ∃rv,H2 (nx+20)=some ⟨3,m3,rv⟩/\ahS u.1 H2 u.2 s rv)
   (fun u=>4-u.1) (0,nm) ⟨noF,_,by repeat' first|exact C1|refine xqI rfl rfl ?_|refine xqP (by omega) rfl rfl ?_|refine xqV rfl (by omega) ?_|fail,aF,by dsimp only;omega,fun _ _=>rfl,⟨fun j k a hk he=>L.inj j k (by first|omega| (dsimp only at*;omega)) (by first|omega| (dsimp only at*;omega)) he,fun j a=>by have:=L.rng j (by first|omega| (dsimp only at*;omega));first|omega| (dsimp only at*;omega)⟩,fun _ _ _=>rfl,_,dx,by simpa using Y,fun j a=>by dsimp only at a;omega,fun j _ a=>by rw[akN];simp[aU,List.getD,show j<s.bM.length by omega]⟩ ?_
  rintro⟨k,m⟩ H2 n dy ⟨hk,b,f,d,rv,f20,br,U,V⟩ KM dz;dsimp only at hk b f U V;have ca:H2 (nx+15)=some ⟨5,1,[[.osl 1 (nx+17) 0 s.words.length s.words.length,.osl 1 (nx+18) 0 s.holds.length s.holds.length,.osl 4 (nx+19) 0 3 3,.osl 3 (nx+20) 0 4 4,.osl 5 (nx+21) 0 s.told.length s.told.length]]⟩:=by rw[d _ (by omega) (by omega)];exact az
  have f1:H2 (nx+1)=some ⟨5,1,[[.osl 0 0 0 0 0,.osl 0 0 0 0 0,.osl 0 0 0 0 0,.osl 0 0 0 0 0,.osl 0 0 0 0 0]]⟩:=by rw[d _ (by omega) (by omega),o _ (by omega) (by omega)];exact c1
  have W:bH n [nx,nx+1,nx+15,nx+19,nx+20]:=AM.apart (by simp) (by simp;omega);simp only[bH,cU] at W;have M:m 3=nx+20:=by rw[b 3 (by omega),C 3 (by omega)]
  by_cases D:k<4
  ·obtain⟨v,z⟩: ∃v,v=aU s k:=⟨_,rfl⟩
   have ab:s.bM.getD k default=v:=z.symm;obtain⟨hq,ho,cc⟩:=hs.slv k D;rw[<-z] at hq ho cc;have E: ∀r,(rv.set k r)[k]?=some r:=fun r=>by rw[ak6 (by omega)]
   have F:=V k (akA _) D;rw[<-z] at F;refine aH.EN fun I=> ?_;have J: ∀k l,msk (n+k) l H2=H2:=fun k l=>CW I (by omega);repeat' first| (first|apply vI|refine uV (l:=v.pipe) hq (fun mq dh=> ?_)|refine pI (l:=v.done) ho cc (fun mo ds=> ?_))<;>(simp only[go_sem,nL,J,umS (G:=H2),umD (G:=H2),umB,msk,List.map,akK,alM,or_false,ab,E,F,ak4,ca,f20,W];try simp (disch:=omega) only[Iw])|apply vT (by omega)|refine⟨by omega,?_⟩|fail
   have P: ∀j,j<11\/(11<=j/\j<11+k)\/(15<=j/\j<15+k)->j≠3->m j≠nx+20:=fun j a i he=>i (f.inj j 3 a (.inl (by omega)) (by rw[he,M]));refine dz _ _ _ (k+1,put (put m (11+k) (n+25)) (15+k) (n+26)) noF _ (by omega) (by dsimp only;omega) (by repeat' first|exact C1|refine xqI rfl rfl ?_|refine xqP (by omega) rfl rfl ?_|fail) aF ⟨by dsimp only;omega,fun j a=> ?_,?_,fun id x e1=> ?_,_,aA.aI,?_,fun j a=> ?_,fun j y i=> ?_⟩;·dsimp only;rw[dG (by omega),dG (by omega)];exact b j a
   ·exact(f.put (B:=fun j=>j<11\/(11<=j/\j<11+(k+1))\/(15<=j/\j<15+k)) (hi':=n+26) (by omega) (by omega) (by omega) (fun j a=>by first|omega| (dsimp only at*;omega))).put (by omega) (by omega) (by omega) (fun j a=>by first|omega| (dsimp only at*;omega))
   ·rw[aA.aB e1,aA.aB (by omega),aA.aB (by omega),aA.aB (by omega)];exact d id x e1
   ·rw[akI];exact br
   ·dsimp only at a ⊢;by_cases T:j=k
    ·subst T;refine⟨_,E _,⟨0,v.pipe.length,0,v.done.length,?_,?_,?_⟩⟩;·rw[dG (by omega),kQ,kQ,<-z];rfl
     ·rw[dG (by omega),kQ,<-z];exact⟨mq,v.pipe.map eCJ,by rw[aA.aB (by omega),aA.aB (by omega)];exact aA.aI,rfl,by simp,by simp,akA _,by omega⟩
     ·rw[kQ,<-z];exact⟨mo,v.done.map aP,by rw[aA.aB (by omega)];exact aA.aI,rfl,by simp,by simp,akA _,by omega⟩
    ·obtain⟨r,y,i⟩:=U j (by omega);have a5:=f.rng (11+j) (.inr (.inl ⟨by omega,by omega⟩));have a8:=f.rng (15+j) (.inr (.inr ⟨by omega,by omega⟩));refine⟨r,by rw[ak7 (by omega)];exact y,?_⟩;rw[dG (show 11+j≠15+k by omega),dG (show 11+j≠11+k by omega),dG (show 15+j≠15+k by omega),dG (show 15+j≠11+k by omega)];apply i.frame;·rw[aA.aB (P _ (.inr (.inl ⟨by omega,by omega⟩)) (by omega)),aA.aB (by omega),aA.aB (by omega),aA.aB (by omega)]
     ·rw[aA.aB (P _ (.inr (.inr ⟨by omega,by omega⟩)) (by omega)),aA.aB (by omega),aA.aB (by omega),aA.aB (by omega)]
   ·dsimp only at y ⊢;rw[ak7 (by omega)];exact V j (by omega) i
  ·repeat' first|apply vI<;>(simp only[go_sem,ca,f1,W])|apply vF (by omega)|fail
   have ed:k=4:=(by omega);subst ed;have x: ∀j,j<5->m j=nx+17+j:=fun j a=>(b j (by omega)).trans (C j a);have N: ∀id,id<nx+22->id≠nx+1->id≠nx+19->id≠nx+20->(H2.set (nx+1) ⟨5,1,[[.osl 1 (nx+17) 0 s.words.length s.words.length,.osl 1 (nx+18) 0 s.holds.length s.holds.length,.osl 4 (nx+19) 0 3 3,.osl 3 (nx+20) 0 4 4,.osl 5 (nx+21) 0 s.told.length s.told.length]]⟩) id=A id:=fun id y i h3 h4=>by rw[aA.aB i,d id (by omega) h4,o id y h3]
   have cd: ∀j,j<19->nx+17<=m j:=fun j a=>(f.rng j (by first|omega| (dsimp only;omega))).1;refine hQ _ _ _ _ _ (.inr rfl) (kD rfl aA.aI rfl) (h _ _ m _ (by omega) ⟨⟨s.words.length,s.holds.length,3,4,s.told.length,?_,?_,?_,?_,akA _,akA _⟩,⟨m2,rows,?_,ao,fun j a=> ?_⟩,⟨m3,rv,?_,br,fun j a=> ?_⟩⟩ ⟨fun j k a hk he=>f.inj j k (by first|omega| (dsimp only;omega)) (by first|omega| (dsimp only;omega)) he,fun j a=>by have:=f.rng j (by first|omega| (dsimp only;omega));omega⟩ fun id Z=> ?_);·rw[kh,x 0 (by omega),x 1 (by omega),x 2 (by omega),x 3 (by omega),x 4 (by omega)]
   ·rw[x 0 (by omega)];exact⟨m0,s.words.map aG,(N _ (by omega) (by omega) (by omega) (by omega)).trans cq,rfl,by simp,by simp,akA _,by omega⟩
   ·rw[x 1 (by omega)];exact⟨m1,s.holds.map aG,(N _ (by omega) (by omega) (by omega) (by omega)).trans ct,rfl,by simp,by simp,akA _,by omega⟩
   ·rw[x 4 (by omega)];exact⟨m4,s.told.map aP,(N _ (by omega) (by omega) (by omega) (by omega)).trans cy,rfl,by simp,by simp,akA _,by omega⟩
   ·rw[x 2 (by omega),aA.aB (by omega),d _ (by omega) (by omega)];exact ad
   ·obtain⟨r,y,i⟩:=R j a;have a5:=L.rng (5+j) (.inr (.inl ⟨by omega,by omega⟩));have a8:=L.rng (8+j) (.inr (.inr ⟨by omega,by omega⟩));have b5:m (5+j)≠nx+20:=fun he=>by have:=f.inj (5+j) 3 (.inl (by omega)) (.inl (by omega)) (by rw[he,M]);omega
    have b8:m (8+j)≠nx+20:=fun he=>by have:=f.inj (8+j) 3 (.inl (by omega)) (.inl (by omega)) (by rw[he,M]);omega
    rw[b _ (by omega)] at b5 b8;refine⟨r,y,?_⟩;rw[b _ (by omega),b _ (by omega)];exact i.frame (by rw[aA.aB (by omega),d _ (by omega) b5]) (by rw[aA.aB (by omega),d _ (by omega) b8])
   ·rw[M,aA.aB (by omega)];exact f20
   ·obtain⟨r,y,i⟩:=U j a;exact⟨r,y,i.frame (aA.aB (by have:=cd (11+j) (by omega);omega)) (aA.aB (by have:=cd (15+j) (by omega);omega))⟩
   ·rw[N id (by omega) (by omega) (by omega) (by omega)];exact dc id Z
end
section
variable{H:aA}{nx:Nat}{K:an4}
theorem NI(s:TSt)(hs:Fu s):an3 kG [dA (eSt s)] (hp []) 0
 fun r H' o=>∃m0 m1 a b c d,(s.words.length<=m0/\s.holds.length<=m1/\s.asked.length<=a/\s.wait.length<=b/\s.done.length<=c/\s.told.length<=d)/\o=6/\H'=hp [(0,⟨1,m0,s.words.map aG⟩),(1,⟨1,m1,s.holds.map aG⟩),(2,⟨1,a,s.asked.map aG⟩),(3,⟨5,b,s.wait.map aP⟩),(4,⟨5,c,s.done.map aP⟩),(5,⟨5,d,s.told.map aP⟩)]/\
  r=dA (oIm 0 1 2 3 4 5 s.words.length s.holds.length s.asked.length s.wait.length s.done.length s.told.length s):=by
 obtain⟨p,q,t,v,x,y,f⟩:=hs
 refine aM.mk Tryz.func132 (by kernel_rfl) LU rfl fun Q z=> ?_
 unfold jM
 repeat' first| (first|apply vI|refine zU (w:=s.words) (u:=s.holds) (by omega) (by omega) (fun m0 m1 g h=> ?_)|refine nY (l:=s.asked) (by omega) (fun a i=> ?_)|refine pI (l:=s.wait) (by omega) (fun j e=>f j (by simp[e])) (fun b k=> ?_)|refine pI (l:=s.done) (by omega) (fun j e=>f j (by simp[e])) (fun c m=> ?_)|refine pI (l:=s.told) (by omega) (fun j e=>f j (by simp[e])) (fun d n=> ?_))<;>(simp only[go_sem])|fail
 (refine z _ _ _ _ _ 6 (dA (oIm 0 1 2 3 4 5 s.words.length s.holds.length s.asked.length s.wait.length s.done.length s.told.length s)) (hp [(0,⟨1,m0,s.words.map aG⟩),(1,⟨1,m1,s.holds.map aG⟩),(2,⟨1,a,s.asked.map aG⟩),(3,⟨5,b,s.wait.map aP⟩),(4,⟨5,c,s.done.map aP⟩),(5,⟨5,d,s.told.map aP⟩)]) _ _ (.inr rfl) rfl (oE [19,20,21,22,23,24] (by omega) (by repeat' first|exact C1| ((with_reducible apply C0);exact CQ (by omega) rfl rfl (by rfl) rfl)| ((with_reducible apply D0);apply C9)|exact C3|apply C4|fail) ⟨⟨by simp,by simp[sgL],_,rfl,dX (aW bG _) rfl rfl⟩,⟨by simp,by simp[sgL],_,rfl,dX (aW bG _) rfl rfl⟩,⟨by simp,by simp[sgL],_,rfl,dX (aW bG _) rfl rfl⟩,⟨by simp,by simp[sgL],_,rfl,dX (aW dE _) rfl rfl⟩,⟨by simp,by simp[sgL],_,rfl,dX (aW dE _) rfl rfl⟩,⟨by simp,by simp[sgL],_,rfl,dX (aW dE _) rfl rfl⟩,trivial⟩ (by simp[sgL])) ?_)
 exact⟨m0,m1,a,b,c,d,⟨g,h,i,k,m,n⟩,rfl,rfl,rfl⟩
theorem MI{s:TSt}(hs:Fu s)(h: ∀m0 m1 a b c d,(s.words.length<=m0/\s.holds.length<=m1/\s.asked.length<=a/\s.wait.length<=b/\s.done.length<=c/\s.told.length<=d)->K (dA (oIm nx (nx+1) (nx+2) (nx+3) (nx+4) (nx+5) s.words.length s.holds.length s.asked.length s.wait.length s.done.length s.told.length s)) ((((((H.set nx ⟨1,m0,s.words.map aG⟩).set (nx+1) ⟨1,m1,s.holds.map aG⟩).set (nx+2) ⟨1,a,s.asked.map aG⟩).set (nx+3) ⟨5,b,s.wait.map aP⟩).set (nx+4) ⟨5,c,s.done.map aP⟩).set (nx+5) ⟨5,d,s.told.map aP⟩) (nx+6)):
 an3 kG [dA (eSt s)] H nx K:=by
 refine(NI s hs).YD (l0:=[]) [] rfl ⟨aD rfl,trivial⟩ trivial (by simp) (by simp) (by simp) fun r H' k _ ⟨m0,m1,a,b,c,d,e,f,g,i⟩=> ?_
 have h:=h m0 m1 a b c d e
 subst f;subst g;subst i
 have j:back (tau 0 nx (nth [])) (hp [(0,⟨1,m0,s.words.map aG⟩),(1,⟨1,m1,s.holds.map aG⟩),(2,⟨1,a,s.asked.map aG⟩),(3,⟨5,b,s.wait.map aP⟩),(4,⟨5,c,s.done.map aP⟩),(5,⟨5,d,s.told.map aP⟩)]) 6 H=((((((H.set nx ⟨1,m0,s.words.map aG⟩).set (nx+1) ⟨1,m1,s.holds.map aG⟩).set (nx+2) ⟨1,a,s.asked.map aG⟩).set (nx+3) ⟨5,b,s.wait.map aP⟩).set (nx+4) ⟨5,c,s.done.map aP⟩).set (nx+5) ⟨5,d,s.told.map aP⟩):=by simp[back,hp,aA.set,aA.nil,tau,nth,P9,QA,aA.mF,aA.dp]
 rw[<-j] at h
 exact h
theorem wy{s:CSt}(hs:jx s)(h: ∀H' nx',nx<=nx'->(∀id,id<nx->H' id=H id)->K (dA (eSt (dH s))) H' nx'):an3 LA [dA (dY s)] H nx K:=by
 have dz:=hs.pl;have eo:=hs.sl;obtain⟨N,hN⟩: ∃N,N=s.bM.length:=⟨_,rfl⟩
 rw[<-hN] at eo;apply aC.VP;refine bA.mk Tryz.func51 (by kernel_rfl) ue rfl fun Q hQ=> ?_;unfold yO;repeat' first|apply vI<;>(simp only[go_sem,nL,dz])|fail
 apply aH.kd 1;apply aH.kd 5;apply aH.kd 5;refine aH.VP _ _ noF (fun t=>.inl rfl) (dd (i:=nx+7) (o:=⟨6,1,[[.isl (s.words.map aG),.isl (s.holds.map aG),.osl 0 0 0 0 0,.osl 0 0 0 0 0,.osl 0 0 0 0 0,.isl (s.told.map aP)]]⟩) (o':=⟨6,1,[[.isl (s.words.map aG),.isl (s.holds.map aG),.osl 1 (nx+13) 0 0 0,.osl 5 (nx+14) 0 0 0,.osl 5 (nx+15) 0 0 0,.isl (s.told.map aP)]]⟩) (by simp only[aA.set,akB,akW,Nat.reduceEqDiff,Nat.reduceAdd,if_false,if_true]) (jU (aQ (bZ rfl) (aQ (bZ rfl) (aQ (.Fq ..) (aQ (.Fq ..) (aQ (.Fq ..) (aQ (bZ rfl) iA)))))))) ?_;refine aH.Ia fun G0 X=> ?_;have c0:G0 nx=some ⟨5,1,[dY s]⟩:=by rw[X];simp only[aA.set,akB,akW,Nat.reduceEqDiff,Nat.reduceAdd,akC,if_false,if_true]
 have c1:G0 (nx+1)=some ⟨6,1,[[.osl 0 0 0 0 0,.osl 0 0 0 0 0,.osl 0 0 0 0 0,.osl 0 0 0 0 0,.osl 0 0 0 0 0,.osl 0 0 0 0 0]]⟩:=by rw[X];simp only[aA.set,akB,akW,Nat.reduceEqDiff,Nat.reduceAdd,akC,if_false,if_true]
 have cA:WG G0 (nx+13) (nx+16) (nx+7) s [] [] []:=by refine⟨nx+13,nx+14,nx+15,0,0,0,0,0,0,?_,⟨?_,by simp,by simp⟩,⟨?_,by simp,by simp⟩,⟨?_,by simp,by simp⟩,by omega,by omega,by omega,by omega⟩<;>rw[X]<;>simp only[aA.set,akB,akW,Nat.reduceEqDiff,Nat.reduceAdd,akC,if_false,if_true]<;>rfl
 have ep: ∀id,id<nx->G0 id=H id:=fun id T=>by rw[X];simp only[aA.set,akB,show ¬id=nx by omega,show ¬id=nx+1 by omega,show ¬id=nx+7 by omega,show ¬id=nx+13 by omega,show ¬id=nx+(13+1) by omega,show ¬id=nx+(13+(1+1)) by omega,Nat.reduceAdd,show ¬id=nx+14 by omega,show ¬id=nx+15 by omega,if_false]
 clear X
 refine aH.cE (β:=Nat) (fun k=>en [(20,dI k),(19,dI 3),(18,dS (s.bE.map bV)),(3,.one (.c (.ptr 6 (nx+7) 0 0))),(2,.one (.c (.ptr 6 (nx+1) 0 0))),(1,.one (.c (.ptr 5 nx 0 0)))])
  (fun k H1 U=>k<=3/\WG H1 (nx+13) U (nx+7) s ((s.bE.take k).map (·.next)) ((List.range k).flatMap (gI s)) []/\ ∀id,id<nx+13->id≠nx+7->H1 id=G0 id)
  (fun k=>3-k) 0 ⟨noF,_,by repeat' first|exact C1|refine xqI rfl rfl ?_|refine xqP (by omega) rfl rfl ?_|fail,aF,by omega,cA,fun _ _ _=>rfl⟩ ?_
 rintro k H1 U hd ⟨hk,d,e⟩ KL et;have g0:H1 nx=some ⟨5,1,[dY s]⟩:=by rw[e _ (by omega) (by omega)];exact c0
 obtain⟨A,cq⟩: ∃A,A=(s.bE.take k).map (·.next):=⟨_,rfl⟩
 obtain⟨W,ct⟩: ∃W,W=(List.range k).flatMap (gI s):=⟨_,rfl⟩
 have hf:A.length=k:=by rw[cq];simp;omega
 have ed: ∀k,k<3->(gI s k).length<=3:=fun k hk=>by have:=hs.q k hk;simpa [gI] using this
 have hg:W.length<=3*k:=by rw[ct];exact yB k fun j hj=>ed j (by omega)
 rw[<-cq,<-ct] at d;obtain⟨B,C,id_,ca,cw,cd,ma,mw,md,J,⟨r,a2,a3⟩,⟨x,a5,a6⟩,⟨u,a8,a9⟩,aa,V,ac,O⟩:=d;have P:bH U [nx,nx+1,nx+7,B,C,id_]:=AM.apart (by simp;omega) (by simp;omega);simp only[bH,cU] at P;by_cases cx:k<3
 ·obtain⟨p,Y⟩: ∃p,p=aL s k:=⟨_,rfl⟩
  have az:s.bE.getD k default=p:=Y.symm;have eu:=hs.q k cx;rw[<-Y] at eu;repeat' first|apply vI<;>(simp only[go_sem,nL,az,J,r,x,u,P,List.set])|apply vT (by omega)| (with_reducible first|refine fun(cap:Nat) (E:_<=cap)=> ?_|refine fun(Z:_<=cap)=> ?_)|refine⟨by omega,?_⟩|fail
  obtain⟨A',ao⟩: ∃A',A'=A++[p.next]:=⟨_,rfl⟩
  have dc:A'.length=A.length+1:=by rw[ao];simp
  refine aH.cE (β:=Nat) (fun i=>en [(35,dI i),(34,dI p.queue.length),(33,dS (p.queue.map aG)),(20,dI k),(19,dI 3),(18,dS (s.bE.map bV)),(4,dI k),(3,.one (.c (.ptr 6 (nx+7) 0 0))),(2,.one (.c (.ptr 6 (nx+1) 0 0))),(1,.one (.c (.ptr 5 nx 0 0)))])
   (fun i H2 a=>i<=p.queue.length/\WG H2 (nx+13) a (nx+7) s A' (W++(gI s k).take i) []/\ ∀id,id<nx+13->id≠nx+7->H2 id=G0 id)
   (fun i=>p.queue.length-i) 0 ⟨noF,_,by repeat' first|exact C1|refine xqI rfl rfl ?_|refine xqP (by omega) rfl rfl ?_|fail,aF,by omega,?_,fun id y g=> ?_⟩ ?_
  ·rw[List.take_zero,alE];refine⟨U+12,C,id_,cap,cw,cd,cap,mw,md,?_,⟨?_,by omega,akA _⟩,⟨?_,a5,a6⟩,⟨?_,a8,a9⟩,by omega,by omega,by omega,by omega⟩;·rw[dc,aA.aI];rfl
   ·rw[ao];simp only[aA.set,aA.del,P,if_false,if_true]
   ·simp only[aA.set,aA.del,P,if_false];exact x
   ·simp only[aA.set,aA.del,P,if_false];exact u
  ·rw[aA.aB g,aA.aB (by omega),aA.aB (by omega),aA.aB (by omega),aA.gK (by omega)];exact e id y g
  clear J r x u aa V ac O P;rintro i H2 a df ⟨hi,d,br⟩ KM dh;obtain⟨z,b⟩: ∃z,z=W++(gI s k).take i:=⟨_,rfl⟩
  have ds:z.length<=3*k+3:=by have:=ed k cx;rw[b,akG,ak1];omega
  rw[<-b] at d;obtain⟨B,C,id_,ca,cw,cd,ma,mw,md,J,⟨r,a2,a3⟩,⟨x,a5,a6⟩,⟨u,a8,a9⟩,aa,V,ac,O⟩:=d;have P:bH a [nx,nx+1,nx+7,B,C,id_]:=AM.apart (by simp;omega) (by simp;omega);simp only[bH,cU] at P;by_cases F:i<p.queue.length
  ·repeat' first|apply vI<;>(simp only[go_sem,nL,J,r,x,u,P,List.set];try simp (disch:=omega) only[Iw])|apply vT (by omega)| (with_reducible first|refine fun(cap:Nat) (E:_<=cap)=> ?_|refine fun(Z:_<=cap)=> ?_)|refine⟨by omega,?_⟩|fail
   refine tj (K:=KM) fun G hG=> ?_;obtain⟨H',q1,q2,q3⟩:=aiA (H2:=H2) (G:=G) (hi:=a) (lo:=nx+13) (t:=nx+7) (s:=s) (W:=z) (D:=[]) (x2:=a+10) (nx':=a+15) (k:=k) (n:=p.queue.getD i default) r ⟨a2,a3⟩ u ⟨a8,a9⟩ aa V ac O (by omega) (by omega) E (by rw[hG];exact aA.aI) (by rw[hG,aA.aB (by omega)];exact aA.aI) (fun id y g e2=>by rw[hG,aA.aB e2,aA.aB (by omega),aA.aB (by omega),aA.gK g]);have q4: ∀id,id<nx+13->id≠nx+7->H' id=H2 id:=fun id y g=>by rw[q3 id (by omega),hG,aA.aB g,aA.aB (by omega),aA.aB (by omega),aA.gK (by omega)]
   have L:W++(gI s k).take (i+1)=z++[(⟨k,p.queue.getD i default,kL⟩:Job)]:=(by rw[eY (by simpa [gI,<-Y] using F),<-akO,<-b];congr 2;simp[gI,<-Y,List.getD,F]);exact dh _ _ _ (i+1) noF H' (by omega) (by omega) (by repeat' first|exact C1|refine xqI rfl rfl ?_|refine xqP (by omega) rfl rfl ?_|fail) q1 ⟨by omega,by rw[L];exact q2,fun id y g=>(q4 id y g).trans (br id y g)⟩
  ·repeat' first|apply vI<;>(simp only[go_sem];try simp (disch:=omega) only[Iw])|apply vF (by omega)|fail
   have ew:i=p.queue.length:=(by omega);have L:z=(List.range (k+1)).flatMap (gI s):=(by rw[b,w7,<-ct,akM (by simp[gI,<-Y];omega)]);have ff:A'=(s.bE.take (k+1)).map (·.next):=(by rw[ao,eY (by omega),akQ,<-cq];rw[<-az];rfl);exact et _ _ _ (k+1) noF _ (by omega) (by omega) (by repeat' first|exact C1|refine xqI rfl rfl ?_|refine xqP (by omega) rfl rfl ?_|fail) aF ⟨by omega,by rw[<-L,<-ff];exact⟨B,C,id_,ca,cw,cd,ma,mw,md,J,⟨r,a2,a3⟩,⟨x,a5,a6⟩,⟨u,a8,a9⟩,by omega,V,ac,O⟩,br⟩
 ·repeat' first|apply vI<;>(simp only[go_sem,g0])|apply vF (by omega)|fail
  have fh:k=3:=by omega
  subst fh;have dv: ∀k,k<N->(eX s k).length<=3/\(aU s k).done.length<=3:=fun k hk=>⟨by have:=(hs.v k (by omega)).1;simpa [eX] using this,(hs.v k (by omega)).2⟩
  refine aH.cE (β:=Nat) (fun k=>en [(52,dI k),(51,dI N),(50,dS (s.bM.map eV)),(3,.one (.c (.ptr 6 (nx+7) 0 0))),(2,.one (.c (.ptr 6 (nx+1) 0 0)))])
   (fun k H1 U=>k<=N/\WG H1 (nx+13) U (nx+7) s A (W++(List.range k).flatMap (eX s)) ((List.range k).flatMap fun k=>(aU s k).done)/\ ∀id,id<nx+13->id≠nx+7->H1 id=G0 id)
   (fun k=>N-k) 0 ⟨noF,_,by repeat' first|exact C1|refine xqI rfl rfl ?_|refine xqP (by omega) rfl rfl ?_|refine xqV rfl (by omega) ?_|fail,aF,by omega,?_,e⟩ ?_
  ·simp only[List.range_zero,List.flatMap_nil,alE];exact⟨B,C,id_,ca,cw,cd,ma,mw,md,J,⟨r,a2,a3⟩,⟨x,a5,a6⟩,⟨u,a8,a9⟩,by omega,V,ac,O⟩
  clear J r x u aa V ac O P e g0;rintro k H2 a df ⟨hk,d,e⟩ KM dh;obtain⟨z,b⟩: ∃z,z=W++(List.range k).flatMap (eX s):=⟨_,rfl⟩
  obtain⟨D,cy⟩: ∃D,D=(List.range k).flatMap fun k=>(aU s k).done:=⟨_,rfl⟩
  have ds:z.length<=9+3*k:=by have:=yB (f:=eX s) (m:=3) k fun j hj=>(dv j (by omega)).1;rw[b,akG];omega
  have hh:D.length<=3*k:=by rw[cy];exact yB k fun j hj=>(dv j (by omega)).2
  rw[<-b,<-cy] at d;obtain⟨B,C,id_,ca,cw,cd,ma,mw,md,J,⟨r,a2,a3⟩,⟨x,a5,a6⟩,⟨u,a8,a9⟩,aa,V,ac,O⟩:=d;by_cases cx:k<N
  ·obtain⟨v,M⟩: ∃v,v=aU s k:=⟨_,rfl⟩
   have dx:s.bM.getD k default=v:=M.symm;obtain⟨fm,fo⟩:=dv k cx;have fr:v.pipe.length<=3:=(by simpa [eX,<-M] using fm);rw[<-M] at fo;repeat' first|apply vI<;>(simp only[go_sem,nL,dx,J,List.set])|apply vT (by omega)|refine⟨by omega,?_⟩|fail
   refine aH.cE (β:=Nat) (fun i=>en [(59,dI i),(58,dI v.pipe.length),(57,dS (v.pipe.map eCJ)),(52,dI k),(51,dI N),(50,dS (s.bM.map eV)),(9,.one (.c (.ptr 3 (a+3) 0 0))),(3,.one (.c (.ptr 6 (nx+7) 0 0))),(2,.one (.c (.ptr 6 (nx+1) 0 0)))])
    (fun i H3 I=>i<=v.pipe.length/\WG H3 (nx+13) I (nx+7) s A (z++(eX s k).take i) D/\H3 (a+3)=some ⟨3,1,[eV v]⟩/\ ∀id,id<nx+13->id≠nx+7->H3 id=G0 id)
    (fun i=>v.pipe.length-i) 0 ⟨noF,_,by repeat' first|exact C1|refine xqI rfl rfl ?_|refine xqP (by omega) rfl rfl ?_|fail,aF,by omega,?_,aA.aI,fun id y g=>by rw[aA.aB (by omega)];exact e id y g⟩ ?_
   ·rw[List.take_zero,alE];refine WG.frame (hi:=a) ⟨B,C,id_,ca,cw,cd,ma,mw,md,J,⟨r,a2,a3⟩,⟨x,a5,a6⟩,⟨u,a8,a9⟩,aa,V,ac,O⟩ (by omega) (by omega) fun id y _=>aA.aB (by omega)
   clear J r x u aa V ac O e;rintro i H3 I fs ⟨hi,d,g9,e⟩ KN ga;obtain⟨W3,R⟩: ∃W3,W3=z++(eX s k).take i:=⟨_,rfl⟩
   have gb:W3.length<=12+3*k:=(by rw[R,akG,ak1];omega);rw[<-R] at d;obtain⟨B,C,id_,ca,cw,cd,ma,mw,md,J,⟨r,a2,a3⟩,⟨x,a5,a6⟩,⟨u,a8,a9⟩,aa,V,ac,O⟩:=d;have n1:a+3≠B:=fun he=>by rw[<-he,g9] at r;simp at r
   have n2:a+3≠C:=fun he=>by rw[<-he,g9] at x;simp at x
   have n3:a+3≠id_:=fun he=>by rw[<-he,g9] at u;simp at u
   have P:bH I [nx,nx+1,nx+7,a+3,B,C,id_]:=AM.apart (by simp;omega) (by simp;omega);simp only[bH,cU] at P;by_cases F:i<v.pipe.length
   ·repeat' first|apply vI<;>(simp only[go_sem,nL,J,r,x,u,g9,P,List.set];try simp (disch:=omega) only[Iw])|apply vT (by omega)| (with_reducible first|refine fun(cap:Nat) (E:_<=cap)=> ?_|refine fun(Z:_<=cap)=> ?_)|refine⟨by omega,?_⟩|fail
    refine tj (K:=KN) fun G hG=> ?_;obtain⟨H',q1,q2,q3⟩:=aiA (H2:=H3) (G:=G) (hi:=I) (lo:=nx+13) (t:=nx+7) (s:=s) (W:=W3) (D:=D) (x2:=I+13) (nx':=I+18) (k:=(v.pipe.getD i default).who) (n:=(v.pipe.getD i default).n) r ⟨a2,a3⟩ u ⟨a8,a9⟩ aa V ac O (by omega) (by omega) E (by rw[hG];exact aA.aI) (by rw[hG,aA.aB (by omega)];exact aA.aI) (fun id y g e2=>by rw[hG,aA.aB e2,aA.aB (by omega),aA.aB (by omega),aA.aB (by omega),aA.gK g]);have q4: ∀id,id<nx+13->id≠nx+7->H' id=H3 id:=fun id y g=>by rw[q3 id (by omega),hG,aA.aB g,aA.aB (by omega),aA.aB (by omega),aA.aB (by omega),aA.gK (by omega)]
    have L:z++(eX s k).take (i+1)=W3++[(⟨(v.pipe.getD i default).who,(v.pipe.getD i default).n,kL⟩:Job)]:=(by rw[eY (by simpa [eX,<-M] using F),<-akO,<-R];congr 2;simp[eX,<-M,List.getD,F]);exact ga _ _ _ (i+1) noF H' (by omega) (by omega) (by repeat' first|exact C1|refine xqI rfl rfl ?_|refine xqP (by omega) rfl rfl ?_|fail) q1 ⟨by omega,by rw[L];exact q2,by rw[q3 _ (by omega),hG,aA.aB (by omega),aA.aB (by omega),aA.aB (by omega),aA.aB (by omega),aA.gK n2];exact g9,fun id y g=>(q4 id y g).trans (e id y g)⟩
   ·have ew:i=v.pipe.length:=(by omega);have L:W3=W++(List.range (k+1)).flatMap (eX s):=(by rw[R,w7,<-akO,<-b,akM (by simp[eX,<-M];omega)]);repeat' first|apply vI<;>(simp only[go_sem,nL,J,r,x,u,g9,P,List.set];try simp (disch:=omega) only[Iw])|apply vF (by omega)| (with_reducible first|refine fun(cap:Nat) (E:_<=cap)=> ?_|refine fun(Z:_<=cap)=> ?_)|refine⟨by omega,?_⟩|fail
    have gd:D++v.done=(List.range (k+1)).flatMap fun k=>(aU s k).done:=by rw[w7,<-cy,M]
    have Z:D.length+v.done.length<=cap:=(by omega);refine dh _ _ _ (k+1) noF _ (by omega) (by omega) (by repeat' first|exact C1|refine xqI rfl rfl ?_|refine xqP (by omega) rfl rfl ?_|fail) aF ⟨by omega,?_,fun id y g=>by rw[aA.aB g,aA.aB (by omega),aA.gK (by omega)];exact e id y g⟩;rw[<-L,<-gd];refine⟨B,C,I+5,ca,cw,cap,ma,mw,cap,?_,⟨?_,a2,a3⟩,⟨?_,a5,a6⟩,⟨?_,by simpa using Z,akA _⟩,by omega,by omega,by omega,by omega⟩;·rw[aA.aI,akG]
    ·rw[aA.aB (by omega),aA.aB (by omega),aA.gK ac];exact r
    ·rw[aA.aB (by omega),aA.aB (by omega),aA.gK O];exact x
    ·rw[aA.aB (by omega),aA.aI,akQ]
  ·repeat' first|apply vI<;>(simp only[go_sem,J])|apply vF (by omega)|fail
   have gf:k=N:=(by omega);subst gf;have ei:z=pN s:=(by rw[b,ct];unfold pN;rw[dz,<-hN]);have ej:D=tP s:=(by rw[cy];unfold tP;rw[<-hN]);have d:A=s.bE.map (·.next):=(by rw[cq,akM (by omega)]);have cc:=hs.wl;have cf:=hs.dl;rw[<-ei] at cc;rw[<-ej] at cf;refine DR (l:=z) (by omega) (by omega) x fun H3 I hn f4 cl=> ?_;have f0:=(cl (nx+7) (by omega) (by omega)).trans J;have f1:=(cl B (by omega) V).trans r;have f7:=(cl id_ (by omega) O.symm).trans u;simp only[go_sem];repeat' first|apply vI<;>(simp only[go_sem,f0])|fail
   refine DR (l:=D) (by omega) (by omega) f7 fun H4 w ho e7 cp=> ?_;have y:=(cp (nx+7) (by omega) (by omega)).trans f0;have g:=(cp B (by omega) ac).trans f1;have e4:=(cp C (by omega) O).trans f4;have ex:=((cp (nx+1) (by omega) (by omega)).trans ((cl (nx+1) (by omega) (by omega)).trans ((e _ (by omega) (by omega)).trans c1)))
   have gg: ∀id,id<nx->H4 id=H id:=fun id T=>(cp id (by omega) (by omega)).trans ((cl id (by omega) (by omega)).trans ((e id (by omega) (by omega)).trans (ep id T)));simp only[go_sem];try apply kI
   have gp:(cR z).length=z.length:=(iT _).length_eq;have gq:(cR D).length=D.length:=(iT _).length_eq;have gr:eSt (dH s)=[.isl (s.words.map aG),.isl (s.holds.map aG),.isl (A.map aG),.isl ((cR z).map aP),.isl ((cR D).map aP),.isl (s.told.map aP)]:=(by rw[d,ei,ej];rfl);obtain⟨H5,dy⟩: ∃H5:aA,H5=fun j=>if j=B\/j=C\/j=id_ then none else if j=nx+7 then some ⟨6,1,[eSt (dH s)]⟩ else H4 j:=⟨_,rfl⟩
   have q5: ∀j,j≠B->j≠C->j≠id_->j≠nx+7->H5 j=H4 j:=fun j h1 h2 h3 h4=>by rw[dy];simp only[h1,h2,h3,h4,or_self,if_false]
   have q7:H5 (nx+7)=some ⟨6,1,[eSt (dH s)]⟩:=(by rw[dy];simp only[show ¬nx+7=B by omega,show ¬nx+7=C by omega,show ¬nx+7=id_ by omega,or_self,if_false,if_true]);refine aH.VP _ H5 (fun j=>j=B\/j=C\/j=id_) (fun t=>.inl rfl) (adQ (t:=nx+7) (fun j hj=>by rw[dy];simp only[hj,if_true]) q7 y (by omega) (jU ?_) fun j h1 h2=>q5 j (fun h=>h2 (.inl h)) (fun h=>h2 (.inr (.inl h))) (fun h=>h2 (.inr (.inr h))) h1) ?_;·rw[gr];exact aQ (bZ rfl) (aQ (bZ rfl) (aQ (iN bG g rfl a2 (.inl rfl)) (aQ (iN dE e4 gp.symm (by omega) (.inr (.inl rfl))) (aQ (iN dE e7 gq.symm (by omega) (.inr (.inr rfl))) (aQ (bZ rfl) iA)))))
   have qx:=(q5 (nx+1) (by omega) (by omega) (by omega) (by omega)).trans ex;have ha: ∀id,id<nx->H5 id=H id:=fun id T=>(q5 id (by omega) (by omega) (by omega) (by omega)).trans (gg id T);have hb:=hs.st;have hz: ∀k,(nx=w+k)=False:=fun k=>eq_false (by omega);generalize hS:dH s=S at*;repeat' first| (first|apply vI|refine MI (s:=S) hb (fun m0 m1 m2 m3 m4 m5 hm=> ?_))<;>(simp only[go_sem,akB,akC,q7,qx,hz,oIm])|fail
   refine hQ _ _ _ _ _ (.inr rfl) (kD rfl aA.aI rfl) ⟨dA (eSt S),_,fun j=>w+3<=j/\j<w+3+6,sR (aQ (iN bG (m:=m0) (by simp only[aA.set,akW,Nat.reduceEqDiff,show ¬w+3=nx+1 by omega,if_false,if_true]) rfl (akA _) (by omega)) (aQ (iN bG (m:=m1) (by simp only[aA.set,akW,Nat.reduceEqDiff,show ¬w+4=nx+1 by omega,if_false,if_true]) rfl (akA _) (by omega)) (aQ (iN bG (m:=m2) (by simp only[aA.set,akW,Nat.reduceEqDiff,show ¬w+5=nx+1 by omega,if_false,if_true]) rfl (akA _) (by omega)) (aQ (iN dE (m:=m3) (by simp only[aA.set,akW,Nat.reduceEqDiff,show ¬w+6=nx+1 by omega,if_false,if_true]) rfl (akA _) (by omega)) (aQ (iN dE (m:=m4) (by simp only[aA.set,akW,Nat.reduceEqDiff,show ¬w+7=nx+1 by omega,if_false,if_true]) rfl (akA _) (by omega)) (aQ (iN dE (m:=m5) (by simp only[aA.set,akW,Nat.reduceEqDiff,show ¬w+8=nx+1 by omega,if_false,if_true]) rfl (akA _) (by omega)) iA)))))),aaN,h _ _ (by omega) fun id T=> ?_⟩;rw[afN (by omega),aA.aB (by omega),aA.aB (by omega),aA.aB (by omega),aA.aB (by omega),aA.aB (by omega),aA.aB (by omega),aA.aB (by omega)];exact ha id T
end
end Go.Proofs.YtlncecohbakleaaGreat
