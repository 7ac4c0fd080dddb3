/- Rules and contracts. -/
import Derived.Test.YtlncecohbakleaaGreatPR10
import Derived.Test.YtlncecohbakleaaGreatPR11
set_option linter.unusedVariables false
set_option linter.unusedSimpArgs false
set_option maxRecDepth 100000
set_option maxHeartbeats 8000000
namespace Go.AM
structure Part(A:Nat->Prop)(lo hi:Nat)(nm:Nat->Nat):Prop where
 inj: ∀j k,A j->A k->nm j=nm k->j=k
 rng: ∀k,A k->lo<=nm k/\nm k<hi
theorem Part.mono{A:Nat->Prop}{lo hi hi':Nat}{nm:Nat->Nat}(h:Part A lo hi nm)(b:hi<=hi'):Part A lo hi' nm:=⟨h.inj,fun k a=>by have:=h.rng k a;omega⟩
theorem Part.put{A B:Nat->Prop}{lo hi hi' k v:Nat}{nm:Nat->Nat}(h:Part A lo hi nm)(f:lo<=hi)(g:hi<=v)(l:v<hi')(hB: ∀j,B j->A j/\j≠k\/j=k):Part B lo hi' (put nm k v):=by
 refine⟨fun i j hi c he=> ?_,fun j c=> ?_⟩
 ·rcases hB i hi with⟨a,b⟩|rfl<;>rcases hB j c with⟨d,e⟩|rfl;·rw[bV b,bV e] at he;exact h.inj i j a d he
  ·rw[bV b,fL] at he;have:=h.rng i a;omega
  ·rw[bV e,fL] at he;have:=h.rng j d;omega
  ·rfl
 ·rcases hB j c with⟨a,b⟩|rfl;·rw[bV b];have:=h.rng j a;omega
  ·rw[fL];omega
structure CSz(s:CSt):Prop where
 pl:s.bC.length=3
 sl:s.bN.length=4
 w:s.words.length<2^21
 h:s.holds.length<2^21
 t:s.told.length<2^21/\ ∀j∈s.told,j.rsp.data.length<2^21
 port: ∀k,k<3->(aL s k).queue.length<2^21/\(aL s k).out.length<2^21
 slv: ∀k,k<4->(aS s k).pipe.length<2^21/\(aS s k).done.length<2^21/\ ∀j∈(aS s k).done,j.rsp.data.length<2^21
variable{H:aA}
theorem aJ.KT{P:Program}{T:Nat}{e:Env}{nx:Nat}{Q:AQ}{zs:List AC}(h: ∀G,G=H->aJ P T zs e G nx Q):aJ P T zs e H nx Q:=h H rfl
def Zu(k:Nat)(H:aA)(nm:Nat->Nat)(s:CSt)(rows:List (List D1)):Prop:=rows.length=3/\(∀j,j<k->∃r,rows[j]?=some r/\yQ H (nm (5+j)) (nm (8+j)) (aL s j) r)/\ ∀j,k<=j->j<3->rows[j]?=some (dD (aL s j))
def Zd(k:Nat)(H:aA)(nm:Nat->Nat)(s:CSt)(rows:List (List D1)):Prop:=rows.length=4/\(∀j,j<k->∃r,rows[j]?=some r/\IT H (nm (11+j)) (nm (15+j)) (aS s j) r)/\ ∀j,k<=j->j<4->rows[j]?=some (i6 (aS s j))
def O6(H:aA)(lo hi t:Nat)(s:CSt)(A:List Int)(W D:List Job):Prop:=
 ∃a b id_ c d e f g md,H t=some ⟨6,1,[[.isl (s.words.map aH),.isl (s.holds.map aH),.osl 1 a 0 A.length c,.osl 5 b 0 W.length d,.osl 5 id_ 0 D.length e,.isl (s.told.map aT)]]⟩/\
  (H a=some ⟨1,f,A.map aH⟩/\A.length<=c/\c<=f)/\(H b=some ⟨5,g,W.map aT⟩/\W.length<=d/\d<=g)/\(H id_=some ⟨5,md,D.map aT⟩/\D.length<=e/\e<=md)/\
  (lo<=a/\a<hi/\lo<=b/\b<hi/\lo<=id_/\id_<hi)/\a≠b/\a≠id_/\b≠id_
theorem O6.frame{H':aA}{lo hi hi' t:Nat}{s:CSt}{A:List Int}{W D:List Job}(h:O6 H lo hi t s A W D)(r:t<lo)(u:hi<=hi')(a: ∀id,id<hi->(id=t\/lo<=id)->H' id=H id):O6 H' lo hi' t s A W D:=by obtain⟨b,c,id_,d,e,f,g,i,md,j,⟨k,l⟩,⟨m,n⟩,⟨o,p⟩,v,q⟩:=h;exact⟨b,c,id_,d,e,f,g,i,md,by rw[a t (by omega) (.inl rfl)];exact j,⟨by rw[a _ (by omega) (.inr (by omega))];exact k,l⟩,⟨by rw[a _ (by omega) (.inr (by omega))];exact m,n⟩,⟨by rw[a _ (by omega) (.inr (by omega))];exact o,p⟩,by omega,q⟩
theorem FQ{nx i:Nat}{o o':bM}(b:H i=some o)(h:CvO H noF id nx o' o):CvX noF nx H (H.set i o'):=fun j x a=>by
 by_cases he:j=i;·subst he;rw[aA.aI] at a;cases a;exact⟨fun h=>h,o,b,.inr h⟩
 ·rw[aA.aB he] at a;exact⟨fun h=>h,x,a,.inl rfl⟩
theorem tH{β:Type}{f:Nat->List β}{k:Nat}:(List.range (k+1)).flatMap f=(List.range k).flatMap f++f k:=by rw[adL,aeS];simp
theorem wE{β:Type}{f:Nat->List β}{m:Nat}(n:Nat)(h: ∀k,k<n->(f k).length<=m):((List.range n).flatMap f).length<=m*n:=by
 induction n with
 |zero=>simp
 |succ n a=>rw[tH,abL];have b:=a fun k c=>h k (by omega);have d:=h n (by omega);rw[Nat.mul_succ];omega
theorem SW{K:Env->aA->Nat->Prop}{e:Env}{G:aA}{n:Nat}(h: ∀a,a=G->K e a n):K e G n:=h G rfl
theorem Zt{H2 G:aA}{lo hi t:Nat}{s:CSt}{A:List Int}{W D:List Job}{a b id_ d e f md x2 cap nx':Nat}{k n:Int}
 (h:H2 a=some ⟨1,f,A.map aH⟩) (j:A.length<=d/\d<=f) (l:H2 id_=some ⟨5,md,D.map aT⟩) (m:D.length<=e/\e<=md) (w:lo<=a/\a<hi/\lo<=b/\b<hi/\lo<=id_/\id_<hi) (o:a≠b) (ac:a≠id_) (p:b≠id_) (x:t<lo) (y:hi<=x2/\x2<nx') (c:W.length+1<=cap)
 (q:G t=some ⟨6,1,[[.isl (s.words.map aH),.isl (s.holds.map aH),.osl 1 a 0 A.length d,.osl 5 x2 0 (W.length+1) cap,.osl 5 id_ 0 D.length e,.isl (s.told.map aT)]]⟩) (u:G x2=some ⟨5,cap,W.map aT++[[cI k,cI n,cI 0,cI 0,.osl 0 0 0 0 0]]⟩) (g: ∀id,id<hi->id≠b->id≠t->G id=H2 id):
 ∃H',CvX noF nx' G H'/\O6 H' lo nx' t s A (W++[(⟨k,n,jZ⟩:Job)]) D/\ ∀id,id≠x2->H' id=G id:=by
 refine⟨_,FQ (i:=x2) (o':=⟨5,cap,(W++[(⟨k,n,jZ⟩:Job)]).map aT⟩) u (ft (R:=W.map aT) (r':=aT (⟨k,n,jZ⟩:Job)) (by rw[abU];rfl) rfl (fun r hr=>(aN dQ _ r hr).2) rfl (aG (bE rfl) (aG (bE rfl) (aG (bE rfl) (aG (bE rfl) (aG (.frz (.nil ..)) cJ)))))),?_,fun id v=>aA.aB v⟩
 refine⟨a,x2,id_,d,cap,e,f,cap,md,?_,⟨?_,j⟩,⟨aA.aI,by simpa using c,abG _⟩,⟨?_,m⟩,by omega,by omega,by omega,by omega⟩
 ·rw[aA.aB (by omega),q,abL];rfl
 ·rw[aA.aB (by omega),g _ (by omega) o (by omega)];exact h
 ·rw[aA.aB (by omega),g _ (by omega) p.symm (by omega)];exact l
theorem vv{F:Nat->Prop}{H':aA}{nx t:Nat}{o o':bM}(c: ∀j,F j->H' j=none)(d:H' t=some o')(e:H t=some o)(i: ¬F t)(f:CvO H F id nx o' o)(g: ∀j,j≠t->¬F j->H' j=H j):CvX F nx H H':=fun j x a=>by
 have b: ¬F j:=fun h=>by rw[c j h] at a;cases a
 by_cases he:j=t;·subst he;rw[d] at a;cases a;exact⟨b,o,e,.inr f⟩
 ·rw[g j he b] at a;exact⟨b,x,a,.inl rfl⟩
def Ye(b n:Nat)(H:aA):aA:=fun j=>if b<=j/\j<b+n then none else H j
theorem En{b n j:Nat}(h: ¬(b<=j/\j<b+n)):Ye b n H j=H j:=if_neg h
theorem yq{b n nx:Nat}:CvX (fun j=>b<=j/\j<b+n) nx H (Ye b n H):=fun j x a=>by
 unfold Ye at a;split at a;·cases a
 ·exact⟨by assumption,x,a,.inl rfl⟩
structure EI(s:CSt):Prop where
 pl:s.bC.length=3
 sl:s.bN.length<=4
 q: ∀k,k<3->(aL s k).queue.length<=3
 v: ∀k,k<s.bN.length->(aS s k).pipe.length<=3/\(aS s k).done.length<=3
 wl:(nR s).length<20
 dl:(qV s).length<20
 st:Ih (dN s)
end Go.AM
namespace Go.Proofs.YtlncecohbakleaaGreat
open Go Go.AM
attribute [local irreducible] aJ wv aC vd wvH
theorem Vf{c:Cfg}{i:CIn}{s:CSt}{k:Nat}(h: ¬(i.send.getD k default=true/\(aL s k).queue.length<2/\(aL s k).next<(c.cN.getD k default).length)):MP c i s k=none:=if_neg h
section
variable{H:aA}{nx:Nat}{K:afC}
theorem ON{X:Nat->Prop}{c:Cfg}{i:CIn}{s:CSt}{es:List Ev}{i0 i1:Nat}{nm:Nat->Nat}(hb:bH c)(hs:COk c s)(cr:i.send.length=3)(hB:oR X H nx i0 i1 nm s es)(hl:es.length<900)
 (h: ∀H' nx' e,nx<=nx'->oR X H' nx' i0 i1 e (lQ c s (WA c i s)) (es++gV c s (WA c i s))->(∀id,X id->H' id=H id)->K (.tup []) H' nx'):
 afB qW [.one (.c (.ptr 5 i0 0 0)),dA (bI c),dA (eIn i),.one (.c (.ptr 5 i1 0 0))] H nx K:=by
 refine bR.mk Tryz.func190 (by kernel_rfl) LR rfl fun Q hQ=> ?_
 unfold lO
 obtain⟨ct,ad⟩:=eW hb
 obtain⟨wc,hc,P,vc,R,ah,cw,cx,cy,da,dc⟩: ∃wc hc P vc R,H i0=some ⟨5,1,[[.osl 1 (nm 0) 0 s.words.length wc,.osl 1 (nm 1) 0 s.holds.length hc,.osl 4 (nm 2) 0 3 P,.osl 3 (nm 3) 0 4 vc,.osl 5 (nm 4) 0 s.told.length R]]⟩/\_:=by obtain⟨cells,h1,⟨wc,hc,P,vc,R,rfl,h2⟩,_⟩:=hB.rep.st;exact⟨wc,hc,P,vc,R,h1,h2⟩
 have z:=hB.rep.apart (nx':=nx) [] [] (abG _) (by simp) (by simp) (by simp) (by simp)
 simp only[aO,bG,List.map,List.nil_append] at z
 repeat' first|apply vI<;>(simp only[go_sem,abH,abI,ah,z])|fail
 obtain⟨H0,B⟩: ∃H0,H0=(H.set nx ⟨3,1,[bI c]⟩).set (nx+1) ⟨3,1,[eIn i]⟩:=⟨_,rfl⟩
 rw[<-B]
 have ao:H0 nx=some ⟨3,1,[bI c]⟩:=by rw[B,aA.aB (by omega)];exact aA.aI
 have aw:H0 (nx+1)=some ⟨3,1,[eIn i]⟩:=by rw[B];exact aA.aI
 have bb:=hB.rep.i0.1
 have bh:=hB.hap.i1.1
 have bk:oR (fun id=>X id\/id=nx\/id=nx+1) H0 (nx+8) i0 i1 nm s es:=hB.next (by omega) (fun id h1 h2=>by rw[B,aA.aB (by omega),aA.aB (by omega)]) fun id a=>by
  rcases a with a|rfl|rfl;·have:=hB.rep.x id (.inl a);exact⟨by omega,.inl a⟩
  ·exact⟨by omega,.inr (abG _)⟩
  ·exact⟨by omega,.inr (by omega)⟩
 refine aJ.cG (β:=Nat×CSt×List Ev×(Nat->Nat)) (fun u=>en [(15,dI u.1),(14,dI 3),(6,.one (.c (.ptr 3 (nx+1) 0 0))),(5,.one (.c (.ptr 3 nx 0 0))),(3,.one (.c (.ptr 5 i1 0 0))),(0,.one (.c (.ptr 5 i0 0 0)))])
  (fun u H1 g=>u.1<=3/\COk c u.2.1/\oR (fun id=>X id\/id=nx\/id=nx+1) H1 g i0 i1 u.2.2.2 u.2.1 u.2.2.1/\(∀id,X id\/id=nx\/id=nx+1->H1 id=H0 id)/\B4 c (MP c i) ([0,1,2].drop u.1) u.2.1 u.2.2.1 (lQ c s (WA c i s)) (es++gV c s (WA c i s))/\u.2.2.1.length<=es.length+u.1)
  (fun u=>3-u.1) (0,s,es,nm) ⟨noF,_,by repeat' first|exact C1|refine xqI rfl rfl ?_|refine xqP (by omega) rfl rfl ?_|fail,aE,by dsimp only;omega,hs,bk.mono (by omega),fun _ _=>rfl,⟨rfl,rfl⟩,by simp⟩ ?_
 rintro⟨k,s1,S,C⟩ H1 g df ⟨hk,f,m,w,T,bp⟩ KL U
 dsimp only at hk f m T bp
 obtain⟨wc,hc,P,vc,R,mp,rp,mv,rv,V,W,g2,g3,g4,g5,g6,g7,g8,g9,ga,gb⟩:=m.rep.get
 have D:H1 (nx+1)=some ⟨3,1,[eIn i]⟩:=by rw[w _ (.inr (.inr rfl))];exact aw
 have E:H1 nx=some ⟨3,1,[bI c]⟩:=by rw[w _ (.inr (.inl rfl))];exact ao
 by_cases q:k<3
 ·have N:=T;rw[zg q] at N;obtain⟨p,y⟩: ∃p,p=aL s1 k:=⟨_,rfl⟩
  obtain⟨qo,qc,oc,Y,gq,go⟩:=ga k q;rw[<-y] at Y gq go;have Z:=f.port k q;rw[<-y] at Z;obtain⟨dh,ds⟩:=Z.next;have dv:=Z.ql;have br:=ad k;obtain⟨mq,rq0,q1,q2,q3,q4,q5,q6⟩:=gq.ex;rw[abT] at q4;by_cases hO:i.send.getD k default=true/\(aL s1 k).queue.length<2/\(aL s1 k).next<(c.cN.getD k default).length
  ·have F:MP c i s1 k=some (.ask k):=if_pos hO;obtain⟨I,bw,ca⟩:=hO;rw[<-y] at bw ca;have z:=m.rep.apart (nx':=g) [nx,nx+1] [0,1,2,3,4,5+k,8+k] (abG _) (by simp) (fun x hx=>.inl (.inr (by simpa using hx))) (by simp;omega) (by simp;omega);simp only[aO,bG,List.map,List.cons_append,List.nil_append] at z;have J: ∀r,(rp.set k r)[k]?=some r:=fun r=>by rw[acA (by omega)]
   refine aJ.BM fun cc=> ?_;have cd: ∀k l,msk (g+k) l H1=H1:=fun k l=>zQ cc (by omega);repeat' first| (first|apply vI|apply Y4 (by omega))<;>(simp only[go_sem,abH,abI,cd,umS (G:=H1),umD (G:=H1),umB,V,W,Y,J,acE,E,D,I,q1,z])|apply vT (by omega)| (with_reducible first|refine fun(cap:Nat) (aa:_<=cap)=> ?_|refine fun(dx:_<=cap)=> ?_)|refine⟨by omega,?_⟩|fail
   have er:List.take p.queue.length (List.drop qo rq0)++[[cI p.next]]=(p.queue++[p.next]).map aH:=(by rw[q2,abM (by simp),abU];rfl);rw[er];obtain⟨e,L⟩: ∃e,e=put C (5+k) (g+46):=⟨_,rfl⟩
   have A: ∀j,j≠5+k->e j=C j:=fun j h1=>by rw[L,bV h1]
   have p5:e (5+k)=g+46:=(by rw[L,fL]);have hL:=N.some F;obtain⟨s2,d⟩: ∃s2:CSt,s2= {s1 with bC:=s1.bC.set k {p with queue:=p.queue++[p.next]}}:=⟨_,rfl⟩
   obtain⟨s',n⟩: ∃s',s'=bS c s1 (.ask k):=⟨_,rfl⟩
   rw[<-n,show BQ s1 (.ask k)=[⟨1,k,p.next⟩] from by rw[y];rfl] at hL;have cf:COk c s':=(by rw[n];exact BV hb f (sc f q F));have t:aL s2 k= {p with queue:=p.queue++[p.next]}:=(by rw[d,cH rfl (by rw[f.pl];omega),if_pos rfl]);have M:aL s' k= {p with queue:=p.queue++[p.next],next:=p.next+1}:=(by rw[n,cH rfl (by rw[f.pl];omega),if_pos rfl,<-y]);refine Ca (m.upd k 8 e s2 (by omega) ?_ ?_ ?_ ?_ ?_ ?_ (.inl q) (.inr rfl) (fun j hj b=>by rw[d,cH rfl (by rw[f.pl];omega),if_neg b]) (fun j hj b=>by rw[d];rfl)) (by omega) fun H' nx' hx O ck=> ?_
   ·rw[L];have cl: ∀v,g<=v->¬((X v\/v=nx\/v=nx+1)\/v=i1):=fun v hv hn=>by have:=m.rep.x v hn;omega
    exact m.rep.names.put (by omega) (by omega) (cl _ (by omega))
   ·intro j hj;by_cases h4:j=5+k;·subst h4;exact .inr ⟨.inr (.inl rfl),by omega⟩
    ·exact .inl (A j h4)
   ·intro id a h0 b;simp only[aA.set,aA.del,b 2 (by omega) (by omega),b (5+k) (by omega) (by omega),show ¬id=g+45 by omega,show ¬id=g+46 by omega,if_false]
   ·refine⟨wc,hc,P,vc,R,?_,?_,?_,?_,g6,g7⟩;·simp only[aA.set,aA.del,z,if_false,F3,A 0 (by omega),A 1 (by omega),A 2 (by omega),A 3 (by omega),A 4 (by omega)];rw[d];exact V
    ·rw[A 0 (by omega),d];exact g3.frame (by simp only[aA.set,aA.del,z,if_false])
    ·rw[A 1 (by omega),d];exact g4.frame (by simp only[aA.set,aA.del,z,if_false])
    ·rw[A 4 (by omega),d];exact g5.frame (by simp only[aA.set,aA.del,z,if_false])
   ·refine⟨mp,_,mp,rp,W,aA.aI,by simp only[ab0,g8],fun j hj b=>by rw[acB (Ne.symm b)],fun _=>⟨_,J _,⟨0,cap,oc,?_,?_,?_⟩⟩⟩;·rw[t,A (8+k) (by omega),p5];simp only[VV,abL,List.length_singleton]
    ·rw[t,p5];exact⟨cap,(p.queue++[p.next]).map aH,by simp only[aA.set,aA.del,z,if_false,if_true],rfl,by simp,by simp,by simpa using aa,by simp⟩
    ·rw[t,A (8+k) (by omega)];exact go.frame (by simp only[aA.set,aA.del,z,if_false])
   ·exact⟨mv,rv,mv,rv,g2,by simp only[aA.set,aA.del,z,if_false];exact g2,g9,fun _ _ _=>rfl,fun hh=>by omega⟩
   ·obtain⟨wc,hc,P,vc,R,mp,rp,mv,rv,V,W,g2,g3,g4,g5,g6,g7,g8,g9,ga,gb⟩:=O.rep.get;obtain⟨qo,qc,oc,Y,gq,go⟩:=ga k q;have J: ∀r,(rp.set k r)[k]?=some r:=fun r=>by rw[acA (by omega)]
    have o:=O.rep.apart (nx':=nx') [nx,nx+1] [0,1,2,3,4,5+k,8+k] (abG _) (by simp) (fun x hx=>.inl (.inr (by simpa using hx))) (by simp;omega) (by simp;omega);simp only[aO,bG,List.map,List.cons_append,List.nil_append] at o;have cp:=(A 2 (by omega)).symm;rw[t] at Y gq go;simp only[go_sem];repeat' first|apply vI<;>(simp only[go_sem,abH,abI,cp,V,W,Y,J,acE,o];try simp (disch:=omega) only[Iw])|fail
    have ab:=O.upd (H':=H'.set (e 2) ⟨4,mp,rp.set k [cI (p.next+1),.osl 1 (e (5+k)) qo (p.queue.length+1) qc,.osl 3 (e (8+k)) 0 p.out.length oc,cI p.last]⟩) (nx':=nx'+10) k 8 e s' (by omega) (O.rep.names.mono (by omega)) (fun j _=>.inl rfl) ?_ ?_ ?_ ?_ (.inl q) (.inr rfl) (fun j hj b=>(show aL s' j=aL s1 j from by rw[n,cH (s:=s1) rfl (by rw[f.pl];omega),if_neg b]).trans (show aL s2 j=aL s1 j from by rw[d,cH (s:=s1) rfl (by rw[f.pl];omega),if_neg b]).symm) (fun j hj b=>by rw[n,d];rfl);·exact U _ _ _ (k+1,s',S++[⟨1,k,p.next⟩],e) noF _ (by omega) (by dsimp only;omega) (by repeat' first|exact C1|refine xqI rfl rfl ?_|refine xqP (by omega) rfl rfl ?_|fail) aE ⟨by dsimp only;omega,cf,ab.1,fun id a=>(ab.2 id a).trans ((ck id a).trans (w id a)),hL,by simp;omega⟩
    ·intro id a h0 b;exact aA.aB (b 2 (by omega) (by omega))
    ·refine⟨wc,hc,P,vc,R,?_,?_,?_,?_,g6,g7⟩;·simp only[aA.set,o,if_false];rw[V,n,d];rfl
     ·rw[d] at g3;rw[n];exact g3.frame (by simp only[aA.set,o,if_false])
     ·rw[d] at g4;rw[n];exact g4.frame (by simp only[aA.set,o,if_false])
     ·rw[d] at g5;rw[n];exact g5.frame (by simp only[aA.set,o,if_false])
    ·refine⟨mp,_,mp,rp,W,aA.aI,by simp only[ab0,g8],fun j hj b=>by rw[acB (Ne.symm b)],fun _=>⟨_,J _,⟨qo,qc,oc,?_,?_,?_⟩⟩⟩;·rw[M];simp only[VV,abL,List.length_singleton]
     ·rw[M];exact gq.frame (by simp only[aA.set,o,if_false])
     ·rw[M];exact go.frame (by simp only[aA.set,o,if_false])
    ·exact⟨mv,rv,mv,rv,g2,by simp only[aA.set,o,if_false];exact g2,g9,fun _ _ _=>rfl,fun hh=>by omega⟩
  ·have F:=Vf hO;rw[<-y] at hO
   cases I:i.send.getD k default with
   |false=>
    repeat' first|apply vI<;>(simp only[go_sem,abH,abI,V,W,Y,E,D,I];try simp (disch:=omega) only[Iw])|apply vT (by omega)|refine⟨by omega,?_⟩|fail
    exact U _ _ _ (k+1,s1,S,C) noF _ (by omega) (by dsimp only;omega) (by repeat' first|exact C1|refine xqI rfl rfl ?_|refine xqP (by omega) rfl rfl ?_|fail) aE ⟨by dsimp only;omega,f,m.mono (by omega),w,N.none (F),by dsimp only;omega⟩
   |true=>
   rw[I] at hO;repeat' first| (first|apply vI|refine Y6 (fun h=> ?_) fun h=> ?_)<;>(simp only[go_sem,abH,abI,V,W,Y,E,D,I];try simp (disch:=omega) only[Iw])|apply vT (by omega)|refine iE (fun h=> ?_) fun h=> ?_|refine⟨by omega,?_⟩|fail
   all_goals first|exact absurd ⟨rfl,by omega,by omega⟩ hO| (exact U _ _ _ (k+1,s1,S,C) noF _ (by omega) (by dsimp only;omega) (by repeat' first|exact C1|refine xqI rfl rfl ?_|refine xqP (by omega) rfl rfl ?_|fail) aE ⟨by dsimp only;omega,f,m.mono (by omega),w,N.none F,by dsimp only;omega⟩)
 ·repeat' first|apply vI<;>(simp only[go_sem])|apply vF (by omega)|fail
  have cq:k=3:=by omega
  subst cq;obtain⟨rfl,rfl⟩:=B4.nil T;refine hQ _ _ _ _ _ (.inl rfl) rfl (h _ _ C (by omega) (m.next (by omega) (fun _ _ _=>rfl) fun id a=>⟨?_,.inl (.inl a)⟩) fun id a=> ?_);·have:=hB.rep.x id (.inl a);omega
  ·have:=hB.rep.x id (.inl a);rw[w id (.inl a),B,aA.aB (by omega),aA.aB (by omega)]
end
theorem TV{c:Cfg}{s:CSt}{l:List Mic}:(gV c s l).length<=l.length:=by
 induction l generalizing s with
 |nil=>simp[gV]
 |cons m l a=>
  have:=@a (bS c s m);rw[gV,abL,List.length_cons];have b:(BQ s m).length<=1:=by cases m<;>simp[BQ]
  omega
theorem LU{c:Cfg}{f:CSt->Nat->Option Mic}{l:List Nat}{s:CSt}:(DG c f s l).length<=l.length:=by
 induction l generalizing s with
 |nil=>simp[DG]
 |cons k l a=>
  rw[DG];split;·have:=@a s;rw[List.length_cons];omega
  ·rename_i m _;have:=@a (bS c s m);rw[List.length_cons,List.length_cons];omega
theorem Xw{c:Cfg}{l:List Nat}{s a:CSt}{u:List Bool}:gV c a (YP c s u l)=[]:=by
 induction l generalizing s u a with
 |nil=>simp[YP,gV]
 |cons k l b=>
  rw[YP];split;·exact b
  ·rw[gV,b];rfl
theorem tq{c:Cfg}{i:CIn}{s:CSt}:E9 c i s=([]++gV c s (LZ c i s))++gV c (D9 c i s) (FJ c i (D9 c i s))++gV c (JI c i s) (WA c i (JI c i s)):=by
 have a:lQ c s (LZ c i s++FJ c i (D9 c i s)++Cs c (MB c i s))=JI c i s:=by rw[yS,yS];rfl
 have b:lQ c s (LZ c i s++FJ c i (D9 c i s))=MB c i s:=by rw[yS];rfl
 rw[E9,Gz,OE,OE,OE,a,b,List.nil_append];rw[show gV c (MB c i s) (Cs c (MB c i s))=[] from Xw,ab3];rfl
section
variable{H:aA}{nx:Nat}{K:afC}
theorem lK{X:Nat->Prop}{c:Cfg}{i:CIn}{s:CSt}{i0:Nat}{nm:Nat->Nat}(t:bH c)(hs:COk c s)(hi:i.ready.length=3/\i.mW.length=4/\i.send.length=3)(v:Rep X H nx i0 nm s)
 (h: ∀H' nx' U a b d e,nx<=nx'->Rep X H' nx' i0 U (yR c i s)->(∀id,X id->H' id=H id)->K (dA [.isl ((E9 c i s).map eEv),cI a,cI b,cI d,cI e]) H' nx'):
 afB gQ [.one (.c (.ptr 5 i0 0 0)),dA (bI c),dA (eIn i)] H nx K:=by
 apply aC.kH
 refine bR.mk Tryz.func97 (by kernel_rfl) LF rfl fun Q hQ=> ?_
 unfold kR
 repeat' first|apply vI<;>(simp only[go_sem,abH,abI])|fail
 have w:=v.i0.1
 have l:=v.x
 have V:oR (fun id=>X id\/id=nx\/id=nx+1\/id=nx+2) ((((H.set nx ⟨3,1,[bI c]⟩).set (nx+1) ⟨3,1,[eIn i]⟩).set (nx+2) ⟨5,1,[[.osl 0 0 0 0 0,cI 0,cI 0,cI 0,cI 0]]⟩).set (nx+3) ⟨5,1,[[.osl 0 0 0 0 0,cI 0,cI 0,cI 0,cI 0]]⟩) (nx+7) i0 (nx+3) nm s []:=by
  have ho: ∀id,id<nx->((((H.set nx ⟨3,1,[bI c]⟩).set (nx+1) ⟨3,1,[eIn i]⟩).set (nx+2) ⟨5,1,[[.osl 0 0 0 0 0,cI 0,cI 0,cI 0,cI 0]]⟩).set (nx+3) ⟨5,1,[[.osl 0 0 0 0 0,cI 0,cI 0,cI 0,cI 0]]⟩) id=H id:=fun id f=>by rw[aA.aB (by omega),aA.aB (by omega),aA.aB (by omega),aA.aB (by omega)]
  have o:=v.names.lt;refine⟨v.frame (by omega) (ho _ w) (fun k g=>ho _ (o k g)) fun id f=> ?_,⟨⟨_,0,0,0,0,aA.aI,.inl ⟨rfl,rfl⟩⟩,⟨by omega,?_⟩,?_⟩⟩
  ·rcases f with(f|f)|f;·have:=l id f;exact⟨by omega,fun he=>v.i0.2 (he▸f),fun k g he=>v.names.av k g (he▸f)⟩
   ·exact⟨by omega,by omega,fun k g=>by have:=o k g;omega⟩
   ·exact⟨by omega,by omega,fun k g=>by have:=o k g;omega⟩
  ·rintro((f|f)|f|⟨k,g,f⟩);·have:=l _ f;omega
   ·omega
   ·omega
   ·have:=o k g;omega
  ·rintro id ((f|f)|f|⟨k,g,f⟩);·have:=l _ f;omega
   ·omega
   ·omega
   ·have:=o k g;omega
 have q: ∀{G:aA},(∀id,X id\/id=nx\/id=nx+1\/id=nx+2->G id=((((H.set nx ⟨3,1,[bI c]⟩).set (nx+1) ⟨3,1,[eIn i]⟩).set (nx+2) ⟨5,1,[[.osl 0 0 0 0 0,cI 0,cI 0,cI 0,cI 0]]⟩).set (nx+3) ⟨5,1,[[.osl 0 0 0 0 0,cI 0,cI 0,cI 0,cI 0]]⟩) id)->G nx=some ⟨3,1,[bI c]⟩/\G (nx+1)=some ⟨3,1,[eIn i]⟩/\G (nx+2)=some ⟨5,1,[[.osl 0 0 0 0 0,cI 0,cI 0,cI 0,cI 0]]⟩/\ ∀id,X id->G id=H id:=fun S=>by
  refine⟨?_,?_,?_,fun id f=> ?_⟩;·rw[S _ (.inr (.inl rfl)),aA.aB (by omega),aA.aB (by omega),aA.aB (by omega)];exact aA.aI
  ·rw[S _ (.inr (.inr (.inl rfl))),aA.aB (by omega),aA.aB (by omega)];exact aA.aI
  ·rw[S _ (.inr (.inr (.inr rfl))),aA.aB (by omega)];exact aA.aI
  ·have:=l id f;rw[S _ (.inl f),aA.aB (by omega),aA.aB (by omega),aA.aB (by omega),aA.aB (by omega)]
 have aw:(gV c s (LZ c i s)).length<=3:=acQ TV LU
 have bb:(gV c (D9 c i s) (FJ c i (D9 c i s))).length<=4:=acQ TV LU
 refine MG t hs hi.1 V (by simp) fun H1 bh bk bp W r=> ?_
 obtain⟨b1,b2,b3,b4⟩:=q r
 simp only[go_sem]
 repeat' first|apply vI<;>(simp only[go_sem,b1,b2,b3])|fail
 refine NT t (XL t hs) hi.2.1 (W.mono (by omega)) (by simp;omega) fun H2 br bw ca Y u=> ?_
 obtain⟨c1,c2,c3,c4⟩:=q fun id f=>(u id f).trans (r id f)
 simp only[go_sem]
 repeat' first|apply vI<;>(simp only[go_sem,c1,c2,c3])|fail
 refine OT t (XY t hs) (Y.mono (by omega)) fun H3 cc cd cf Z y=> ?_
 obtain⟨d1,d2,d3,d4⟩:=q fun id f=>(y id f).trans ((u id f).trans (r id f))
 simp only[go_sem]
 repeat' first|apply vI<;>(simp only[go_sem,d1,d2,d3])|fail
 refine ON t (Gg t hs) hi.2.2 (Z.mono (by omega)) (by simp;omega) fun H4 aa p ck n ab=> ?_
 obtain⟨e1,e2,e3,e4⟩:=q fun id f=>(ab id f).trans ((y id f).trans ((u id f).trans (r id f)))
 obtain⟨dv,z,A,B,C,ad,D⟩:=n.hap.ex
 rw[<-tq] at D
 simp only[go_sem]
 repeat' first|apply vI<;>(simp only[go_sem,abH,abI,e1,e2,e3,ad])|fail
 have E:=n.rep.names.av
 have ah:=n.rep.names.lt
 have I:=n.rep.i0
 have J:i0≠nx+2:=by omega
 have L: ∀k,k<19->p k≠nx+2:=fun k g he=>E k g (.inl (.inr (.inr (.inr he))))
 have M: ∀id,X id->id<aa+2/\id≠i0/\ ∀k,k<19->id≠p k:=fun id f=>⟨by have:=l id f;omega,fun he=>I.2 (.inl (.inl (he▸f))),fun k g he=>E k g (.inl (.inl (he▸f)))⟩
 have N:yR c i s=lQ c (JI c i s) (WA c i (JI c i s)):=rfl
 rcases D with⟨he,rfl⟩|⟨ev,cap,rfl,⟨m,rows,v1,v2,v3,v4,v5,v6⟩,v7,T,v9⟩
 ·refine hQ _ _ _ _ _ (.inr rfl) (gP rfl aA.aI rfl) ⟨dA [.isl ((E9 c i s).map eEv),cI z,cI A,cI B,cI C],_,noF,by rw[he];simp only[List.map];repeat' first|exact C1| (with_reducible first|exact C3|apply C4)| ((with_reducible apply C0);first|exact CB rfl|exact CF)| ((with_reducible apply D0);apply C9)|fail,aE,h _ _ p _ _ _ _ (by omega) (N▸n.rep.frame (by omega) (aA.aB J) (fun k g=>aA.aB (L k g)) M) fun id f=> ?_⟩;have:=l id f;rw[aA.aB (by omega)];exact e4 id f
 ·have O:ev≠nx+2:=fun he=>T (.inl (.inr (.inr (.inr he))));have P:i0≠ev:=fun he=>T (.inr (.inl he.symm));have R: ∀k,k<19->p k≠ev:=fun k g he=>T (.inr (.inr ⟨k,g,he.symm⟩));rw[acK] at v2;subst v2;refine hQ _ _ _ _ _ (.inr rfl) (gP rfl aA.aI rfl) ⟨dA [.isl ((E9 c i s).map eEv),cI z,cI A,cI B,cI C],_,fun j=>j=ev,iR (aG (cP (F:=fun j=>j=ev) (m:=m) HF ((aA.aB O).trans v1) rfl (by omega) rfl) (aG (bE rfl) (aG (bE rfl) (aG (bE rfl) (aG (bE rfl) cJ))))),C6,h _ _ p _ _ _ _ (by omega) (N▸n.rep.frame (by omega) ((aA.cC P).trans (aA.aB J)) (fun k g=>(aA.cC (R k g)).trans (aA.aB (L k g))) M) fun id f=> ?_⟩;have:=l id f;have ao:id≠ev:=fun he=>T (.inl (.inl (he▸f)));rw[aA.cC ao,aA.aB (by omega)];exact e4 id f
theorem A2(l:List gD)(hl:l.length<2^21):afB fZ [dS (l.map eCJ)] (hp []) 0
 fun r H' n'=>∃cap,l.length<=cap/\n'=1/\H'=hp [(0,⟨3,cap,l.map eCJ⟩)]/\r=dO 3 0 l.length cap:=by
 refine aR.mk Tryz.func264 (by kernel_rfl) yJ rfl fun Q c=> ?_
 unfold fQ
 refine aJ.seq (aJ.mM 3 ?_)
 repeat' first|apply vI<;>(simp only[go_sem])|refine Z7 (fun h=> ?_) fun h=> ?_| (with_reducible first|refine fun(cap:Nat) (d:_<=cap)=> ?_|refine fun(e:_<=cap)=> ?_|refine fun(b:Bool)=> ?_)| ((refine y5 (fun h=> ?_) (fun h=> ?_))<;>try subst h)|refine⟨by omega,?_⟩|fail
 all_goals first
  | (have a:=abG cap
     (refine c _ _ _ _ _ 1 (dO 3 0 l.length cap) (hp [(0,⟨3,cap,l.map eCJ⟩)]) _ _ (.inr rfl) rfl (jT [6] (by omega) (by repeat' first|exact C1| ((with_reducible apply C0);exact CQ (by omega) rfl rfl (by rfl) rfl)| ((with_reducible apply D0);apply CJ)|fail) ⟨⟨by simp,by simp[sgL],_,rfl,cD (aN B0 _) rfl rfl⟩,trivial⟩ (by simp[sgL])) ?_)
     exact⟨cap,by omega,rfl,rfl,rfl⟩)
  | (have f:l=[]:=acJ (by omega)
     subst f
     (refine c _ _ _ _ _ 1 (dO 3 0 0 0) (hp [(0,⟨3,0,([]:List gD).map eCJ⟩)]) _ _ (.inr rfl) rfl (jT [0] (by omega) (by repeat' first|exact C1| ((with_reducible apply C0);exact CC)| ((with_reducible apply D0);apply CJ)|fail) ⟨⟨by simp,by simp[sgL],_,rfl,cD (aN B0 _) rfl rfl⟩,trivial⟩ (by simp[sgL])) ?_)
     exact⟨0,abG _,rfl,rfl,rfl⟩)
theorem BI{l:List gD}(hl:l.length<2^21)(h: ∀cap,l.length<=cap->K (dO 3 nx l.length cap) (H.set nx ⟨3,cap,l.map eCJ⟩) (nx+1)):afB fZ [dS (l.map eCJ)] H nx K:=by
 refine(A2 l hl).JG (l0:=[]) [] rfl ⟨aF rfl,trivial⟩ trivial (by simp) (by simp) (by simp) fun r H' n' _ ⟨cap,a,b,c,d⟩=> ?_;have h:=h cap a;subst b;subst c;subst d;have e:back (tau 0 nx (nth [])) (hp [(0,⟨3,cap,l.map eCJ⟩)]) 1 H=H.set nx ⟨3,cap,l.map eCJ⟩:=by simp only[back,hp,aA.set,tau,acC,if_true,if_false,Nat.sub_zero,Nat.add_zero,Option.map_some,tr,aA.iS]
 rw[<-e] at h;exact h
theorem BS(l:List gD)(cap m:Nat)(hl:l.length<2^21)(hc:l.length<=cap):afB gJ [dO 3 0 l.length cap] (hp [(0,⟨3,m,l.map eCJ⟩)]) 1
 fun r H' n'=>n'=1/\ ∃o',H'=hp [(0,o')]/\l9 o'/\o'=⟨3,m,l.map eCJ⟩/\r=dO 3 0 l.length l.length:=by
 refine aR.mk Tryz.func263 (by kernel_rfl) AU rfl fun Q a=> ?_
 unfold gC
 repeat' first|apply vI<;>(simp only[go_sem])|refine⟨by omega,?_⟩|fail
 exact jS a (dO 3 0 l.length l.length) _ _ rfl (by repeat' first|exact C1| ((with_reducible apply C0);exact CQ (by omega) rfl rfl (by rfl) rfl)| ((with_reducible apply D0);apply CJ)|fail) rfl (fB B0 _) ⟨rfl,rfl⟩
theorem BO{l:List gD}{cap m i:Nat}(hl:l.length<2^21)(hc:l.length<=cap)(hi:i<nx)(a:H i=some ⟨3,m,l.map eCJ⟩)(h:K (dO 3 i l.length l.length) (H.set i ⟨3,m,l.map eCJ⟩) nx):
 afB gJ [dO 3 i l.length cap] H nx K:=
 (BS l cap m hl hc).LD i rfl (eF ⟨EZ (by omega) rfl rfl rfl rfl,trivial⟩) hi a (fB B0 _) fun r o' ⟨b,c⟩=>by subst b;subst c;exact h
theorem GO(l:List gD)(hl:l.length<2^21):afB gH [dS (l.map eCJ)] (hp []) 0
 fun r H' n'=>∃cap,l.length<=cap/\n'=1/\H'=hp [(0,⟨3,cap,l.map eCJ⟩)]/\r=dO 3 0 l.length l.length:=by
 refine aR.mk Tryz.func186 (by kernel_rfl) FD rfl fun Q b=> ?_
 unfold iQ
 repeat' first| (first|apply vI|refine BI hl (fun cap a=> ?_)|refine BO hl a (by omega) rfl ?_)<;>(simp only[go_sem])|fail
 (refine b _ _ _ _ _ 1 (dO 3 0 l.length l.length) (hp [(0,⟨3,cap,l.map eCJ⟩)]) _ _ (.inr rfl) rfl (jT [5] (by omega) (by repeat' first|exact C1| ((with_reducible apply C0);exact CQ (by omega) rfl rfl (by rfl) rfl)| ((with_reducible apply D0);apply CJ)|fail) ⟨⟨by simp,by simp[sgL],_,rfl,cD (aN B0 _) rfl rfl⟩,trivial⟩ (by simp[sgL])) ?_)
 exact⟨cap,a,rfl,rfl,rfl⟩
theorem sC{l:List gD}(hl:l.length<2^21)(h: ∀m,l.length<=m->K (dO 3 nx l.length l.length) (H.set nx ⟨3,m,l.map eCJ⟩) (nx+1)):afB gH [dS (l.map eCJ)] H nx K:=by
 refine(GO l hl).JG (l0:=[]) [] rfl ⟨aF rfl,trivial⟩ trivial (by simp) (by simp) (by simp) fun r H' n' _ ⟨cap,a,b,c,d⟩=> ?_;have h:=h cap a;subst b;subst c;subst d;have e:back (tau 0 nx (nth [])) (hp [(0,⟨3,cap,l.map eCJ⟩)]) 1 H=H.set nx ⟨3,cap,l.map eCJ⟩:=by simp only[back,hp,aA.set,tau,acC,if_true,if_false,Nat.sub_zero,Nat.add_zero,Option.map_some,tr,aA.iS]
 rw[<-e] at h;exact h
theorem qk{τ:Nat->Nat}{n m:Nat}{l:List eT}:bM.rn τ ⟨n,m,l.map dD⟩=⟨n,m,l.map dD⟩:=by refine sZ fun r hr x a=> ?_;obtain⟨y,_,rfl⟩:=abP.1 hr;exact abX.1 (IH y).2 x a
theorem xR(l:List eT)(hl:l.length<2^21):afB fG [dS (l.map dD)] (hp []) 0
 fun r H' n'=>∃cap,l.length<=cap/\n'=1/\H'=hp [(0,⟨4,cap,l.map dD⟩)]/\r=dO 4 0 l.length cap:=by
 refine aR.mk Tryz.func257 (by kernel_rfl) vV rfl fun Q c=> ?_
 unfold fA
 refine aJ.seq (aJ.mM 4 ?_)
 repeat' first|apply vI<;>(simp only[go_sem])|refine Z7 (fun h=> ?_) fun h=> ?_| (with_reducible first|refine fun(cap:Nat) (d:_<=cap)=> ?_|refine fun(e:_<=cap)=> ?_|refine fun(b:Bool)=> ?_)| ((refine y5 (fun h=> ?_) (fun h=> ?_))<;>try subst h)|refine⟨by omega,?_⟩|fail
 all_goals first
  | (have a:=abG cap
     (refine c _ _ _ _ _ 1 (dO 4 0 l.length cap) (hp [(0,⟨4,cap,l.map dD⟩)]) _ _ (.inr rfl) rfl (jT [6] (by omega) (by repeat' first|exact C1| ((with_reducible apply C0);exact CQ (by omega) rfl rfl (by rfl) rfl)| ((with_reducible apply D0);apply CJ)|fail) ⟨⟨by simp,by simp[sgL],_,rfl,cD (aN IH _) rfl rfl⟩,trivial⟩ (by simp[sgL])) ?_)
     exact⟨cap,by omega,rfl,rfl,rfl⟩)
  | (have f:l=[]:=acJ (by omega)
     subst f
     (refine c _ _ _ _ _ 1 (dO 4 0 0 0) (hp [(0,⟨4,0,([]:List eT).map dD⟩)]) _ _ (.inr rfl) rfl (jT [0] (by omega) (by repeat' first|exact C1| ((with_reducible apply C0);exact CC)| ((with_reducible apply D0);apply CJ)|fail) ⟨⟨by simp,by simp[sgL],_,rfl,cD (aN IH _) rfl rfl⟩,trivial⟩ (by simp[sgL])) ?_)
     exact⟨0,abG _,rfl,rfl,rfl⟩)
theorem xW{l:List eT}(hl:l.length<2^21)(h: ∀cap,l.length<=cap->K (dO 4 nx l.length cap) (H.set nx ⟨4,cap,l.map dD⟩) (nx+1)):afB fG [dS (l.map dD)] H nx K:=by
 refine(xR l hl).JG (l0:=[]) [] rfl ⟨aF rfl,trivial⟩ trivial (by simp) (by simp) (by simp) fun r H' n' _ ⟨cap,a,b,c,d⟩=> ?_;have h:=h cap a;subst b;subst c;subst d;have e:back (tau 0 nx (nth [])) (hp [(0,⟨4,cap,l.map dD⟩)]) 1 H=H.set nx ⟨4,cap,l.map dD⟩:=by simp only[back,hp,aA.set,tau,acC,if_true,if_false,Nat.sub_zero,Nat.add_zero,Option.map_some,qk,aA.iS]
 rw[<-e] at h;exact h
theorem yZ(l:List eT)(cap m:Nat)(hl:l.length<2^21)(hc:l.length<=cap):afB fU [dO 4 0 l.length cap] (hp [(0,⟨4,m,l.map dD⟩)]) 1
 fun r H' n'=>n'=1/\ ∃o',H'=hp [(0,o')]/\l9 o'/\o'=⟨4,m,l.map dD⟩/\r=dO 4 0 l.length l.length:=by
 refine aR.mk Tryz.func256 (by kernel_rfl) xQ rfl fun Q a=> ?_
 unfold fK
 repeat' first|apply vI<;>(simp only[go_sem])|refine⟨by omega,?_⟩|fail
 exact jS a (dO 4 0 l.length l.length) _ _ rfl (by repeat' first|exact C1| ((with_reducible apply C0);exact CQ (by omega) rfl rfl (by rfl) rfl)| ((with_reducible apply D0);apply CJ)|fail) rfl (fB IH _) ⟨rfl,rfl⟩
theorem yL{l:List eT}{cap m i:Nat}(hl:l.length<2^21)(hc:l.length<=cap)(hi:i<nx)(a:H i=some ⟨4,m,l.map dD⟩)(h:K (dO 4 i l.length l.length) (H.set i ⟨4,m,l.map dD⟩) nx):
 afB fU [dO 4 i l.length cap] H nx K:=
 (yZ l cap m hl hc).LD i rfl (eF ⟨EZ (by omega) rfl rfl rfl rfl,trivial⟩) hi a (fB IH _) fun r o' ⟨b,c⟩=>by subst b;subst c;exact h
theorem FB(l:List eT)(hl:l.length<2^21):afB iP [dS (l.map dD)] (hp []) 0
 fun r H' n'=>∃cap,l.length<=cap/\n'=1/\H'=hp [(0,⟨4,cap,l.map dD⟩)]/\r=dO 4 0 l.length l.length:=by
 refine aR.mk Tryz.func182 (by kernel_rfl) D4 rfl fun Q b=> ?_
 unfold iF
 repeat' first| (first|apply vI|refine xW hl (fun cap a=> ?_)|refine yL hl a (by omega) rfl ?_)<;>(simp only[go_sem])|fail
 (refine b _ _ _ _ _ 1 (dO 4 0 l.length l.length) (hp [(0,⟨4,cap,l.map dD⟩)]) _ _ (.inr rfl) rfl (jT [5] (by omega) (by repeat' first|exact C1| ((with_reducible apply C0);exact CQ (by omega) rfl rfl (by rfl) rfl)| ((with_reducible apply D0);apply CJ)|fail) ⟨⟨by simp,by simp[sgL],_,rfl,cD (aN IH _) rfl rfl⟩,trivial⟩ (by simp[sgL])) ?_)
 exact⟨cap,a,rfl,rfl,rfl⟩
theorem E8{l:List eT}(hl:l.length<2^21)(h: ∀m,l.length<=m->K (dO 4 nx l.length l.length) (H.set nx ⟨4,m,l.map dD⟩) (nx+1)):afB iP [dS (l.map dD)] H nx K:=by
 refine(FB l hl).JG (l0:=[]) [] rfl ⟨aF rfl,trivial⟩ trivial (by simp) (by simp) (by simp) fun r H' n' _ ⟨cap,a,b,c,d⟩=> ?_;have h:=h cap a;subst b;subst c;subst d;have e:back (tau 0 nx (nth [])) (hp [(0,⟨4,cap,l.map dD⟩)]) 1 H=H.set nx ⟨4,cap,l.map dD⟩:=by simp only[back,hp,aA.set,tau,acC,if_true,if_false,Nat.sub_zero,Nat.add_zero,Option.map_some,qk,aA.iS]
 rw[<-e] at h;exact h
theorem yi{τ:Nat->Nat}{n m:Nat}{l:List tG}:bM.rn τ ⟨n,m,l.map i6⟩=⟨n,m,l.map i6⟩:=by refine sZ fun r hr x a=> ?_;obtain⟨y,_,rfl⟩:=abP.1 hr;exact abX.1 (OC y).2 x a
theorem uI(l:List tG)(hl:l.length<2^21):afB eO [dS (l.map i6)] (hp []) 0
 fun r H' n'=>∃cap,l.length<=cap/\n'=1/\H'=hp [(0,⟨3,cap,l.map i6⟩)]/\r=dO 3 0 l.length cap:=by
 refine aR.mk Tryz.func259 (by kernel_rfl) tJ rfl fun Q c=> ?_
 unfold eJ
 refine aJ.seq (aJ.mM 3 ?_)
 repeat' first|apply vI<;>(simp only[go_sem])|refine Z7 (fun h=> ?_) fun h=> ?_| (with_reducible first|refine fun(cap:Nat) (d:_<=cap)=> ?_|refine fun(e:_<=cap)=> ?_|refine fun(b:Bool)=> ?_)| ((refine y5 (fun h=> ?_) (fun h=> ?_))<;>try subst h)|refine⟨by omega,?_⟩|fail
 all_goals first
  | (have a:=abG cap
     (refine c _ _ _ _ _ 1 (dO 3 0 l.length cap) (hp [(0,⟨3,cap,l.map i6⟩)]) _ _ (.inr rfl) rfl (jT [6] (by omega) (by repeat' first|exact C1| ((with_reducible apply C0);exact CQ (by omega) rfl rfl (by rfl) rfl)| ((with_reducible apply D0);apply CJ)|fail) ⟨⟨by simp,by simp[sgL],_,rfl,cD (aN OC _) rfl rfl⟩,trivial⟩ (by simp[sgL])) ?_)
     exact⟨cap,by omega,rfl,rfl,rfl⟩)
  | (have f:l=[]:=acJ (by omega)
     subst f
     (refine c _ _ _ _ _ 1 (dO 3 0 0 0) (hp [(0,⟨3,0,([]:List tG).map i6⟩)]) _ _ (.inr rfl) rfl (jT [0] (by omega) (by repeat' first|exact C1| ((with_reducible apply C0);exact CC)| ((with_reducible apply D0);apply CJ)|fail) ⟨⟨by simp,by simp[sgL],_,rfl,cD (aN OC _) rfl rfl⟩,trivial⟩ (by simp[sgL])) ?_)
     exact⟨0,abG _,rfl,rfl,rfl⟩)
theorem uH{l:List tG}(hl:l.length<2^21)(h: ∀cap,l.length<=cap->K (dO 3 nx l.length cap) (H.set nx ⟨3,cap,l.map i6⟩) (nx+1)):afB eO [dS (l.map i6)] H nx K:=by
 refine(uI l hl).JG (l0:=[]) [] rfl ⟨aF rfl,trivial⟩ trivial (by simp) (by simp) (by simp) fun r H' n' _ ⟨cap,a,b,c,d⟩=> ?_;have h:=h cap a;subst b;subst c;subst d;have e:back (tau 0 nx (nth [])) (hp [(0,⟨3,cap,l.map i6⟩)]) 1 H=H.set nx ⟨3,cap,l.map i6⟩:=by simp only[back,hp,aA.set,tau,acC,if_true,if_false,Nat.sub_zero,Nat.add_zero,Option.map_some,yi,aA.iS]
 rw[<-e] at h;exact h
theorem wA(l:List tG)(cap m:Nat)(hl:l.length<2^21)(hc:l.length<=cap):afB eY [dO 3 0 l.length cap] (hp [(0,⟨3,m,l.map i6⟩)]) 1
 fun r H' n'=>n'=1/\ ∃o',H'=hp [(0,o')]/\l9 o'/\o'=⟨3,m,l.map i6⟩/\r=dO 3 0 l.length l.length:=by
 refine aR.mk Tryz.func258 (by kernel_rfl) tZ rfl fun Q a=> ?_
 unfold eP
 repeat' first|apply vI<;>(simp only[go_sem])|refine⟨by omega,?_⟩|fail
 exact jS a (dO 3 0 l.length l.length) _ _ rfl (by repeat' first|exact C1| ((with_reducible apply C0);exact CQ (by omega) rfl rfl (by rfl) rfl)| ((with_reducible apply D0);apply CJ)|fail) rfl (fB OC _) ⟨rfl,rfl⟩
theorem uZ{l:List tG}{cap m i:Nat}(hl:l.length<2^21)(hc:l.length<=cap)(hi:i<nx)(a:H i=some ⟨3,m,l.map i6⟩)(h:K (dO 3 i l.length l.length) (H.set i ⟨3,m,l.map i6⟩) nx):
 afB eY [dO 3 i l.length cap] H nx K:=
 (wA l cap m hl hc).LD i rfl (eF ⟨EZ (by omega) rfl rfl rfl rfl,trivial⟩) hi a (fB OC _) fun r o' ⟨b,c⟩=>by subst b;subst c;exact h
theorem EV(l:List tG)(hl:l.length<2^21):afB iD [dS (l.map i6)] (hp []) 0
 fun r H' n'=>∃cap,l.length<=cap/\n'=1/\H'=hp [(0,⟨3,cap,l.map i6⟩)]/\r=dO 3 0 l.length l.length:=by
 refine aR.mk Tryz.func183 (by kernel_rfl) DK rfl fun Q b=> ?_
 unfold gY
 repeat' first| (first|apply vI|refine uH hl (fun cap a=> ?_)|refine uZ hl a (by omega) rfl ?_)<;>(simp only[go_sem])|fail
 (refine b _ _ _ _ _ 1 (dO 3 0 l.length l.length) (hp [(0,⟨3,cap,l.map i6⟩)]) _ _ (.inr rfl) rfl (jT [5] (by omega) (by repeat' first|exact C1| ((with_reducible apply C0);exact CQ (by omega) rfl rfl (by rfl) rfl)| ((with_reducible apply D0);apply CJ)|fail) ⟨⟨by simp,by simp[sgL],_,rfl,cD (aN OC _) rfl rfl⟩,trivial⟩ (by simp[sgL])) ?_)
 exact⟨cap,a,rfl,rfl,rfl⟩
theorem ET{l:List tG}(hl:l.length<2^21)(h: ∀m,l.length<=m->K (dO 3 nx l.length l.length) (H.set nx ⟨3,m,l.map i6⟩) (nx+1)):afB iD [dS (l.map i6)] H nx K:=by
 refine(EV l hl).JG (l0:=[]) [] rfl ⟨aF rfl,trivial⟩ trivial (by simp) (by simp) (by simp) fun r H' n' _ ⟨cap,a,b,c,d⟩=> ?_;have h:=h cap a;subst b;subst c;subst d;have e:back (tau 0 nx (nth [])) (hp [(0,⟨3,cap,l.map i6⟩)]) 1 H=H.set nx ⟨3,cap,l.map i6⟩:=by simp only[back,hp,aA.set,tau,acC,if_true,if_false,Nat.sub_zero,Nat.add_zero,Option.map_some,yi,aA.iS]
 rw[<-e] at h;exact h
end
section
variable{H:aA}{nx:Nat}{K:afC}
theorem fT{s:CSt}(hs:CSz s)
 (h: ∀H' nx' nm cells,nx<=nx'->BA H' nm s cells->Part (fun k=>k<19) nx nx' nm->(∀id,id<nx->H' id=H id)->K (.one (.agg cells)) H' nx'):
 afB dH [dA (bK s)] H nx K:=by
 have X:=hs.pl
 have Y:=hs.sl
 refine bR.mk Tryz.func96 (by kernel_rfl) HI rfl fun Q hQ=> ?_
 unfold jL
 refine aJ.BM fun br=> ?_
 have bw: ∀k l,msk (nx+k) l H=H:=fun k l=>zQ br (by omega)
 repeat' first| (first|apply vI|refine vK (w:=s.words) (u:=s.holds) hs.w hs.h (fun m0 m1 df dh=> ?_)|refine E8 (l:=s.bC) (by omega) (fun m2 ds=> ?_)|refine ET (l:=s.bN) (by omega) (fun m3 dv=> ?_)|refine nT (l:=s.told) hs.t.1 hs.t.2 (fun m4 dx=> ?_))<;>(simp only[go_sem,nL,bw,umS (G:=H),umD (G:=H),umB,msk,List.map,abQ,acG,or_false,X,Y])|fail
 refine aJ.KT fun A e=> ?_
 have c0:A nx=some ⟨5,1,[bK s]⟩:=by rw[e];simp only[aA.set,abJ,Nat.reduceEqDiff,abK,abI,if_false,if_true]
 have c1:A (nx+1)=some ⟨5,1,[[.osl 0 0 0 0 0,.osl 0 0 0 0 0,.osl 0 0 0 0 0,.osl 0 0 0 0 0,.osl 0 0 0 0 0]]⟩:=by rw[e];simp only[aA.set,abJ,Nat.reduceEqDiff,abK,abI,if_false,if_true]
 have ca:A (nx+15)=some ⟨5,1,[[.osl 1 (nx+17) 0 s.words.length s.words.length,.osl 1 (nx+18) 0 s.holds.length s.holds.length,.osl 4 (nx+19) 0 3 3,.osl 3 (nx+20) 0 4 4,.osl 5 (nx+21) 0 s.told.length s.told.length]]⟩:=by rw[e];simp only[aA.set,abJ,Nat.reduceEqDiff,abK,abI,if_false,if_true]
 have cc:A (nx+17)=some ⟨1,m0,s.words.map aH⟩:=by rw[e];simp only[aA.set,abJ,Nat.reduceEqDiff,abK,abI,if_false,if_true]
 have cd:A (nx+18)=some ⟨1,m1,s.holds.map aH⟩:=by rw[e];simp only[aA.set,abJ,Nat.reduceEqDiff,abK,abI,if_false,if_true]
 have cf:A (nx+19)=some ⟨4,m2,s.bC.map dD⟩:=by rw[e];simp only[aA.set,abJ,Nat.reduceEqDiff,abK,abI,if_false,if_true]
 have ck:A (nx+20)=some ⟨3,m3,s.bN.map i6⟩:=by rw[e];simp only[aA.set,abJ,Nat.reduceEqDiff,abK,abI,if_false,if_true]
 have cl:A (nx+21)=some ⟨5,m4,s.told.map aT⟩:=by rw[e];simp only[aA.set,abJ,Nat.reduceEqDiff,abK,abI,if_false,if_true]
 have cp: ∀id,id<nx->A id=H id:=fun id Z=>by rw[e];simp only[aA.set,show ¬id=nx by omega,show ¬id=nx+1 by omega,show ¬id=nx+15 by omega,show ¬id=nx+17 by omega,show ¬id=nx+18 by omega,show ¬id=nx+19 by omega,show ¬id=nx+20 by omega,show ¬id=nx+21 by omega,if_false]
 clear e
 refine aJ.cG (β:=Nat×(Nat->Nat)) (fun u=>en [(24,dI u.1),(23,dI 3),(22,dS (s.bC.map dD)),(3,.one (.c (.ptr 5 (nx+15) 0 0))),(2,.one (.c (.ptr 5 (nx+1) 0 0))),(1,.one (.c (.ptr 5 nx 0 0)))])
  (fun u H1 g=>u.1<=3/\(∀j,j<5->u.2 j=nx+17+j)/\Part (fun j=>j<5\/(5<=j/\j<5+u.1)\/(8<=j/\j<8+u.1)) (nx+17) g u.2/\(∀id,id<nx+22->id≠nx+19->H1 id=A id)/\ ∃rows,H1 (nx+19)=some ⟨4,m2,rows⟩/\Zu u.1 H1 u.2 s rows)
  (fun u=>3-u.1) (0,fun j=>nx+17+j) ⟨noF,_,by repeat' first|exact C1|refine xqI rfl rfl ?_|refine xqP (by omega) rfl rfl ?_|fail,aE,by dsimp only;omega,fun _ _=>rfl,⟨fun j k _ _ he=>by dsimp only at he;omega,fun j a=>by dsimp only at a ⊢;omega⟩,fun _ _ _=>rfl,_,cf,by simpa using X,fun j a=>by dsimp only at a;omega,fun j _ a=>by rw[abW];simp[aL,List.getD,show j<s.bC.length by omega]⟩ ?_
 rintro⟨k,nm⟩ H1 g dy ⟨hk,C,L,o,rows,ad,ah,R,S⟩ KL cq
 dsimp only at hk C L R S
 have g0:H1 nx=some ⟨5,1,[bK s]⟩:=by rw[o _ (by omega) (by omega)];exact c0
 have ao:H1 (nx+15)=some ⟨5,1,[[.osl 1 (nx+17) 0 s.words.length s.words.length,.osl 1 (nx+18) 0 s.holds.length s.holds.length,.osl 4 (nx+19) 0 3 3,.osl 3 (nx+20) 0 4 4,.osl 5 (nx+21) 0 s.told.length s.told.length]]⟩:=by rw[o _ (by omega) (by omega)];exact ca
 have hA:aO g [nx,nx+1,nx+15,nx+19,nx+20]:=AM.apart (by simp) (by simp;omega)
 simp only[aO,bG] at hA
 by_cases D:k<3
 ·obtain⟨p,q⟩: ∃p,p=aL s k:=⟨_,rfl⟩
  have aa:s.bC.getD k default=p:=q.symm;obtain⟨hq,ho⟩:=hs.port k D;rw[<-q] at hq ho;have E: ∀r,(rows.set k r)[k]?=some r:=fun r=>by rw[acA (by omega)]
  have F:=S k (abG _) D;rw[<-q] at F;refine aJ.BM fun I=> ?_;have J: ∀k l,msk (g+k) l H1=H1:=fun k l=>zQ I (by omega);repeat' first| (first|apply vI|refine mH (l:=p.queue) hq (fun mq cr=> ?_)|refine sC (l:=p.out) ho (fun mo ct=> ?_))<;>(simp only[go_sem,nL,J,umS (G:=H1),umD (G:=H1),umB,msk,List.map,abQ,acG,or_false,aa,E,F,acE,g0,ao,ad,hA];try simp (disch:=omega) only[Iw])|apply vT (by omega)|refine⟨by omega,?_⟩|fail
  have O: ∀j,j<5\/(5<=j/\j<5+k)\/(8<=j/\j<8+k)->j≠2->nm j≠nx+19:=fun j a i he=>i (L.inj j 2 a (.inl (by omega)) (by rw[he,C 2 (by omega)]));refine cq _ _ _ (k+1,put (put nm (5+k) (g+25)) (8+k) (g+26)) noF _ (by omega) (by dsimp only;omega) (by repeat' first|exact C1|refine xqI rfl rfl ?_|refine xqP (by omega) rfl rfl ?_|fail) aE ⟨by dsimp only;omega,fun j a=> ?_,?_,fun id x e1=> ?_,_,aA.aI,?_,fun j a=> ?_,fun j y i=> ?_⟩;·dsimp only;rw[bV (by omega),bV (by omega)];exact C j a
  ·exact(L.put (B:=fun j=>j<5\/(5<=j/\j<5+(k+1))\/(8<=j/\j<8+k)) (hi':=g+26) (by omega) (by omega) (by omega) (fun j a=>by first|omega| (dsimp only at*;omega))).put (by omega) (by omega) (by omega) (fun j a=>by first|omega| (dsimp only at*;omega))
  ·rw[aA.aB e1,aA.aB (by omega),aA.aB (by omega),aA.aB (by omega)];exact o id x e1
  ·rw[ab0];exact ah
  ·dsimp only at a ⊢;by_cases T:j=k
   ·subst T;refine⟨_,E _,⟨0,p.queue.length,p.out.length,?_,?_,?_⟩⟩;·rw[bV (by omega),fL,fL,<-q];rfl
    ·rw[bV (by omega),fL,<-q];exact⟨mq,p.queue.map aH,by rw[aA.aB (by omega),aA.aB (by omega)];exact aA.aI,rfl,by simp,by simp,abG _,by omega⟩
    ·rw[fL,<-q];exact⟨mo,p.out.map eCJ,by rw[aA.aB (by omega)];exact aA.aI,rfl,by simp,by simp,abG _,by omega⟩
   ·obtain⟨r,y,i⟩:=R j (by omega);have a5:=L.rng (5+j) (.inr (.inl ⟨by omega,by omega⟩));have a8:=L.rng (8+j) (.inr (.inr ⟨by omega,by omega⟩));refine⟨r,by rw[acB (by omega)];exact y,?_⟩;rw[bV (show 5+j≠8+k by omega),bV (show 5+j≠5+k by omega),bV (show 8+j≠8+k by omega),bV (show 8+j≠5+k by omega)];apply i.frame;·rw[aA.aB (O _ (.inr (.inl ⟨by omega,by omega⟩)) (by omega)),aA.aB (by omega),aA.aB (by omega),aA.aB (by omega)]
    ·rw[aA.aB (O _ (.inr (.inr ⟨by omega,by omega⟩)) (by omega)),aA.aB (by omega),aA.aB (by omega),aA.aB (by omega)]
  ·dsimp only at y ⊢;rw[acB (by omega)];exact S j (by omega) i
 ·repeat' first|apply vI<;>(simp only[go_sem,g0])|apply vF (by omega)|fail
  have cw:k=3:=by omega
  subst cw;have cx:H1 (nx+20)=some ⟨3,m3,s.bN.map i6⟩:=by rw[o _ (by omega) (by omega)];exact ck
  refine aJ.cG (β:=Nat×(Nat->Nat)) (fun u=>en [(49,dI u.1),(48,dI 4),(47,dS (s.bN.map i6)),(3,.one (.c (.ptr 5 (nx+15) 0 0))),(2,.one (.c (.ptr 5 (nx+1) 0 0)))])
   (fun u H2 n=>u.1<=4/\(∀j,j<11->u.2 j=nm j)/\Part (fun j=>j<11\/(11<=j/\j<11+u.1)\/(15<=j/\j<15+u.1)) (nx+17) n u.2/\(∀id,id<g->id≠nx+20->H2 id=H1 id)/\ ∃rv,H2 (nx+20)=some ⟨3,m3,rv⟩/\Zd u.1 H2 u.2 s rv)
   (fun u=>4-u.1) (0,nm) ⟨noF,_,by repeat' first|exact C1|refine xqI rfl rfl ?_|refine xqP (by omega) rfl rfl ?_|refine xqV rfl (by omega) ?_|fail,aE,by dsimp only;omega,fun _ _=>rfl,⟨fun j k a hk he=>L.inj j k (by first|omega| (dsimp only at*;omega)) (by first|omega| (dsimp only at*;omega)) he,fun j a=>by have:=L.rng j (by first|omega| (dsimp only at*;omega));first|omega| (dsimp only at*;omega)⟩,fun _ _ _=>rfl,_,cx,by simpa using Y,fun j a=>by dsimp only at a;omega,fun j _ a=>by rw[abW];simp[aS,List.getD,show j<s.bN.length by omega]⟩ ?_
  rintro⟨k,m⟩ H2 n cy ⟨hk,b,f,d,rv,aw,bb,U,V⟩ KM da;dsimp only at hk b f U V;have bh:H2 (nx+15)=some ⟨5,1,[[.osl 1 (nx+17) 0 s.words.length s.words.length,.osl 1 (nx+18) 0 s.holds.length s.holds.length,.osl 4 (nx+19) 0 3 3,.osl 3 (nx+20) 0 4 4,.osl 5 (nx+21) 0 s.told.length s.told.length]]⟩:=by rw[d _ (by omega) (by omega)];exact ao
  have f1:H2 (nx+1)=some ⟨5,1,[[.osl 0 0 0 0 0,.osl 0 0 0 0 0,.osl 0 0 0 0 0,.osl 0 0 0 0 0,.osl 0 0 0 0 0]]⟩:=by rw[d _ (by omega) (by omega),o _ (by omega) (by omega)];exact c1
  have W:aO n [nx,nx+1,nx+15,nx+19,nx+20]:=AM.apart (by simp) (by simp;omega);simp only[aO,bG] at W;have M:m 3=nx+20:=by rw[b 3 (by omega),C 3 (by omega)]
  by_cases D:k<4
  ·obtain⟨v,z⟩: ∃v,v=aS s k:=⟨_,rfl⟩
   have ab:s.bN.getD k default=v:=z.symm;obtain⟨hq,ho,bk⟩:=hs.slv k D;rw[<-z] at hq ho bk;have E: ∀r,(rv.set k r)[k]?=some r:=fun r=>by rw[acA (by omega)]
   have F:=V k (abG _) D;rw[<-z] at F;refine aJ.BM fun I=> ?_;have J: ∀k l,msk (n+k) l H2=H2:=fun k l=>zQ I (by omega);repeat' first| (first|apply vI|refine sC (l:=v.pipe) hq (fun mq cr=> ?_)|refine nT (l:=v.done) ho bk (fun mo ct=> ?_))<;>(simp only[go_sem,nL,J,umS (G:=H2),umD (G:=H2),umB,msk,List.map,abQ,acG,or_false,ab,E,F,acE,bh,aw,W];try simp (disch:=omega) only[Iw])|apply vT (by omega)|refine⟨by omega,?_⟩|fail
   have P: ∀j,j<11\/(11<=j/\j<11+k)\/(15<=j/\j<15+k)->j≠3->m j≠nx+20:=fun j a i he=>i (f.inj j 3 a (.inl (by omega)) (by rw[he,M]));refine da _ _ _ (k+1,put (put m (11+k) (n+25)) (15+k) (n+26)) noF _ (by omega) (by dsimp only;omega) (by repeat' first|exact C1|refine xqI rfl rfl ?_|refine xqP (by omega) rfl rfl ?_|fail) aE ⟨by dsimp only;omega,fun j a=> ?_,?_,fun id x e1=> ?_,_,aA.aI,?_,fun j a=> ?_,fun j y i=> ?_⟩;·dsimp only;rw[bV (by omega),bV (by omega)];exact b j a
   ·exact(f.put (B:=fun j=>j<11\/(11<=j/\j<11+(k+1))\/(15<=j/\j<15+k)) (hi':=n+26) (by omega) (by omega) (by omega) (fun j a=>by first|omega| (dsimp only at*;omega))).put (by omega) (by omega) (by omega) (fun j a=>by first|omega| (dsimp only at*;omega))
   ·rw[aA.aB e1,aA.aB (by omega),aA.aB (by omega),aA.aB (by omega)];exact d id x e1
   ·rw[ab0];exact bb
   ·dsimp only at a ⊢;by_cases T:j=k
    ·subst T;refine⟨_,E _,⟨0,v.pipe.length,0,v.done.length,?_,?_,?_⟩⟩;·rw[bV (by omega),fL,fL,<-z];rfl
     ·rw[bV (by omega),fL,<-z];exact⟨mq,v.pipe.map eCJ,by rw[aA.aB (by omega),aA.aB (by omega)];exact aA.aI,rfl,by simp,by simp,abG _,by omega⟩
     ·rw[fL,<-z];exact⟨mo,v.done.map aT,by rw[aA.aB (by omega)];exact aA.aI,rfl,by simp,by simp,abG _,by omega⟩
    ·obtain⟨r,y,i⟩:=U j (by omega);have a5:=f.rng (11+j) (.inr (.inl ⟨by omega,by omega⟩));have a8:=f.rng (15+j) (.inr (.inr ⟨by omega,by omega⟩));refine⟨r,by rw[acB (by omega)];exact y,?_⟩;rw[bV (show 11+j≠15+k by omega),bV (show 11+j≠11+k by omega),bV (show 15+j≠15+k by omega),bV (show 15+j≠11+k by omega)];apply i.frame;·rw[aA.aB (P _ (.inr (.inl ⟨by omega,by omega⟩)) (by omega)),aA.aB (by omega),aA.aB (by omega),aA.aB (by omega)]
     ·rw[aA.aB (P _ (.inr (.inr ⟨by omega,by omega⟩)) (by omega)),aA.aB (by omega),aA.aB (by omega),aA.aB (by omega)]
   ·dsimp only at y ⊢;rw[acB (by omega)];exact V j (by omega) i
  ·repeat' first|apply vI<;>(simp only[go_sem,bh,f1,W])|apply vF (by omega)|fail
   have dc:k=4:=(by omega);subst dc;have x: ∀j,j<5->m j=nx+17+j:=fun j a=>(b j (by omega)).trans (C j a);have N: ∀id,id<nx+22->id≠nx+1->id≠nx+19->id≠nx+20->(H2.set (nx+1) ⟨5,1,[[.osl 1 (nx+17) 0 s.words.length s.words.length,.osl 1 (nx+18) 0 s.holds.length s.holds.length,.osl 4 (nx+19) 0 3 3,.osl 3 (nx+20) 0 4 4,.osl 5 (nx+21) 0 s.told.length s.told.length]]⟩) id=A id:=fun id y i h3 h4=>by rw[aA.aB i,d id (by omega) h4,o id y h3]
   have bp: ∀j,j<19->nx+17<=m j:=fun j a=>(f.rng j (by first|omega| (dsimp only;omega))).1;refine hQ _ _ _ _ _ (.inr rfl) (gP rfl aA.aI rfl) (h _ _ m _ (by omega) ⟨⟨s.words.length,s.holds.length,3,4,s.told.length,?_,?_,?_,?_,abG _,abG _⟩,⟨m2,rows,?_,ah,fun j a=> ?_⟩,⟨m3,rv,?_,bb,fun j a=> ?_⟩⟩ ⟨fun j k a hk he=>f.inj j k (by first|omega| (dsimp only;omega)) (by first|omega| (dsimp only;omega)) he,fun j a=>by have:=f.rng j (by first|omega| (dsimp only;omega));omega⟩ fun id Z=> ?_);·rw[F3,x 0 (by omega),x 1 (by omega),x 2 (by omega),x 3 (by omega),x 4 (by omega)]
   ·rw[x 0 (by omega)];exact⟨m0,s.words.map aH,(N _ (by omega) (by omega) (by omega) (by omega)).trans cc,rfl,by simp,by simp,abG _,by omega⟩
   ·rw[x 1 (by omega)];exact⟨m1,s.holds.map aH,(N _ (by omega) (by omega) (by omega) (by omega)).trans cd,rfl,by simp,by simp,abG _,by omega⟩
   ·rw[x 4 (by omega)];exact⟨m4,s.told.map aT,(N _ (by omega) (by omega) (by omega) (by omega)).trans cl,rfl,by simp,by simp,abG _,by omega⟩
   ·rw[x 2 (by omega),aA.aB (by omega),d _ (by omega) (by omega)];exact ad
   ·obtain⟨r,y,i⟩:=R j a;have a5:=L.rng (5+j) (.inr (.inl ⟨by omega,by omega⟩));have a8:=L.rng (8+j) (.inr (.inr ⟨by omega,by omega⟩));have b5:m (5+j)≠nx+20:=fun he=>by have:=f.inj (5+j) 3 (.inl (by omega)) (.inl (by omega)) (by rw[he,M]);omega
    have b8:m (8+j)≠nx+20:=fun he=>by have:=f.inj (8+j) 3 (.inl (by omega)) (.inl (by omega)) (by rw[he,M]);omega
    rw[b _ (by omega)] at b5 b8;refine⟨r,y,?_⟩;rw[b _ (by omega),b _ (by omega)];exact i.frame (by rw[aA.aB (by omega),d _ (by omega) b5]) (by rw[aA.aB (by omega),d _ (by omega) b8])
   ·rw[M,aA.aB (by omega)];exact aw
   ·obtain⟨r,y,i⟩:=U j a;exact⟨r,y,i.frame (aA.aB (by have:=bp (11+j) (by omega);omega)) (aA.aB (by have:=bp (15+j) (by omega);omega))⟩
   ·rw[N id (by omega) (by omega) (by omega) (by omega)];exact cp id Z
end
section
variable{H:aA}{nx:Nat}{K:afC}
theorem IM(s:TSt)(hs:Ih s):afB kA [dA (eSt s)] (hp []) 0
 fun r H' n'=>∃m0 m1 a b c d,(s.words.length<=m0/\s.holds.length<=m1/\s.asked.length<=a/\s.wait.length<=b/\s.done.length<=c/\s.told.length<=d)/\n'=6/\H'=hp [(0,⟨1,m0,s.words.map aH⟩),(1,⟨1,m1,s.holds.map aH⟩),(2,⟨1,a,s.asked.map aH⟩),(3,⟨5,b,s.wait.map aT⟩),(4,⟨5,c,s.done.map aT⟩),(5,⟨5,d,s.told.map aT⟩)]/\
  r=dA (oIm 0 1 2 3 4 5 s.words.length s.holds.length s.asked.length s.wait.length s.done.length s.told.length s):=by
 obtain⟨o,p,q,t,v,x,f⟩:=hs
 refine aR.mk Tryz.func132 (by kernel_rfl) HU rfl fun Q y=> ?_
 unfold jI
 repeat' first| (first|apply vI|refine vK (w:=s.words) (u:=s.holds) (by omega) (by omega) (fun m0 m1 g h=> ?_)|refine mH (l:=s.asked) (by omega) (fun a i=> ?_)|refine nT (l:=s.wait) (by omega) (fun j e=>f j (by simp[e])) (fun b k=> ?_)|refine nT (l:=s.done) (by omega) (fun j e=>f j (by simp[e])) (fun c m=> ?_)|refine nT (l:=s.told) (by omega) (fun j e=>f j (by simp[e])) (fun d n=> ?_))<;>(simp only[go_sem])|fail
 (refine y _ _ _ _ _ 6 (dA (oIm 0 1 2 3 4 5 s.words.length s.holds.length s.asked.length s.wait.length s.done.length s.told.length s)) (hp [(0,⟨1,m0,s.words.map aH⟩),(1,⟨1,m1,s.holds.map aH⟩),(2,⟨1,a,s.asked.map aH⟩),(3,⟨5,b,s.wait.map aT⟩),(4,⟨5,c,s.done.map aT⟩),(5,⟨5,d,s.told.map aT⟩)]) _ _ (.inr rfl) rfl (jT [19,20,21,22,23,24] (by omega) (by repeat' first|exact C1| ((with_reducible apply C0);exact CQ (by omega) rfl rfl (by rfl) rfl)| ((with_reducible apply D0);apply C9)|exact C3|apply C4|fail) ⟨⟨by simp,by simp[sgL],_,rfl,cD (aN aV _) rfl rfl⟩,⟨by simp,by simp[sgL],_,rfl,cD (aN aV _) rfl rfl⟩,⟨by simp,by simp[sgL],_,rfl,cD (aN aV _) rfl rfl⟩,⟨by simp,by simp[sgL],_,rfl,cD (aN dQ _) rfl rfl⟩,⟨by simp,by simp[sgL],_,rfl,cD (aN dQ _) rfl rfl⟩,⟨by simp,by simp[sgL],_,rfl,cD (aN dQ _) rfl rfl⟩,trivial⟩ (by simp[sgL])) ?_)
 exact⟨m0,m1,a,b,c,d,⟨g,h,i,k,m,n⟩,rfl,rfl,rfl⟩
theorem IZ{s:TSt}(hs:Ih s)(h: ∀m0 m1 a b c d,(s.words.length<=m0/\s.holds.length<=m1/\s.asked.length<=a/\s.wait.length<=b/\s.done.length<=c/\s.told.length<=d)->K (dA (oIm nx (nx+1) (nx+2) (nx+3) (nx+4) (nx+5) s.words.length s.holds.length s.asked.length s.wait.length s.done.length s.told.length s)) ((((((H.set nx ⟨1,m0,s.words.map aH⟩).set (nx+1) ⟨1,m1,s.holds.map aH⟩).set (nx+2) ⟨1,a,s.asked.map aH⟩).set (nx+3) ⟨5,b,s.wait.map aT⟩).set (nx+4) ⟨5,c,s.done.map aT⟩).set (nx+5) ⟨5,d,s.told.map aT⟩) (nx+6)):
 afB kA [dA (eSt s)] H nx K:=by
 refine(IM s hs).JG (l0:=[]) [] rfl ⟨aF rfl,trivial⟩ trivial (by simp) (by simp) (by simp) fun r H' n' _ ⟨m0,m1,a,b,c,d,e,f,g,i⟩=> ?_
 have h:=h m0 m1 a b c d e
 subst f;subst g;subst i
 have j:back (tau 0 nx (nth [])) (hp [(0,⟨1,m0,s.words.map aH⟩),(1,⟨1,m1,s.holds.map aH⟩),(2,⟨1,a,s.asked.map aH⟩),(3,⟨5,b,s.wait.map aT⟩),(4,⟨5,c,s.done.map aT⟩),(5,⟨5,d,s.told.map aT⟩)]) 6 H=((((((H.set nx ⟨1,m0,s.words.map aH⟩).set (nx+1) ⟨1,m1,s.holds.map aH⟩).set (nx+2) ⟨1,a,s.asked.map aH⟩).set (nx+3) ⟨5,b,s.wait.map aT⟩).set (nx+4) ⟨5,c,s.done.map aT⟩).set (nx+5) ⟨5,d,s.told.map aT⟩):=by simp[back,hp,aA.set,aA.nil,tau,nth,EG,LP,aA.iS,aA.S5]
 rw[<-j] at h
 exact h
theorem eh{s:CSt}(hs:EI s)(h: ∀H' nx',nx<=nx'->(∀id,id<nx->H' id=H id)->K (dA (eSt (dN s))) H' nx'):afB HA [dA (bK s)] H nx K:=by
 have cy:=hs.pl;have dh:=hs.sl;obtain⟨N,hN⟩: ∃N,N=s.bN.length:=⟨_,rfl⟩
 rw[<-hN] at dh;apply aC.kH;refine bR.mk Tryz.func51 (by kernel_rfl) ZL rfl fun Q hQ=> ?_;unfold wF;repeat' first|apply vI<;>(simp only[go_sem,nL,cy])|fail
 apply aJ.mM 1;apply aJ.mM 5;apply aJ.mM 5;refine aJ.kH _ _ noF (fun t=>.inl rfl) (FQ (i:=nx+7) (o:=⟨6,1,[[.isl (s.words.map aH),.isl (s.holds.map aH),.osl 0 0 0 0 0,.osl 0 0 0 0 0,.osl 0 0 0 0 0,.isl (s.told.map aT)]]⟩) (o':=⟨6,1,[[.isl (s.words.map aH),.isl (s.holds.map aH),.osl 1 (nx+13) 0 0 0,.osl 5 (nx+14) 0 0 0,.osl 5 (nx+15) 0 0 0,.isl (s.told.map aT)]]⟩) (by simp only[aA.set,abH,abJ,Nat.reduceEqDiff,Nat.reduceAdd,if_false,if_true]) (bA (aG (bE rfl) (aG (bE rfl) (aG (.BL ..) (aG (.BL ..) (aG (.BL ..) (aG (bE rfl) cJ)))))))) ?_;refine aJ.KT fun G0 X=> ?_;have c0:G0 nx=some ⟨5,1,[bK s]⟩:=by rw[X];simp only[aA.set,abH,abJ,Nat.reduceEqDiff,Nat.reduceAdd,abI,if_false,if_true]
 have c1:G0 (nx+1)=some ⟨6,1,[[.osl 0 0 0 0 0,.osl 0 0 0 0 0,.osl 0 0 0 0 0,.osl 0 0 0 0 0,.osl 0 0 0 0 0,.osl 0 0 0 0 0]]⟩:=by rw[X];simp only[aA.set,abH,abJ,Nat.reduceEqDiff,Nat.reduceAdd,abI,if_false,if_true]
 have cA:O6 G0 (nx+13) (nx+16) (nx+7) s [] [] []:=by refine⟨nx+13,nx+14,nx+15,0,0,0,0,0,0,?_,⟨?_,by simp,by simp⟩,⟨?_,by simp,by simp⟩,⟨?_,by simp,by simp⟩,by omega,by omega,by omega,by omega⟩<;>rw[X]<;>simp only[aA.set,abH,abJ,Nat.reduceEqDiff,Nat.reduceAdd,abI,if_false,if_true]<;>rfl
 have ds: ∀id,id<nx->G0 id=H id:=fun id T=>by rw[X];simp only[aA.set,abH,show ¬id=nx by omega,show ¬id=nx+1 by omega,show ¬id=nx+7 by omega,show ¬id=nx+13 by omega,show ¬id=nx+(13+1) by omega,show ¬id=nx+(13+(1+1)) by omega,Nat.reduceAdd,show ¬id=nx+14 by omega,show ¬id=nx+15 by omega,if_false]
 clear X
 refine aJ.cG (β:=Nat) (fun k=>en [(20,dI k),(19,dI 3),(18,dS (s.bC.map dD)),(3,.one (.c (.ptr 6 (nx+7) 0 0))),(2,.one (.c (.ptr 6 (nx+1) 0 0))),(1,.one (.c (.ptr 5 nx 0 0)))])
  (fun k H1 U=>k<=3/\O6 H1 (nx+13) U (nx+7) s ((s.bC.take k).map (·.next)) ((List.range k).flatMap (gL s)) []/\ ∀id,id<nx+13->id≠nx+7->H1 id=G0 id)
  (fun k=>3-k) 0 ⟨noF,_,by repeat' first|exact C1|refine xqI rfl rfl ?_|refine xqP (by omega) rfl rfl ?_|fail,aE,by omega,cA,fun _ _ _=>rfl⟩ ?_
 rintro k H1 U fp ⟨hk,d,e⟩ KL dv;have g0:H1 nx=some ⟨5,1,[bK s]⟩:=by rw[e _ (by omega) (by omega)];exact c0
 obtain⟨A,br⟩: ∃A,A=(s.bC.take k).map (·.next):=⟨_,rfl⟩
 obtain⟨W,bw⟩: ∃W,W=(List.range k).flatMap (gL s):=⟨_,rfl⟩
 have fs:A.length=k:=by rw[br];simp;omega
 have da: ∀k,k<3->(gL s k).length<=3:=fun k hk=>by have:=hs.q k hk;simpa [gL] using this
 have fx:W.length<=3*k:=by rw[bw];exact wE k fun j hj=>da j (by omega)
 rw[<-br,<-bw] at d;obtain⟨B,C,id_,ca,cw,cd,ma,mw,md,J,⟨r,a2,a3⟩,⟨x,a5,a6⟩,⟨u,a8,a9⟩,aa,V,ac,O⟩:=d;have P:aO U [nx,nx+1,nx+7,B,C,id_]:=AM.apart (by simp;omega) (by simp;omega);simp only[aO,bG] at P;by_cases cc:k<3
 ·obtain⟨p,Y⟩: ∃p,p=aL s k:=⟨_,rfl⟩
  have ao:s.bC.getD k default=p:=Y.symm;have dx:=hs.q k cc;rw[<-Y] at dx;repeat' first|apply vI<;>(simp only[go_sem,nL,ao,J,r,x,u,P,List.set])|apply vT (by omega)| (with_reducible first|refine fun(cap:Nat) (E:_<=cap)=> ?_|refine fun(Z:_<=cap)=> ?_)|refine⟨by omega,?_⟩|fail
  obtain⟨A',ah⟩: ∃A',A'=A++[p.next]:=⟨_,rfl⟩
  have ck:A'.length=A.length+1:=by rw[ah];simp
  refine aJ.cG (β:=Nat) (fun i=>en [(35,dI i),(34,dI p.queue.length),(33,dS (p.queue.map aH)),(20,dI k),(19,dI 3),(18,dS (s.bC.map dD)),(4,dI k),(3,.one (.c (.ptr 6 (nx+7) 0 0))),(2,.one (.c (.ptr 6 (nx+1) 0 0))),(1,.one (.c (.ptr 5 nx 0 0)))])
   (fun i H2 a=>i<=p.queue.length/\O6 H2 (nx+13) a (nx+7) s A' (W++(gL s k).take i) []/\ ∀id,id<nx+13->id≠nx+7->H2 id=G0 id)
   (fun i=>p.queue.length-i) 0 ⟨noF,_,by repeat' first|exact C1|refine xqI rfl rfl ?_|refine xqP (by omega) rfl rfl ?_|fail,aE,by omega,?_,fun id y g=> ?_⟩ ?_
  ·rw[List.take_zero,ab3];refine⟨U+12,C,id_,cap,cw,cd,cap,mw,md,?_,⟨?_,by omega,abG _⟩,⟨?_,a5,a6⟩,⟨?_,a8,a9⟩,by omega,by omega,by omega,by omega⟩;·rw[ck,aA.aI];rfl
   ·rw[ah];simp only[aA.set,aA.del,P,if_false,if_true]
   ·simp only[aA.set,aA.del,P,if_false];exact x
   ·simp only[aA.set,aA.del,P,if_false];exact u
  ·rw[aA.aB g,aA.aB (by omega),aA.aB (by omega),aA.aB (by omega),aA.cC (by omega)];exact e id y g
  clear J r x u aa V ac O P;rintro i H2 a cl ⟨hi,d,aw⟩ KM cp;obtain⟨z,b⟩: ∃z,z=W++(gL s k).take i:=⟨_,rfl⟩
  have cq:z.length<=3*k+3:=by have:=da k cc;rw[b,abL,ab5];omega
  rw[<-b] at d;obtain⟨B,C,id_,ca,cw,cd,ma,mw,md,J,⟨r,a2,a3⟩,⟨x,a5,a6⟩,⟨u,a8,a9⟩,aa,V,ac,O⟩:=d;have P:aO a [nx,nx+1,nx+7,B,C,id_]:=AM.apart (by simp;omega) (by simp;omega);simp only[aO,bG] at P;by_cases F:i<p.queue.length
  ·repeat' first|apply vI<;>(simp only[go_sem,nL,J,r,x,u,P,List.set];try simp (disch:=omega) only[Iw])|apply vT (by omega)| (with_reducible first|refine fun(cap:Nat) (E:_<=cap)=> ?_|refine fun(Z:_<=cap)=> ?_)|refine⟨by omega,?_⟩|fail
   refine SW (K:=KM) fun G hG=> ?_;obtain⟨H',q1,q2,q3⟩:=Zt (H2:=H2) (G:=G) (hi:=a) (lo:=nx+13) (t:=nx+7) (s:=s) (W:=z) (D:=[]) (x2:=a+10) (nx':=a+15) (k:=k) (n:=p.queue.getD i default) r ⟨a2,a3⟩ u ⟨a8,a9⟩ aa V ac O (by omega) (by omega) E (by rw[hG];exact aA.aI) (by rw[hG,aA.aB (by omega)];exact aA.aI) (fun id y g e2=>by rw[hG,aA.aB e2,aA.aB (by omega),aA.aB (by omega),aA.cC g]);have q4: ∀id,id<nx+13->id≠nx+7->H' id=H2 id:=fun id y g=>by rw[q3 id (by omega),hG,aA.aB g,aA.aB (by omega),aA.aB (by omega),aA.cC (by omega)]
   have L:W++(gL s k).take (i+1)=z++[(⟨k,p.queue.getD i default,jZ⟩:Job)]:=(by rw[fC (by simpa [gL,<-Y] using F),<-abY,<-b];congr 2;simp[gL,<-Y,List.getD,F]);exact cp _ _ _ (i+1) noF H' (by omega) (by omega) (by repeat' first|exact C1|refine xqI rfl rfl ?_|refine xqP (by omega) rfl rfl ?_|fail) q1 ⟨by omega,by rw[L];exact q2,fun id y g=>(q4 id y g).trans (aw id y g)⟩
  ·repeat' first|apply vI<;>(simp only[go_sem];try simp (disch:=omega) only[Iw])|apply vF (by omega)|fail
   have dy:i=p.queue.length:=(by omega);have L:z=(List.range (k+1)).flatMap (gL s):=(by rw[b,tH,<-bw,abM (by simp[gL,<-Y];omega)]);have dz:A'=(s.bC.take (k+1)).map (·.next):=(by rw[ah,fC (by omega),abU,<-br];rw[<-ao];rfl);exact dv _ _ _ (k+1) noF _ (by omega) (by omega) (by repeat' first|exact C1|refine xqI rfl rfl ?_|refine xqP (by omega) rfl rfl ?_|fail) aE ⟨by omega,by rw[<-L,<-dz];exact⟨B,C,id_,ca,cw,cd,ma,mw,md,J,⟨r,a2,a3⟩,⟨x,a5,a6⟩,⟨u,a8,a9⟩,by omega,V,ac,O⟩,aw⟩
 ·repeat' first|apply vI<;>(simp only[go_sem,g0])|apply vF (by omega)|fail
  have eb:k=3:=by omega
  subst eb;have cr: ∀k,k<N->(fD s k).length<=3/\(aS s k).done.length<=3:=fun k hk=>⟨by have:=(hs.v k (by omega)).1;simpa [fD] using this,(hs.v k (by omega)).2⟩
  refine aJ.cG (β:=Nat) (fun k=>en [(52,dI k),(51,dI N),(50,dS (s.bN.map i6)),(3,.one (.c (.ptr 6 (nx+7) 0 0))),(2,.one (.c (.ptr 6 (nx+1) 0 0)))])
   (fun k H1 U=>k<=N/\O6 H1 (nx+13) U (nx+7) s A (W++(List.range k).flatMap (fD s)) ((List.range k).flatMap fun k=>(aS s k).done)/\ ∀id,id<nx+13->id≠nx+7->H1 id=G0 id)
   (fun k=>N-k) 0 ⟨noF,_,by repeat' first|exact C1|refine xqI rfl rfl ?_|refine xqP (by omega) rfl rfl ?_|refine xqV rfl (by omega) ?_|fail,aE,by omega,?_,e⟩ ?_
  ·simp only[List.range_zero,List.flatMap_nil,ab3];exact⟨B,C,id_,ca,cw,cd,ma,mw,md,J,⟨r,a2,a3⟩,⟨x,a5,a6⟩,⟨u,a8,a9⟩,by omega,V,ac,O⟩
  clear J r x u aa V ac O P e g0;rintro k H2 a cl ⟨hk,d,e⟩ KM cp;obtain⟨z,b⟩: ∃z,z=W++(List.range k).flatMap (fD s):=⟨_,rfl⟩
  obtain⟨D,cf⟩: ∃D,D=(List.range k).flatMap fun k=>(aS s k).done:=⟨_,rfl⟩
  have cq:z.length<=9+3*k:=by have:=wE (f:=fD s) (m:=3) k fun j hj=>(cr j (by omega)).1;rw[b,abL];omega
  have ga:D.length<=3*k:=by rw[cf];exact wE k fun j hj=>(cr j (by omega)).2
  rw[<-b,<-cf] at d;obtain⟨B,C,id_,ca,cw,cd,ma,mw,md,J,⟨r,a2,a3⟩,⟨x,a5,a6⟩,⟨u,a8,a9⟩,aa,V,ac,O⟩:=d;by_cases cc:k<N
  ·obtain⟨v,M⟩: ∃v,v=aS s k:=⟨_,rfl⟩
   have ct:s.bN.getD k default=v:=M.symm;obtain⟨ed,ei⟩:=cr k cc;have ej:v.pipe.length<=3:=(by simpa [fD,<-M] using ed);rw[<-M] at ei;repeat' first|apply vI<;>(simp only[go_sem,nL,ct,J,List.set])|apply vT (by omega)|refine⟨by omega,?_⟩|fail
   refine aJ.cG (β:=Nat) (fun i=>en [(59,dI i),(58,dI v.pipe.length),(57,dS (v.pipe.map eCJ)),(52,dI k),(51,dI N),(50,dS (s.bN.map i6)),(9,.one (.c (.ptr 3 (a+3) 0 0))),(3,.one (.c (.ptr 6 (nx+7) 0 0))),(2,.one (.c (.ptr 6 (nx+1) 0 0)))])
    (fun i H3 I=>i<=v.pipe.length/\O6 H3 (nx+13) I (nx+7) s A (z++(fD s k).take i) D/\H3 (a+3)=some ⟨3,1,[i6 v]⟩/\ ∀id,id<nx+13->id≠nx+7->H3 id=G0 id)
    (fun i=>v.pipe.length-i) 0 ⟨noF,_,by repeat' first|exact C1|refine xqI rfl rfl ?_|refine xqP (by omega) rfl rfl ?_|fail,aE,by omega,?_,aA.aI,fun id y g=>by rw[aA.aB (by omega)];exact e id y g⟩ ?_
   ·rw[List.take_zero,ab3];refine O6.frame (hi:=a) ⟨B,C,id_,ca,cw,cd,ma,mw,md,J,⟨r,a2,a3⟩,⟨x,a5,a6⟩,⟨u,a8,a9⟩,aa,V,ac,O⟩ (by omega) (by omega) fun id y _=>aA.aB (by omega)
   clear J r x u aa V ac O e;rintro i H3 I eo ⟨hi,d,g9,e⟩ KN ep;obtain⟨W3,R⟩: ∃W3,W3=z++(fD s k).take i:=⟨_,rfl⟩
   have et:W3.length<=12+3*k:=(by rw[R,abL,ab5];omega);rw[<-R] at d;obtain⟨B,C,id_,ca,cw,cd,ma,mw,md,J,⟨r,a2,a3⟩,⟨x,a5,a6⟩,⟨u,a8,a9⟩,aa,V,ac,O⟩:=d;have n1:a+3≠B:=fun he=>by rw[<-he,g9] at r;simp at r
   have n2:a+3≠C:=fun he=>by rw[<-he,g9] at x;simp at x
   have n3:a+3≠id_:=fun he=>by rw[<-he,g9] at u;simp at u
   have P:aO I [nx,nx+1,nx+7,a+3,B,C,id_]:=AM.apart (by simp;omega) (by simp;omega);simp only[aO,bG] at P;by_cases F:i<v.pipe.length
   ·repeat' first|apply vI<;>(simp only[go_sem,nL,J,r,x,u,g9,P,List.set];try simp (disch:=omega) only[Iw])|apply vT (by omega)| (with_reducible first|refine fun(cap:Nat) (E:_<=cap)=> ?_|refine fun(Z:_<=cap)=> ?_)|refine⟨by omega,?_⟩|fail
    refine SW (K:=KN) fun G hG=> ?_;obtain⟨H',q1,q2,q3⟩:=Zt (H2:=H3) (G:=G) (hi:=I) (lo:=nx+13) (t:=nx+7) (s:=s) (W:=W3) (D:=D) (x2:=I+13) (nx':=I+18) (k:=(v.pipe.getD i default).who) (n:=(v.pipe.getD i default).n) r ⟨a2,a3⟩ u ⟨a8,a9⟩ aa V ac O (by omega) (by omega) E (by rw[hG];exact aA.aI) (by rw[hG,aA.aB (by omega)];exact aA.aI) (fun id y g e2=>by rw[hG,aA.aB e2,aA.aB (by omega),aA.aB (by omega),aA.aB (by omega),aA.cC g]);have q4: ∀id,id<nx+13->id≠nx+7->H' id=H3 id:=fun id y g=>by rw[q3 id (by omega),hG,aA.aB g,aA.aB (by omega),aA.aB (by omega),aA.aB (by omega),aA.cC (by omega)]
    have L:z++(fD s k).take (i+1)=W3++[(⟨(v.pipe.getD i default).who,(v.pipe.getD i default).n,jZ⟩:Job)]:=(by rw[fC (by simpa [fD,<-M] using F),<-abY,<-R];congr 2;simp[fD,<-M,List.getD,F]);exact ep _ _ _ (i+1) noF H' (by omega) (by omega) (by repeat' first|exact C1|refine xqI rfl rfl ?_|refine xqP (by omega) rfl rfl ?_|fail) q1 ⟨by omega,by rw[L];exact q2,by rw[q3 _ (by omega),hG,aA.aB (by omega),aA.aB (by omega),aA.aB (by omega),aA.aB (by omega),aA.cC n2];exact g9,fun id y g=>(q4 id y g).trans (e id y g)⟩
   ·have dy:i=v.pipe.length:=(by omega);have L:W3=W++(List.range (k+1)).flatMap (fD s):=(by rw[R,tH,<-abY,<-b,abM (by simp[fD,<-M];omega)]);repeat' first|apply vI<;>(simp only[go_sem,nL,J,r,x,u,g9,P,List.set];try simp (disch:=omega) only[Iw])|apply vF (by omega)| (with_reducible first|refine fun(cap:Nat) (E:_<=cap)=> ?_|refine fun(Z:_<=cap)=> ?_)|refine⟨by omega,?_⟩|fail
    have eu:D++v.done=(List.range (k+1)).flatMap fun k=>(aS s k).done:=by rw[tH,<-cf,M]
    have Z:D.length+v.done.length<=cap:=(by omega);refine cp _ _ _ (k+1) noF _ (by omega) (by omega) (by repeat' first|exact C1|refine xqI rfl rfl ?_|refine xqP (by omega) rfl rfl ?_|fail) aE ⟨by omega,?_,fun id y g=>by rw[aA.aB g,aA.aB (by omega),aA.cC (by omega)];exact e id y g⟩;rw[<-L,<-eu];refine⟨B,C,I+5,ca,cw,cap,ma,mw,cap,?_,⟨?_,a2,a3⟩,⟨?_,a5,a6⟩,⟨?_,by simpa using Z,abG _⟩,by omega,by omega,by omega,by omega⟩;·rw[aA.aI,abL]
    ·rw[aA.aB (by omega),aA.aB (by omega),aA.cC ac];exact r
    ·rw[aA.aB (by omega),aA.aB (by omega),aA.cC O];exact x
    ·rw[aA.aB (by omega),aA.aI,abU]
  ·repeat' first|apply vI<;>(simp only[go_sem,J])|apply vF (by omega)|fail
   have ew:k=N:=(by omega);subst ew;have dc:z=nR s:=(by rw[b,bw];unfold nR;rw[cy,<-hN]);have df:D=qV s:=(by rw[cf];unfold qV;rw[<-hN]);have d:A=s.bC.map (·.next):=(by rw[br,abM (by omega)]);have bb:=hs.wl;have bh:=hs.dl;rw[<-dc] at bb;rw[<-df] at bh;refine A6 (l:=z) (by omega) (by omega) x fun H3 I gb f4 bk=> ?_;have f0:=(bk (nx+7) (by omega) (by omega)).trans J;have f1:=(bk B (by omega) V).trans r;have f7:=(bk id_ (by omega) O.symm).trans u;simp only[go_sem];repeat' first|apply vI<;>(simp only[go_sem,f0])|fail
   refine A6 (l:=D) (by omega) (by omega) f7 fun H4 w gd e7 bp=> ?_;have y:=(bp (nx+7) (by omega) (by omega)).trans f0;have g:=(bp B (by omega) ac).trans f1;have e4:=(bp C (by omega) O).trans f4;have ex:=((bp (nx+1) (by omega) (by omega)).trans ((bk (nx+1) (by omega) (by omega)).trans ((e _ (by omega) (by omega)).trans c1)))
   have ff: ∀id,id<nx->H4 id=H id:=fun id T=>(bp id (by omega) (by omega)).trans ((bk id (by omega) (by omega)).trans ((e id (by omega) (by omega)).trans (ds id T)));simp only[go_sem];try apply kI
   have fh:(cW z).length=z.length:=(iU _).length_eq;have fi:(cW D).length=D.length:=(iU _).length_eq;have fl:eSt (dN s)=[.isl (s.words.map aH),.isl (s.holds.map aH),.isl (A.map aH),.isl ((cW z).map aT),.isl ((cW D).map aT),.isl (s.told.map aT)]:=(by rw[d,dc,df];rfl);obtain⟨H5,cx⟩: ∃H5:aA,H5=fun j=>if j=B\/j=C\/j=id_ then none else if j=nx+7 then some ⟨6,1,[eSt (dN s)]⟩ else H4 j:=⟨_,rfl⟩
   have q5: ∀j,j≠B->j≠C->j≠id_->j≠nx+7->H5 j=H4 j:=fun j h1 h2 h3 h4=>by rw[cx];simp only[h1,h2,h3,h4,or_self,if_false]
   have q7:H5 (nx+7)=some ⟨6,1,[eSt (dN s)]⟩:=(by rw[cx];simp only[show ¬nx+7=B by omega,show ¬nx+7=C by omega,show ¬nx+7=id_ by omega,or_self,if_false,if_true]);refine aJ.kH _ H5 (fun j=>j=B\/j=C\/j=id_) (fun t=>.inl rfl) (vv (t:=nx+7) (fun j hj=>by rw[cx];simp only[hj,if_true]) q7 y (by omega) (bA ?_) fun j h1 h2=>q5 j (fun h=>h2 (.inl h)) (fun h=>h2 (.inr (.inl h))) (fun h=>h2 (.inr (.inr h))) h1) ?_;·rw[fl];exact aG (bE rfl) (aG (bE rfl) (aG (cP aV g rfl a2 (.inl rfl)) (aG (cP dQ e4 fh.symm (by omega) (.inr (.inl rfl))) (aG (cP dQ e7 fi.symm (by omega) (.inr (.inr rfl))) (aG (bE rfl) cJ)))))
   have qx:=(q5 (nx+1) (by omega) (by omega) (by omega) (by omega)).trans ex;have fm: ∀id,id<nx->H5 id=H id:=fun id T=>(q5 id (by omega) (by omega) (by omega) (by omega)).trans (ff id T);have fo:=hs.st;have hz: ∀k,(nx=w+k)=False:=fun k=>eq_false (by omega);generalize hS:dN s=S at*;repeat' first| (first|apply vI|refine IZ (s:=S) fo (fun m0 m1 m2 m3 m4 m5 hm=> ?_))<;>(simp only[go_sem,abH,abI,q7,qx,hz,oIm])|fail
   refine hQ _ _ _ _ _ (.inr rfl) (gP rfl aA.aI rfl) ⟨dA (eSt S),_,fun j=>w+3<=j/\j<w+3+6,iR (aG (cP aV (m:=m0) (by simp only[aA.set,abJ,Nat.reduceEqDiff,show ¬w+3=nx+1 by omega,if_false,if_true]) rfl (abG _) (by omega)) (aG (cP aV (m:=m1) (by simp only[aA.set,abJ,Nat.reduceEqDiff,show ¬w+4=nx+1 by omega,if_false,if_true]) rfl (abG _) (by omega)) (aG (cP aV (m:=m2) (by simp only[aA.set,abJ,Nat.reduceEqDiff,show ¬w+5=nx+1 by omega,if_false,if_true]) rfl (abG _) (by omega)) (aG (cP dQ (m:=m3) (by simp only[aA.set,abJ,Nat.reduceEqDiff,show ¬w+6=nx+1 by omega,if_false,if_true]) rfl (abG _) (by omega)) (aG (cP dQ (m:=m4) (by simp only[aA.set,abJ,Nat.reduceEqDiff,show ¬w+7=nx+1 by omega,if_false,if_true]) rfl (abG _) (by omega)) (aG (cP dQ (m:=m5) (by simp only[aA.set,abJ,Nat.reduceEqDiff,show ¬w+8=nx+1 by omega,if_false,if_true]) rfl (abG _) (by omega)) cJ)))))),yq,h _ _ (by omega) fun id T=> ?_⟩;rw[En (by omega),aA.aB (by omega),aA.aB (by omega),aA.aB (by omega),aA.aB (by omega),aA.aB (by omega),aA.aB (by omega),aA.aB (by omega)];exact fm id T
end
end Go.Proofs.YtlncecohbakleaaGreat
