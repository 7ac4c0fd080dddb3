/- Rules and contracts. -/
import Derived.Test.YtlncecohbakleaaGreatPR10
import Derived.Test.YtlncecohbakleaaGreatPR11
set_option linter.unusedVariables false
set_option linter.unusedSimpArgs false
set_option maxRecDepth 100000
set_option maxHeartbeats 8000000
namespace Go.AM
theorem aJ.Gn{P:Program}{T:Nat}{e:Env}{H:aA}{nx:Nat}{Q:AQ}{zs:List AC}(h: ∀G,G=H->aJ P T zs e G nx Q):aJ P T zs e H nx Q:=h H rfl
theorem Mb{H:aA}{F:Nat->Prop}{nh:Nat}{f:FuncId}{caps:List D1}(h: ∀x∈caps,∃n id row a,id<nh/\x= .ptr n id row a):Cv1 H F id nh (.clo f caps) (.clo f caps):=
 .clo f caps caps rfl fun i x y b c=>by
  rw[b] at c;obtain rfl:x=y:=by simpa using c
  obtain⟨n,id,row,a,d,rfl⟩:=h x (abV b);exact .inr ⟨n,id,row,a,d,rfl,rfl⟩
def Oa(V:List (Int×Int))(k:Nat)(u:List Int):Prop:=u.length=3/\ ∀w,w<3->u.getD w default= -1\/ ∃i,i<k/\V[i]?=some ((w:Int),u.getD w default)
theorem Oa.next{c:Cfg}{s:CSt}{st k:Nat}{u:List Int}{x:Int×Int}(hs:COk c s)(b:st<4)(h:Oa (gM (aS s st)) k u)(l:(gM (aS s st))[k]?=some x):
 (x.1=(x.1.toNat:Int)/\x.1.toNat<3)/\u.getD x.1.toNat default<x.2/\Oa (gM (aS s st)) (k+1) (u.set x.1.toNat x.2):=by
 obtain⟨m,d⟩:=abN.1 l
 have hm:x∈gM (aS s st):=d▸adB m
 obtain⟨hw,p,q⟩:=hs.vIn b hm
 have e:x.1.toNat<3:=by omega
 have a:x.1=(x.1.toNat:Int):=by omega
 refine⟨⟨a,e⟩,?_,by simp[h.1],fun w f=> ?_⟩
 ·rcases h.2 _ e with g|⟨i,hi,g⟩
  ·omega
  ·obtain⟨j,o⟩:=abN.1 g;have n:=acH.1 (hs.slv st b).inc i k j m hi;rw[o,d] at n;exact n a.symm
 ·by_cases he:w=x.1.toNat;·right;refine⟨k,by omega,?_⟩;rw[he,DU (by rw[h.1];omega),if_pos rfl,l,<-a]
  ·rw[DU (by rw[h.1];omega),if_neg he];exact(h.2 w f).imp (fun h=>h) fun⟨i,hi,g⟩=>⟨i,by omega,g⟩
variable{M:List (List Int×Int)}
theorem pd{l c:List Int}{n:Int}:jX (A8 M l n) c=if c=l then some n else jX M c:=by
 induction M with
 |nil=>
  by_cases h:c=l;·simp[A8,jX,h]
  ·simp[A8,jX,h]
 |cons p M d=>
  obtain⟨a,b⟩:=p;simp only[A8];by_cases hl:l=a
  ·subst hl;rw[if_pos rfl];by_cases h:c=l;·simp[jX,h]
   ·simp[jX,h]
  ·rw[if_neg hl];unfold jX at d ⊢;simp only[List.find?_cons];by_cases h:c=a;·subst h;simp[Ne.symm hl]
   ·simp only[h,decide_false];rw[d]
def vi(c:Cfg)(who:Nat)(out:List gD)(k:Nat)(M:List (List Int×Int)):Prop:=∀i v,jX M [i]=some v->∃j∈out.take k,(bQ c who j.n).id=i/\j.left=v
theorem vi.next{c:Cfg}{who:Nat}{out:List gD}{k:Nat}{M:List (List Int×Int)}(h:vi c who out k M)(b:k<out.length):vi c who out (k+1) (A8 M [(bQ c who (out.getD k default).n).id] (out.getD k default).left):=by
 intro i v a;rw[pd] at a;have hm:out.getD k default∈out.take (k+1):=by rw[fC b];simp
 split at a;·rename_i he;simp only[List.cons.injEq,and_true] at he;simp only[Option.some.injEq] at a;exact⟨_,hm,he.symm,a⟩
 ·obtain⟨j,d,e⟩:=h i v a;exact⟨j,(List.take_sublist_take_left (by omega)).mem d,e⟩
noncomputable def ptB(c:Cfg)(who:Nat)(p:eT):Bool:=@decide (iA c who p) (Classical.propDecidable _)
variable{c:Cfg}{who:Nat}
theorem Fu{p:eT}(h:iA c who p):ptB c who p=true:=by simp[ptB,h]
theorem TN{p:eT}(h: ¬iA c who p):ptB c who p=false:=by simp[ptB,h]
def LX(c:Cfg)(who:Nat)(p:eT)(j:gD):Prop:=j.who=who/\(0<=j.n/\j.n<p.next-p.queue.length)/\j.left=iV c.map (bQ c who j.n)
structure zk(c:Cfg)(who:Nat)(p:eT)(k:Nat)(last:Int)(M:List (List Int×Int)):Prop where
 all: ∀i,i<k->LX c who p (p.out.getD i default)
 srt: ∀i j,i<j->j<k->(p.out.getD i default).n<(p.out.getD j default).n
 lst:(k=0/\last= -1)\/(0<k/\last=(p.out.getD (k-1) default).n)
 ids: ∀i,i<k->jX M [(bQ c who (p.out.getD i default).n).id]=some (p.out.getD i default).left
 plc:vi c who p.out k M
theorem zk.next{c:Cfg}{who:Nat}{p:eT}{k:Nat}{last:Int}{M:List (List Int×Int)}(h:zk c who p k last M)(g:k<p.out.length){j:gD}(f:j=p.out.getD k default)(l:LX c who p j)(q:last<j.n)
 (m: ∀v,jX M [(bQ c who j.n).id]=some v->v=j.left):zk c who p (k+1) j.n (A8 M [(bQ c who j.n).id] j.left):=by
 subst f
 refine⟨bL h.all l,fun i j b f=> ?_,.inr ⟨by omega,by simp⟩,fun i hi=> ?_,h.plc.next g⟩
 ·by_cases d:j<k;·exact h.srt i j b d
  ·obtain rfl:j=k:=by omega
   rcases h.lst with⟨o,_⟩|⟨o,a⟩
   ·omega
   ·by_cases hi:i=j-1;·subst hi;omega
    ·have:=h.srt i (j-1) (by omega) (by omega);omega
 ·rw[pd];by_cases e:i<k
  ·have a:=h.ids i e;split;·rename_i he;simp only[List.cons.injEq,and_true] at he;rw[he] at a;rw[m _ a]
   ·exact a
  ·obtain rfl:i=k:=by omega
   simp
theorem zk.end{p:eT}{last:Int}(h:zk c who p p.out.length last M):(∀j∈p.out,LX c who p j)/\(p.out.Pairwise fun a b=>a.n<b.n)/\ ∀a∈p.out,∀b∈p.out,(bQ c who a.n).id=(bQ c who b.n).id->a.left=b.left:=by
 have e: ∀i (hi:i<p.out.length),p.out.getD i default=p.out[i]:=fun i hi=>by simp[List.getD,hi]
 refine⟨fun j d=> ?_,acH.2 fun i j hi d f=> ?_,fun a l b m he=> ?_⟩;·obtain⟨i,hi,rfl⟩:=ab6.1 d;rw[<-e i hi];exact h.all i hi
 ·rw[<-e i hi,<-e j d];exact h.srt i j f d
 ·obtain⟨i,hi,rfl⟩:=ab6.1 l;obtain⟨j,d,rfl⟩:=ab6.1 m;have g:=h.ids i hi;have k:=h.ids j d;rw[e] at g k;rw[he,k] at g;exact(Option.some.inj g).symm
theorem zk.bad{p:eT}{k:Nat}{last:Int}(h:zk c who p k last M)(b:k<p.out.length)(hp:iA c who p):LX c who p (p.out.getD k default)/\last<(p.out.getD k default).n/\ ∀v,jX M [(bQ c who (p.out.getD k default).n).id]=some v->v=(p.out.getD k default).left:=by
 have hm:=bT b;have d:=hp.out _ hm;refine⟨d,?_,fun v e=> ?_⟩
 ·rcases h.lst with⟨f,a⟩|⟨f,a⟩
  ·omega
  ·have:=acH.1 hp.zu (k-1) k (by omega) b (by omega);rw[a];simpa [List.getD,b,show k-1<p.out.length by omega] using this
 ·obtain⟨g,a,i,j⟩:=h.plc _ _ e;rw[<-j];exact hp.Kb g (aeW a) _ hm i
noncomputable def slB(c:Cfg)(s:CSt)(st:Nat):Bool:=@decide (pE c s st) (Classical.propDecidable _)
variable{st:Nat}
theorem Gs{s:CSt}(h:pE c s st):slB c s st=true:=by simp[slB,h]
theorem PK{s:CSt}(h: ¬pE c s st):slB c s st=false:=by simp[slB,h]
structure zH(c:Cfg)(s:CSt):Prop where
 pl:s.bC.length=3
 port: ∀k,k<3->iA c k (aL s k)
structure Z2(s:CSt)(st:Nat)(u:List Int)(x:Int×Int):Prop where
 who:0<=x.1/\x.1<=2
 last:u.getD x.1.toNat default<x.2
 at0:0<=bP (isC x.2) (aL s x.1.toNat).out
 at1:(bP (isC x.2) (aL s x.1.toNat).out).toNat<(aL s x.1.toNat).out.length
 at2:((aL s x.1.toNat).out.getD (bP (isC x.2) (aL s x.1.toNat).out).toNat default).left=st
structure W2(s:CSt)(st:Nat)(V:List (Int×Int))(k:Nat)(u:List Int):Prop where
 ul:u.length=3
 lst: ∀w,w<3->u.getD w default= -1\/ ∃i,i<k/\V[i]?=some ((w:Int),u.getD w default)
 all: ∀i x,i<k->V[i]?=some x->(0<=x.1/\x.1<=2)/\x.2<=u.getD x.1.toNat default/\ ∃j∈(aL s x.1.toNat).out,j.n=x.2/\j.left=st
 inc: ∀i j x y,i<j->j<k->V[i]?=some x->V[j]?=some y->x.1=y.1->x.2<y.2
theorem W2.nil{s:CSt}{V:List (Int×Int)}:W2 s st V 0 [-1,-1,-1]:=⟨rfl,fun w hw=>.inl (by rcases(show w=0\/w=1\/w=2 by omega) with rfl|rfl|rfl<;>rfl),fun i x hi=>by omega,fun i j x y _ a=>by omega⟩
theorem W2.next{s:CSt}{st k:Nat}{V:List (Int×Int)}{u:List Int}{x:Int×Int}(h:W2 s st V k u)(e:V[k]?=some x)(b:Z2 s st u x):W2 s st V (k+1) (u.set x.1.toNat x.2):=by
 have hw:=b.who;have f:=h.ul;have p:=b.last;have o: ∀w,(u.set x.1.toNat x.2).getD w default=if w=x.1.toNat then x.2 else u.getD w default:=fun w=>DU (by omega)
 refine⟨by simp[f],fun w g=> ?_,fun i y hi a=> ?_,fun i j y z c t a l he=> ?_⟩
 ·rw[o];by_cases he:w=x.1.toNat;·right;refine⟨k,by omega,?_⟩;rw[if_pos he,e,he,show ((x.1.toNat:Nat):Int)=x.1 by omega]
  ·rw[if_neg he];exact(h.lst w g).imp (fun h=>h) fun⟨i,hi,d⟩=>⟨i,by omega,d⟩
 ·rw[o];by_cases m:i<k
  ·obtain⟨q,d,r⟩:=h.all i y m a;refine⟨q,?_,r⟩;split;·rename_i he;rw[he] at d;omega
   ·exact d
  ·obtain rfl:i=k:=by omega
   obtain rfl:x=y:=by rw[e] at a;exact Option.some.inj a
   refine⟨hw,by rw[if_pos rfl];omega,_,bT b.at1,?_,b.at2⟩;have:=(TK b.at0).2;exact of_decide_eq_true this
 ·by_cases n:j<k;·exact h.inc i j y z c n a l he
  ·obtain rfl:j=k:=by omega
   obtain rfl:x=z:=by rw[e] at l;exact Option.some.inj l
   have:=(h.all i y c a).2.1;rw[he] at this;omega
theorem W2.bad{s:CSt}{k:Nat}{u:List Int}{x:Int×Int}(hp:zH c s)(hs:pE c s st)(h:W2 s st (gM (aS s st)) k u)(p:(gM (aS s st))[k]?=some x):Z2 s st u x:=by
 obtain⟨g,a⟩:=abN.1 p;have hm:x∈gM (aS s st):=a▸adB g;obtain⟨hw,j,d,e,q⟩:=hs.out x hm;have b:=hp.port x.1.toNat (by omega);have r:=(b.out j d).2.1;have hex: ∃j∈(aL s x.1.toNat).out,j.n=x.2:=⟨j,d,e⟩
 obtain⟨l,t⟩:=XO hex;refine⟨hw,?_,cU.2 ⟨j,d,decide_eq_true e⟩,l,?_⟩
 ·rcases h.lst x.1.toNat (by omega) with m|⟨i,hi,m⟩
  ·omega
  ·obtain⟨f,v⟩:=abN.1 m;have o:=acH.1 hs.inc i k f g hi;rw[v,a] at o;exact o (by dsimp only;omega)
 ·have:=Ac b.zu (bT l) d (by rw[t,e]);rw[this];exact q
theorem Z2.asks{c:Cfg}{s:CSt}{st:Nat}{u:List Int}{x:Int×Int}(hp:zH c s)(h:Z2 s st u x):pA c x.1 x.2:=by have hw:=h.who;have a:=hp.port x.1.toNat (by omega);have hm:=bT h.at1;have d:((aL s x.1.toNat).out.getD (bP (isC x.2) (aL s x.1.toNat).out).toNat default).n=x.2:=of_decide_eq_true (TK h.at0).2;obtain⟨_,b,_⟩:=a.out _ hm;rw[d] at b;have:=a.asks (n:=x.2) (by omega) b.1 (by omega);rwa [show ((x.1.toNat:Nat):Int)=x.1 by omega] at this
theorem W2.end{s:CSt}{V:List (Int×Int)}{u:List Int}(h:W2 s st V V.length u):(V.Pairwise fun a b=>a.1=b.1->a.2<b.2)/\ ∀x∈V,(0<=x.1/\x.1<=2)/\ ∃j∈(aL s x.1.toNat).out,j.n=x.2/\j.left=st:=by
 refine⟨acH.2 fun i j hi d c he=> ?_,fun x e=> ?_⟩;·exact h.inc i j _ _ c d (abO hi) (abO d) he
 ·obtain⟨i,hi,rfl⟩:=ab6.1 e;obtain⟨f,_,g⟩:=h.all i _ hi (abO hi);exact⟨f,g⟩
end Go.AM
namespace Go.Proofs.YtlncecohbakleaaGreat
open Go Go.AM
attribute [local irreducible] aJ wv aC vd wvH
theorem rN:bR afA cT Tryz.f282 gE rG:=bR.mk Tryz.func282 (by kernel_rfl) G7
section
variable{H:aA}{nx:Nat}{K:afC}
theorem d8{s:CSt}{st who:Nat}{w n:Int}{u:List Int}{i0 i1 d:Nat}(k:w=who)(hu:u.length=3)(hw:who<3)(G:u.getD who default<n)(t:s.bC.length=3)(e:(aL s who).out.length<2^40)
 (o:0<=bP (isC n) (aL s who).out) (f:(bP (isC n) (aL s who).out).toNat<(aL s who).out.length) (b:((aL s who).out.getD (bP (isC n) (aL s who).out).toNat default).left=st)
 (x:i0<nx/\i1<nx/\d<nx) (y:[i0,i1,d].Nodup) (z:H i0=some ⟨3,1,[u.map cI]⟩) (A:H i1=some ⟨5,1,[bK s]⟩) (B:H d=some ⟨1,1,[[cI st]]⟩)
 (h: ∀H' nx',nx<=nx'->H' i0=some ⟨3,1,[(u.set who n).map cI]⟩->(∀id,id<nx->id≠i0->H' id=H id)->K (dB true) H' nx'):
 afB cT [dI w,dI n,.one (.c (.ptr 3 i0 0 0)),.one (.c (.ptr 5 i1 0 0)),.one (.c (.ptr 1 d 0 0))] H nx K:=by
 subst k
 refine rN rfl fun Q C=> ?_
 unfold gE
 have q:aO nx [i0,i1,d]:=AM.apart y (by simp;omega)
 simp only[aO,bG] at q
 obtain⟨p,g⟩: ∃p,p=aL s who:=⟨_,rfl⟩
 have i:s.bC.getD who default=p:=g.symm
 rw[<-g] at e o f b
 obtain⟨a,r⟩: ∃a,a=bP (isC n) p.out:=⟨_,rfl⟩
 have l:((u.map cI).drop who).take 1=[cI (u.getD who default)]:=by rw[acR (by simp;omega)];simp[List.getD,show who<u.length by omega]
 have j:(u.map cI).length=3:=by rw[abT,hu]
 have hle:(who+1<=3)=True:=eq_true (by omega)
 have m: ∀{H:aA} {nx:Nat} {K:afC},K (dI a) H nx->afB nF [dA (dD p),dI n] H nx K:=fun h=>JH (p:=p) e (aF rfl) (by rw[<-r];exact h)
 rw[<-r] at o f b
 repeat' first| (first|apply vI|apply Y4 (by omega)|apply Y5 (by omega)|apply dE|apply m)<;>(simp only[go_sem,abH,abI,adF,z,A,B,l,j,hle,i,b,q])|apply vF (by omega)|refine⟨by omega,?_⟩|fail
 have E:List.take who (List.map cI u)++[D1.v (.int .i64 n)]++List.drop (who+1) (List.map cI u)=(u.set who n).map cI:=by rw[acY,aeU,if_pos (by simp;omega),abY];rfl
 rw[E]
 exact C _ _ _ _ _ (.inr rfl) rfl (h _ _ (by omega) aA.aI fun id I F=>aA.aB F)
end
section
variable{H:aA}{nx:Nat}{K:afC}
theorem LC(c:Cfg)(who:Nat)(p:eT)(hb:bH c)(hw:who<3)(bb:p.queue.length<2^21)(bh:p.out.length<2^21):afB lF [dA (bI c),dI who,dA (dD p)] .nil 0 fun r _ _=>r.plain=true/\r=dB (ptB c who p):=by
 refine bR.mk Tryz.func196 (by kernel_rfl) LG rfl fun Q x=> ?_;unfold kV;obtain⟨y,Z⟩:=eW hb;have aa:=Z who;have bk:=hb.1.1;by_cases h0:(0<=p.next/\p.next<=(c.cN.getD who default).length)/\((p.queue.length:Int)<=2/\(p.queue.length:Int)<=p.next)/\(p.out.length:Int)<=4/\0<=p.last/\p.last<=3
 case neg=>
  have a: ¬iA c who p:=fun h=>h0 ⟨h.next,by have:=h.ql;omega,by have:=h.ol;omega,h.last⟩;repeat' first| (first|apply vI|refine Y6 (fun h=> ?_) fun h=> ?_|apply cV)<;>(simp only[go_sem])|apply vT (by omega)|refine⟨by omega,?_⟩|fail
  all_goals first|exact x _ _ _ _ _ (.inr rfl) rfl ⟨rfl,congrArg dB (TN a).symm⟩| (exfalso;omega)
 obtain⟨⟨P,R⟩,⟨bp,br⟩,bw,S,T⟩:=h0;have ab:=decide_eq_true (show 0<=p.next/\p.next<=(c.cN.getD who default).length from ⟨P,R⟩);have ad:=decide_eq_true (show 0<=p.last/\p.last<=3 from ⟨S,T⟩);repeat' first| (first|apply vI|apply Y5 (by omega)|apply cV)<;>(simp only[go_sem,ab,ad];try simp (disch:=omega) only[Iw])|refine⟨by omega,?_⟩|fail
 refine aJ.Gn fun G0 z=> ?_;have c0:G0 0=some ⟨3,1,[bI c]⟩:=by rw[z];rfl
 have c1:G0 1=some ⟨4,1,[dD p]⟩:=by rw[z];rfl
 clear z
 refine aJ.cG (β:=Nat) (fun k=>en [(57,dI k),(56,dI p.queue.length),(55,dS (p.queue.map aH)),(7,dI (p.next-p.queue.length)),(5,.one (.c (.ptr 4 1 0 0))),(3,.one (.c (.ptr 3 0 0 0))),(1,dI who)])
  (fun k H1 _=>k<=p.queue.length/\(∀i,i<k->p.queue.getD i default=p.next-p.queue.length+i)/\ ∀id,id<45->H1 id=G0 id) (fun k=>p.queue.length-k) 0 ⟨noF,_,by repeat' first|exact C1|refine xqI rfl rfl ?_|refine xqP (by omega) rfl rfl ?_|fail,aE,by omega,fun i hi=>by omega,fun _ _=>rfl⟩ ?_
 rintro k H1 b ca ⟨hk,A,B⟩ KL ah;have g0:H1 0=some ⟨3,1,[bI c]⟩:=by rw[B _ (by omega)];exact c0
 have g1:H1 1=some ⟨4,1,[dD p]⟩:=by rw[B _ (by omega)];exact c1
 have hA:aO b [0,1]:=AM.apart (by simp) (by simp;omega);simp only[aO,bG] at hA;by_cases o:k<p.queue.length
 ·by_cases U:p.queue.getD k default=p.next-p.queue.length+k
  ·repeat' first|apply vI<;>(simp only[go_sem];try simp (disch:=omega) only[Iw])|apply vT (by omega)|apply vF (by omega)|refine⟨by omega,?_⟩|fail
   exact ah _ _ _ (k+1) noF _ (by omega) (by omega) (by repeat' first|exact C1|refine xqI rfl rfl ?_|refine xqP (by omega) rfl rfl ?_|fail) aE ⟨by omega,bL A U,B⟩
  ·repeat' first|apply vI<;>(simp only[go_sem];try simp (disch:=omega) only[Iw])|apply vT (by omega)|refine⟨by omega,?_⟩|fail
   exact x _ _ _ _ _ (.inr rfl) rfl ⟨rfl,congrArg dB (TN fun h=>U (h.queue k o)).symm⟩
 ·have d:k=p.queue.length:=by omega
  rw[d] at A;repeat' first|apply vI<;>(simp only[go_sem,abH,abI,g0,g1,hA])|apply vF (by omega)|fail
  have C: ∀{H:aA} {F:Nat->Prop} {nh:Nat},b+8<=nh->Cv1 H F id nh (.omap (b+2)) (.omap (b+2)):=fun h=>.omap _ (by omega)
  refine aJ.cG (β:=Nat×Int×List (List Int×Int)) (fun u=>en [(72,dI u.1),(71,dI p.out.length),(70,dS (p.out.map eCJ)),(11,.one (.c (.omap (b+2)))),(10,dI u.2.1),(7,dI (p.next-p.queue.length)),(3,.one (.c (.ptr 3 0 0 0))),(1,dI who)])
   (fun u H2 _=>u.1<=p.out.length/\H2 0=some ⟨3,1,[bI c]⟩/\H2 (b+2)=some (BN ⟨0,false,u.2.2⟩)/\zk c who p u.1 u.2.1 u.2.2) (fun u=>p.out.length-u.1) (0,-1,[])
   ⟨noF,_,by(repeat' first|exact C1|refine xqI rfl rfl ?_|refine xqP (by omega) rfl rfl ?_| (with_reducible apply C2)| ((with_reducible apply C0);exact CR (by omega) rfl)| ((with_reducible apply D0);apply CJ)|fail);all_goals exact C (by omega),aE,by dsimp only;omega,by rw[aA.aB (by omega)];exact g0,aA.aI,⟨fun i hi=>by dsimp only at hi;omega,fun i j _ hj=>by dsimp only at hj;omega,.inl ⟨rfl,rfl⟩,fun i hi=>by dsimp only at hi;omega,fun i v D=>by simp[jX] at D⟩⟩ ?_
  rintro⟨k,last,M⟩ H2 ao aw ⟨hk,w,E,G⟩ KM V;dsimp only at hk E G;have e:aO ao [0,b+2]:=AM.apart (by simp) (by simp;omega);simp only[aO,bG] at e;by_cases o:k<p.out.length
  ·have cc: -1<=last/\last<=1000:=by
    rcases G.lst with⟨_,h⟩|⟨h0,h⟩
    ·omega
    ·have:=(G.all (k-1) (by omega)).2.1;omega
   have a: ¬(LX c who p (p.out.getD k default)/\last<(p.out.getD k default).n/\ ∀v,jX M [(bQ c who (p.out.getD k default).n).id]=some v->v=(p.out.getD k default).left)->¬iA c who p:=fun h hp=>h (G.bad o hp)
   have m:=fun j hj=>G.next o (j:=j) hj
   generalize f:p.out.getD k default=j at a m
   by_cases q:j.who=who
   case neg=>
    have I:(j.who=(who:Int))=False:=eq_false q;repeat' first|apply vI<;>(simp only[go_sem,abH,abI,f,I,w,E,e])|apply vT (by omega)|refine⟨by omega,?_⟩|fail
    all_goals exact x _ _ _ _ _ (.inr rfl) rfl ⟨rfl,congrArg dB (TN (a fun h=>q h.1.1)).symm⟩
   have I:(j.who=(who:Int))=True:=eq_true q
   by_cases J:last+1<=j.n/\j.n<=p.next-p.queue.length-1
   case neg=>
    have g:=decide_eq_false J;repeat' first| (first|apply vI|apply cV)<;>(simp only[go_sem,abH,abI,f,I,g,w,E,e];try simp (disch:=omega) only[Iw])|apply vT (by omega)|refine⟨by omega,?_⟩|fail
    all_goals exact x _ _ _ _ _ (.inr rfl) rfl ⟨rfl,congrArg dB (TN (a fun h=>J (by have h1:=h.1.2.1;have h2:=h.2.1;omega))).symm⟩
   have g:=decide_eq_true J
   have W:pA c who j.n:=⟨by omega,by omega,by rw[Int.toNat_natCast];omega⟩
   obtain⟨K,d,L⟩:=W
   have s:iV c.map (List.getD (c.cN.getD who default) j.n.toNat default)=iV c.map (bQ c who j.n):=rfl
   by_cases t:j.left=iV c.map (bQ c who j.n)
   case neg=>
    have X:(j.left=iV c.map (bQ c who j.n))=False:=eq_false t;repeat' first| (first|apply vI|apply cV|apply uK (by omega))<;>(simp only[go_sem,abH,abI,f,I,g,s,X,w,E,e];try simp (disch:=omega) only[Iw])|apply vT (by omega)|refine⟨by omega,?_⟩|fail
    all_goals exact x _ _ _ _ _ (.inr rfl) rfl ⟨rfl,congrArg dB (TN (a fun h=>t h.1.2.2)).symm⟩
   have X:(j.left=iV c.map (bQ c who j.n))=True:=eq_true t
   have Y:LX c who p j:=⟨q,by omega,t⟩
   cases l:jX M [(bQ c who j.n).id] with
   |none=>
    have N:=m j rfl Y (by omega) fun v D=>by rw[l] at D;cases D
    repeat' first| (first|apply vI|apply cV|apply uK (by omega)|refine gU y ⟨K,d,L⟩ ?_)<;>(simp only[go_sem,abH,abI,f,I,g,s,X,w,E,e,l,Option.isSome,Option.getD];try simp (disch:=omega) only[Iw])|apply vT (by omega)|refine⟨by omega,?_⟩|fail
    exact V _ _ _ (k+1,j.n,A8 M [(bQ c who j.n).id] j.left) noF _ (by omega) (by dsimp only;omega) (by(repeat' first|exact C1|refine xqI rfl rfl ?_|refine xqP (by omega) rfl rfl ?_| (with_reducible apply C2)| ((with_reducible apply C0);exact CR (by omega) rfl)| ((with_reducible apply D0);apply CJ)|fail);all_goals exact C (by omega)) aE ⟨by dsimp only;omega,by rw[aA.aB (by omega),aA.aB (by omega)];exact w,aA.aI,N⟩
   |some v=>
    by_cases O:v=j.left
    case neg=>
     have e4:(v=j.left)=False:=eq_false O;repeat' first| (first|apply vI|apply cV|apply uK (by omega)|refine gU y ⟨K,d,L⟩ ?_)<;>(simp only[go_sem,abH,abI,f,I,g,s,X,e4,w,E,e,l,Option.isSome,Option.getD];try simp (disch:=omega) only[Iw])|apply vT (by omega)|refine⟨by omega,?_⟩|fail
     all_goals exact x _ _ _ _ _ (.inr rfl) rfl ⟨rfl,congrArg dB (TN (a fun h=>O (h.2.2 _ l))).symm⟩
    subst O;have N:=m j rfl Y (by omega) fun v D=>by rw[l] at D;exact(Option.some.inj D).symm
    repeat' first| (first|apply vI|apply cV|apply uK (by omega)|refine gU y ⟨K,d,L⟩ ?_)<;>(simp only[go_sem,abH,abI,f,I,g,s,X,w,E,e,l,Option.isSome,Option.getD];try simp (disch:=omega) only[Iw])|apply vT (by omega)|refine⟨by omega,?_⟩|fail
    exact V _ _ _ (k+1,j.n,A8 M [(bQ c who j.n).id] j.left) noF _ (by omega) (by dsimp only;omega) (by(repeat' first|exact C1|refine xqI rfl rfl ?_|refine xqP (by omega) rfl rfl ?_| (with_reducible apply C2)| ((with_reducible apply C0);exact CR (by omega) rfl)| ((with_reducible apply D0);apply CJ)|fail);all_goals exact C (by omega)) aE ⟨by dsimp only;omega,by rw[aA.aB (by omega),aA.aB (by omega)];exact w,aA.aI,N⟩
  ·repeat' first|apply vI<;>(simp only[go_sem])|apply vF (by omega)|fail
   have d:k=p.out.length:=(by omega);rw[d] at G;obtain⟨q1,q2,q3⟩:=G.end;exact x _ _ _ _ _ (.inr rfl) rfl ⟨rfl,congrArg dB (Fu ⟨⟨P,R⟩,by omega,by omega,⟨S,T⟩,A,q1,q2,q3⟩).symm⟩
theorem yB{c:Cfg}{who:Nat}{p:eT}(d:bH c)(hw:who<3)(a:p.queue.length<2^21)(b:p.out.length<2^21)(h:K (dB (ptB c who p)) H nx):afB lF [dA (bI c),dI who,dA (dD p)] H nx K:=(LC c who p d hw a b).pure rfl (aK ⟨aF rfl,aF rfl,aF rfl,trivial⟩) fun r hr=>hr▸h
theorem rM{c:Cfg}{s:CSt}{st:Nat}{w n:Int}{u:List Int}{i0 i1 l:Nat}(hp:zH c s)(hu:u.length=3)(A: ¬Z2 s st u (w,n))
 (G:i0<nx/\i1<nx/\l<nx) (I:[i0,i1,l].Nodup) (v:H i0=some ⟨3,1,[u.map cI]⟩) (x:H i1=some ⟨5,1,[bK s]⟩) (y:H l=some ⟨1,1,[[cI st]]⟩)
 (h: ∀H' nx',nx<=nx'->K (dB false) H' nx'):
 afB cT [dI w,dI n,.one (.c (.ptr 3 i0 0 0)),.one (.c (.ptr 5 i1 0 0)),.one (.c (.ptr 1 l 0 0))] H nx K:=by
 refine rN rfl fun Q z=> ?_
 unfold gE
 have m:aO nx [i0,i1,l]:=AM.apart I (by simp;omega)
 simp only[aO,bG] at m
 by_cases hw:0<=w/\w<=2
 case neg=>
  have b:=decide_eq_false hw;repeat' first| (first|apply vI|apply dE)<;>(simp only[go_sem,abH,abI,adF,v,x,y,b,m])|fail
  all_goals first|exact z _ _ _ _ _ (.inr rfl) rfl (h _ _ (by omega))| (exfalso;omega)
 have b:=decide_eq_true hw
 obtain⟨who,rfl⟩: ∃who:Nat,w=who:=⟨w.toNat,by omega⟩
 have B:who<3:=by omega
 obtain⟨p,d⟩: ∃p,p=aL s who:=⟨_,rfl⟩
 have i:s.bC.getD who default=p:=d.symm
 have J:=hp.pl
 have C:=(hp.port who B).ol
 rw[<-d] at C
 have j:((u.map cI).drop who).take 1=[cI (u.getD who default)]:=by rw[acR (by simp;omega)];simp[List.getD,show who<u.length by omega]
 have e:(u.map cI).length=3:=by rw[abT,hu]
 have hle:(who+1<=3)=True:=eq_true (by omega)
 by_cases L:u.getD who default<n
 case neg=>
  have g:(n<=u.getD who default)=True:=eq_true (by omega);repeat' first| (first|apply vI|apply dE)<;>(simp only[go_sem,abH,abI,adF,v,x,y,j,e,hle,b,g,m])|refine⟨by omega,?_⟩|fail
  all_goals first|exact z _ _ _ _ _ (.inr rfl) rfl (h _ _ (by omega))| (exfalso;omega)
 have g:(n<=u.getD who default)=False:=eq_false (by omega)
 obtain⟨a,q⟩: ∃a,a=bP (isC n) p.out:=⟨_,rfl⟩
 have r: ∀{H:aA} {nx:Nat} {K:afC},K (dI a) H nx->afB nF [dA (dD p),dI n] H nx K:=fun h=>JH (p:=p) (by omega) (aF rfl) (by rw[<-q];exact h)
 by_cases f:0<=a
 case neg=>
  have k:(0<=a)=False:=eq_false f;repeat' first| (first|apply vI|apply dE|apply r)<;>(simp only[go_sem,abH,abI,adF,v,x,y,j,e,hle,i,b,g,k,m])|refine⟨by omega,?_⟩|fail
  all_goals first|exact z _ _ _ _ _ (.inr rfl) rfl (h _ _ (by omega))| (exfalso;omega)
 have k:(0<=a)=True:=eq_true f
 have E:a.toNat<p.out.length:=by rw[q] at f ⊢;exact(TK f).1
 obtain⟨o,F⟩: ∃o,p.out.getD a.toNat default=o:=⟨_,rfl⟩
 have t:(o.left=(st:Int))=False:=eq_false fun he=>A ⟨hw,by rw[Int.toNat_natCast];exact L,by rw[Int.toNat_natCast,<-d,<-q];exact f,by rw[Int.toNat_natCast,<-d,<-q];exact E,by rw[Int.toNat_natCast,<-d,<-q,F];exact he⟩
 repeat' first| (first|apply vI|apply dE|apply r)<;>(simp only[go_sem,abH,abI,adF,v,x,y,j,e,hle,i,b,g,k,F,t,m])|refine⟨by omega,?_⟩|fail
 all_goals first|exact z _ _ _ _ _ (.inr rfl) rfl (h _ _ (by omega))| (exfalso;omega)
def ou(c:Cfg)(st i:Nat)(d:gD):Prop:=(0<=d.left/\d.left<=c.lat.getD st default)/\(0<i->d.left=c.lat.getD st default)
theorem JF(c:Cfg)(s:CSt)(st:Nat)(hb:bH c)(hp:zH c s)(ds:s.bN.length=4)(cf:st<4)(ck:(aS s st).pipe.length<2^21)(cl:(aS s st).done.length<2^21)(bp: ∀j∈(aS s st).done,j.rsp.data.length<2^21):
 afB kQ [dA (bI c),dA (bK s),dI st] .nil 0 fun r _ _=>r.plain=true/\r=dB (slB c s st):=by
 refine bR.mk Tryz.func197 (by kernel_rfl) JM rfl fun Q hQ=> ?_
 unfold j8
 obtain⟨v,g⟩: ∃v,v=aS s st:=⟨_,rfl⟩
 have aa:s.bN.getD st default=v:=g.symm
 rw[<-g] at ck cl bp
 by_cases h0:(v.pipe.length:Int)<=2/\(v.done.length:Int)<=2/\0<=v.last/\v.last<=2
 case neg=>
  have cp: ¬pE c s st:=fun h=>h0 ⟨by have:=h.pl;rw[<-g] at this;omega,by have:=h.dl;rw[<-g] at this;omega,by have:=h.last;rw[<-g] at this;omega⟩;repeat' first| (first|apply vI|refine Y6 (fun h=> ?_) fun h=> ?_|apply dE)<;>(simp only[go_sem,aa])|apply vT (by omega)|refine⟨by omega,?_⟩|fail
  all_goals first|exact hQ _ _ _ _ _ (.inr rfl) rfl ⟨rfl,congrArg dB (PK cp).symm⟩| (exfalso;omega)
 obtain⟨dv,T,br,bw⟩:=h0
 have cq:=decide_eq_true (show 0<=v.last/\v.last<=2 from ⟨br,bw⟩)
 repeat' first| (first|apply vI|apply Y5 (by omega)|apply dE)<;>(simp only[go_sem,aa,cq])|refine⟨by omega,?_⟩|fail
 refine aJ.Gn fun X U=> ?_
 have c0:X 0=some ⟨3,1,[bI c]⟩:=by rw[U];rfl
 have c1:X 1=some ⟨5,1,[bK s]⟩:=by rw[U];rfl
 have c2:X 2=some ⟨1,1,[[cI st]]⟩:=by rw[U];rfl
 have c9:X 9=some ⟨3,1,[i6 v]⟩:=by rw[U];rfl
 have cr:X 28=some ⟨3,1,[([-1,-1,-1]:List Int).map cI]⟩:=by rw[U];rfl
 clear U
 have ca:=(eW hb).1
 have cc:=hb.2.1
 have ct:=UO hb cf
 have hV: ∀k,k<v.done.length->(gM (aS s st))[k]?=some (key (v.done.getD k default)):=fun k hk=>by rw[<-g];unfold gM;rw[adC (by simpa using hk)];simp[List.getD,hk]
 have cw: ∀k,k<v.pipe.length->(gM (aS s st))[v.done.length+k]?=some ((v.pipe.getD k default).who,(v.pipe.getD k default).n):=fun k hk=>by rw[<-g];unfold gM;rw[adM (by simp)];simp[List.getD,hk]
 have cx:(gM (aS s st)).length=v.done.length+v.pipe.length:=by rw[<-g];simp[gM]
 have J: ∀{H:aA} {F:Nat->Prop} {nh:Nat},36<=nh->Cv1 H F id nh (.clo cT [.ptr 3 28 0 0,.ptr 5 1 0 0,.ptr 1 2 0 0]) (.clo cT [.ptr 3 28 0 0,.ptr 5 1 0 0,.ptr 1 2 0 0]):=fun h=>Mb fun x hx=>by
  simp only[abQ,acG,or_false] at hx;rcases hx with rfl|rfl|rfl;·exact⟨_,_,_,_,by omega,rfl⟩
  ·exact⟨_,_,_,_,by omega,rfl⟩
  ·exact⟨_,_,_,_,by omega,rfl⟩
 have t:=hp.pl
 refine aJ.cG (β:=Nat×List Int) (fun u=>en [(40,dI u.1),(39,dI v.done.length),(38,dS (v.done.map aT)),(9,.one (.c (.clo cT [.ptr 3 28 0 0,.ptr 5 1 0 0,.ptr 1 2 0 0]))),(7,.one (.c (.ptr 3 9 0 0))),(5,.one (.c (.ptr 1 2 0 0))),(3,.one (.c (.ptr 3 0 0 0)))])
  (fun u H1 _=>u.1<=v.done.length/\W2 s st (gM (aS s st)) u.1 u.2/\(∀i,i<u.1->vB c (v.done.getD i default))/\H1 28=some ⟨3,1,[u.2.map cI]⟩/\ ∀id,id<36->id≠28->H1 id=X id) (fun u=>v.done.length-u.1) (0,[-1,-1,-1])
  ⟨noF,_,by(repeat' first|exact C1|refine xqI rfl rfl ?_|refine xqP (by omega) rfl rfl ?_| (with_reducible apply C2)| ((with_reducible apply D0);apply CJ)|fail);all_goals exact J (by omega),aE,by dsimp only;omega,W2.nil,fun i hi=>by dsimp only at hi;omega,cr,fun _ _ _=>rfl⟩ ?_
 rintro⟨k,u⟩ H1 N dx ⟨hk,O,hR,b,m⟩ KL cy
 dsimp only at hk O hR b
 have R:H1 0=some ⟨3,1,[bI c]⟩:=by rw[m _ (by omega) (by omega)];exact c0
 have E:H1 1=some ⟨5,1,[bK s]⟩:=by rw[m _ (by omega) (by omega)];exact c1
 have G:H1 2=some ⟨1,1,[[cI st]]⟩:=by rw[m _ (by omega) (by omega)];exact c2
 have g9:H1 9=some ⟨3,1,[i6 v]⟩:=by rw[m _ (by omega) (by omega)];exact c9
 have a:aO N [0,1,2,9,28]:=AM.apart (by simp) (by simp;omega)
 simp only[aO,bG] at a
 have y:=O.ul
 by_cases V:k<v.done.length
 ·obtain⟨d,l⟩: ∃d,d=v.done.getD k default:=⟨_,rfl⟩
  have aw:d∈(aS s st).done:=by rw[l,<-g];exact bT V
  have hx:=hV k V;rw[<-l] at hx;have bb:d.rsp.data.length<2^40:=by have h1:=bp d (by rw[g];exact aw);omega
  by_cases hF:Z2 s st u (key d)
  case neg=>
   repeat' first| (first|apply vI| (refine rM (c:=c) (w:=d.who) (n:=d.n) hp y hF (by omega) (by simp) (by simp only[aA.set,a,if_false];exact b) (by simp only[aA.set,a,if_false];exact E) (by simp only[aA.set,a,if_false];exact G) (fun H' nx' K=> ?_)))<;>(simp only[go_sem,abH,abI,l.symm,R,E,G,b,a])|apply vT (by omega)|refine⟨by omega,?_⟩|fail
   repeat' first|apply vI<;>(simp only[go_sem])|fail
   all_goals exact hQ _ _ _ _ _ (.inr rfl) rfl ⟨rfl,congrArg dB (PK fun h=>hF (O.bad hp h hx)).symm⟩
  have W:=O.next hx hF;have Z:=hF.asks hp;obtain⟨bh,Y,A,B,C⟩:=hF;dsimp only[key] at bh Y A B C W Z;have L:d.who=(d.who.toNat:Int):=by omega
  have D:d.who.toNat<3:=by omega
  have M:(aL s d.who.toNat).out.length<2^40:=by have:=(hp.port _ D).ol;omega
  by_cases ah:jU d.rsp
  case neg=>
   have P:=decide_eq_false ah;repeat' first| (first|apply vI| (refine d8 (w:=d.who) (n:=d.n) L y D Y t M A B C (by omega) (by simp) (by simp only[aA.set,a,if_false];exact b) (by simp only[aA.set,a,if_false];exact E) (by simp only[aA.set,a,if_false];exact G) (fun H' nx' K f28 f=> ?_)))<;>(simp only[go_sem,abH,abI,l.symm,R,E,G,b,a])|apply vT (by omega)|refine⟨by omega,?_⟩|fail
   have o:H' 0=some ⟨3,1,[bI c]⟩:=(by rw[f _ (by omega) (by omega)];simp only[aA.set,a,if_false];exact R);have I:H' (N+3)=some ⟨5,1,[aT d]⟩:=(by rw[f _ (by omega) (by omega)];exact aA.aI);have z:aO nx' [0,1,2,9,28,N+3]:=AM.apart (by simp;omega) (by simp;omega);simp only[aO,bG] at z;simp only[go_sem,abH,abI,o,I,P,z];repeat' first| (first|apply vI|apply rQ bb)<;>(simp only[go_sem,abH,abI,o,I,P,z])|fail
   all_goals exact hQ _ _ _ _ _ (.inr rfl) rfl ⟨rfl,congrArg dB (PK fun h=>ah (h.rsp d aw).1).symm⟩
  have P:=decide_eq_true ah;by_cases ao:d.rsp.id=(bQ c d.who d.n).id
  case neg=>
   have da:(d.rsp.id=(bQ c d.who d.n).id)=False:=eq_false ao;repeat' first| (first|apply vI| (refine d8 (w:=d.who) (n:=d.n) L y D Y t M A B C (by omega) (by simp) (by simp only[aA.set,a,if_false];exact b) (by simp only[aA.set,a,if_false];exact E) (by simp only[aA.set,a,if_false];exact G) (fun H' nx' K f28 f=> ?_)))<;>(simp only[go_sem,abH,abI,l.symm,R,E,G,b,a])|apply vT (by omega)|refine⟨by omega,?_⟩|fail
   have o:H' 0=some ⟨3,1,[bI c]⟩:=(by rw[f _ (by omega) (by omega)];simp only[aA.set,a,if_false];exact R);have I:H' (N+3)=some ⟨5,1,[aT d]⟩:=(by rw[f _ (by omega) (by omega)];exact aA.aI);have z:aO nx' [0,1,2,9,28,N+3]:=AM.apart (by simp;omega) (by simp;omega);simp only[aO,bG] at z;simp only[go_sem,abH,abI,o,I,P,z];repeat' first| (first|apply vI|apply rQ bb|apply gU ca Z)<;>(simp only[go_sem,abH,abI,o,I,P,da,z])|fail
   all_goals exact hQ _ _ _ _ _ (.inr rfl) rfl ⟨rfl,congrArg dB (PK fun h=>ao (h.rsp d aw).2).symm⟩
  repeat' first| (first|apply vI| (refine d8 (w:=d.who) (n:=d.n) L y D Y t M A B C (by omega) (by simp) (by simp only[aA.set,a,if_false];exact b) (by simp only[aA.set,a,if_false];exact E) (by simp only[aA.set,a,if_false];exact G) (fun H' nx' K f28 f=> ?_)))<;>(simp only[go_sem,abH,abI,l.symm,R,E,G,b,a])|apply vT (by omega)|refine⟨by omega,?_⟩|fail
  have o:H' 0=some ⟨3,1,[bI c]⟩:=by rw[f _ (by omega) (by omega)];simp only[aA.set,a,if_false];exact R
  have I:H' (N+3)=some ⟨5,1,[aT d]⟩:=by rw[f _ (by omega) (by omega)];exact aA.aI
  have e: ∀id,id<36->id≠28->H' id=X id:=fun id o S=>by rw[f id (by omega) S,aA.aB (by omega)];exact m id o S
  have z:aO nx' [0,1,2,9,28,N+3]:=AM.apart (by simp;omega) (by simp;omega);simp only[aO,bG] at z;simp only[go_sem,abH,abI,o,I,P,z];repeat' first| (first|apply vI|apply rQ bb|apply gU ca Z)<;>(simp only[go_sem,abH,abI,o,I,P,ao,z];try simp (disch:=omega) only[Iw])|fail
  exact cy _ _ _ (k+1,u.set d.who.toNat d.n) noF _ (by omega) (by dsimp only;omega) (by(repeat' first|exact C1|refine xqI rfl rfl ?_|refine xqP (by omega) rfl rfl ?_| (with_reducible apply C2)| ((with_reducible apply D0);apply CJ)|fail);all_goals exact J (by omega)) aE ⟨by dsimp only;omega,W,bL hR (by rw[<-l];exact⟨ah,ao⟩),f28,e⟩
 ·repeat' first|apply vI<;>(simp only[go_sem,g9])|apply vF (by omega)|fail
  have dc:k=v.done.length:=by omega
  rw[dc] at O hR;clear V hk
  refine aJ.cG (β:=Nat×List Int) (fun u=>en [(73,dI u.1),(72,dI v.pipe.length),(71,dS (v.pipe.map eCJ)),(9,.one (.c (.clo cT [.ptr 3 28 0 0,.ptr 5 1 0 0,.ptr 1 2 0 0]))),(5,.one (.c (.ptr 1 2 0 0))),(3,.one (.c (.ptr 3 0 0 0)))])
   (fun u H1 _=>u.1<=v.pipe.length/\W2 s st (gM (aS s st)) (v.done.length+u.1) u.2/\(∀i,i<u.1->ou c st i (v.pipe.getD i default))/\H1 28=some ⟨3,1,[u.2.map cI]⟩/\ ∀id,id<36->id≠28->H1 id=X id) (fun u=>v.pipe.length-u.1) (0,u)
   ⟨noF,_,by(repeat' first|exact C1|refine xqI rfl rfl ?_|refine xqP (by omega) rfl rfl ?_| (with_reducible apply C2)| ((with_reducible apply D0);apply CJ)|fail);all_goals exact J (by omega),aE,by dsimp only;omega,O,fun i hi=>by dsimp only at hi;omega,b,m⟩ ?_
  clear O b m R E G g9 a y;rintro⟨k,u⟩ H2 ab df ⟨hk,O,hL,b,m⟩ KM cd;dsimp only at hk O hL b;have R:H2 0=some ⟨3,1,[bI c]⟩:=by rw[m _ (by omega) (by omega)];exact c0
  have E:H2 1=some ⟨5,1,[bK s]⟩:=by rw[m _ (by omega) (by omega)];exact c1
  have G:H2 2=some ⟨1,1,[[cI st]]⟩:=by rw[m _ (by omega) (by omega)];exact c2
  have a:aO ab [0,1,2,9,28]:=AM.apart (by simp) (by simp;omega);simp only[aO,bG] at a;have y:=O.ul;by_cases V:k<v.pipe.length
  ·obtain⟨d,l⟩: ∃d,d=v.pipe.getD k default:=⟨_,rfl⟩
   have hx:=cw k V;rw[<-l] at hx;by_cases hF:Z2 s st u (d.who,d.n)
   case neg=>
    repeat' first| (first|apply vI| (refine rM (c:=c) (w:=d.who) (n:=d.n) hp y hF (by omega) (by simp) (by simp only[aA.set,a,if_false];exact b) (by simp only[aA.set,a,if_false];exact E) (by simp only[aA.set,a,if_false];exact G) (fun H' nx' K=> ?_)))<;>(simp only[go_sem,abH,abI,l.symm,R,E,G,b,a])|apply vT (by omega)|refine⟨by omega,?_⟩|fail
    repeat' first|apply vI<;>(simp only[go_sem])|fail
    all_goals exact hQ _ _ _ _ _ (.inr rfl) rfl ⟨rfl,congrArg dB (PK fun h=>hF (O.bad hp h hx)).symm⟩
   have W:=O.next hx hF;obtain⟨bh,Y,A,B,C⟩:=hF;dsimp only at bh Y A B C W;have L:d.who=(d.who.toNat:Int):=(by omega);have D:d.who.toNat<3:=(by omega);have M:(aL s d.who.toNat).out.length<2^40:=by have:=(hp.port _ D).ol;omega
   have ad: ¬ou c st k d->¬pE c s st:=fun Y h=>Y (by
    have:=h.left k (by rw[<-g];exact V)
    rw[<-g,<-l] at this
    exact this)
   rcases ac3 k with h0|h0
   ·have p:((k:Int)=0)=True:=eq_true (by omega);have q:(0<(k:Int))=False:=eq_false (by omega);by_cases hl:0<=d.left/\d.left<=c.lat.getD st default
    ·have T:=decide_eq_true hl;repeat' first| (first|apply vI| (refine d8 (w:=d.who) (n:=d.n) L y D Y t M A B C (by omega) (by simp) (by simp only[aA.set,a,if_false];exact b) (by simp only[aA.set,a,if_false];exact E) (by simp only[aA.set,a,if_false];exact G) (fun H' nx' K f28 f=> ?_)))<;>(simp only[go_sem,abH,abI,l.symm,R,E,G,b,p,q,a])|apply vT (by omega)|refine⟨by omega,?_⟩|fail
     have e: ∀id,id<36->id≠28->H' id=X id:=fun id o S=>by rw[f id (by omega) S,aA.aB (by omega)];exact m id o S
     have o:H' 0=some ⟨3,1,[bI c]⟩:=(e _ (by omega) (by omega)).trans c0;have e2:H' 2=some ⟨1,1,[[cI st]]⟩:=(e _ (by omega) (by omega)).trans c2;have I:H' (ab+4)=some ⟨3,1,[eCJ d]⟩:=(by rw[f _ (by omega) (by omega)];exact aA.aI);simp only[go_sem,abH,abI,o,e2,I,T,p,q,a];repeat' first| (first|apply vI|apply cV)<;>(simp only[go_sem,abH,abI,o,e2,I,T,p,q,a];try simp (disch:=omega) only[Iw])|refine⟨by omega,?_⟩|fail
     all_goals exact cd _ _ _ (k+1,u.set d.who.toNat d.n) noF _ (by omega) (by dsimp only;omega) (by(repeat' first|exact C1|refine xqI rfl rfl ?_|refine xqP (by omega) rfl rfl ?_| (with_reducible apply C2)| ((with_reducible apply D0);apply CJ)|fail);all_goals exact J (by omega)) aE ⟨by dsimp only;omega,W,bL hL (by rw[<-l];exact⟨hl,fun h=>by omega⟩),f28,e⟩
    ·have T:=decide_eq_false hl;repeat' first| (first|apply vI| (refine d8 (w:=d.who) (n:=d.n) L y D Y t M A B C (by omega) (by simp) (by simp only[aA.set,a,if_false];exact b) (by simp only[aA.set,a,if_false];exact E) (by simp only[aA.set,a,if_false];exact G) (fun H' nx' K f28 f=> ?_)))<;>(simp only[go_sem,abH,abI,l.symm,R,E,G,b,p,q,a])|apply vT (by omega)|refine⟨by omega,?_⟩|fail
     have e: ∀id,id<36->id≠28->H' id=X id:=fun id o S=>by rw[f id (by omega) S,aA.aB (by omega)];exact m id o S
     have o:H' 0=some ⟨3,1,[bI c]⟩:=(e _ (by omega) (by omega)).trans c0;have e2:H' 2=some ⟨1,1,[[cI st]]⟩:=(e _ (by omega) (by omega)).trans c2;have I:H' (ab+4)=some ⟨3,1,[eCJ d]⟩:=(by rw[f _ (by omega) (by omega)];exact aA.aI);simp only[go_sem,abH,abI,o,e2,I,T,p,q,a];repeat' first| (first|apply vI|apply cV)<;>(simp only[go_sem,abH,abI,o,e2,I,T,p,q,a])|refine⟨by omega,?_⟩|fail
     all_goals exact hQ _ _ _ _ _ (.inr rfl) rfl ⟨rfl,congrArg dB (PK (ad fun h=>hl h.1)).symm⟩
   ·have p:((k:Int)=0)=False:=eq_false (by omega);have q:(0<(k:Int))=True:=eq_true (by omega);by_cases hl:d.left=c.lat.getD st default
    ·have bk:(d.left=c.lat.getD st default)=True:=eq_true hl;repeat' first| (first|apply vI| (refine d8 (w:=d.who) (n:=d.n) L y D Y t M A B C (by omega) (by simp) (by simp only[aA.set,a,if_false];exact b) (by simp only[aA.set,a,if_false];exact E) (by simp only[aA.set,a,if_false];exact G) (fun H' nx' K f28 f=> ?_)))<;>(simp only[go_sem,abH,abI,l.symm,R,E,G,b,p,q,a])|apply vT (by omega)|refine⟨by omega,?_⟩|fail
     have e: ∀id,id<36->id≠28->H' id=X id:=fun id o S=>by rw[f id (by omega) S,aA.aB (by omega)];exact m id o S
     have o:H' 0=some ⟨3,1,[bI c]⟩:=(e _ (by omega) (by omega)).trans c0;have e2:H' 2=some ⟨1,1,[[cI st]]⟩:=(e _ (by omega) (by omega)).trans c2;have I:H' (ab+4)=some ⟨3,1,[eCJ d]⟩:=(by rw[f _ (by omega) (by omega)];exact aA.aI);simp only[go_sem,abH,abI,o,e2,I,p,q,a];repeat' first|apply vI<;>(simp only[go_sem,abH,abI,o,e2,I,p,q,bk,a];try simp (disch:=omega) only[Iw])|refine⟨by omega,?_⟩|fail
     all_goals exact cd _ _ _ (k+1,u.set d.who.toNat d.n) noF _ (by omega) (by dsimp only;omega) (by(repeat' first|exact C1|refine xqI rfl rfl ?_|refine xqP (by omega) rfl rfl ?_| (with_reducible apply C2)| ((with_reducible apply D0);apply CJ)|fail);all_goals exact J (by omega)) aE ⟨by dsimp only;omega,W,bL hL (by rw[<-l];exact⟨by omega,fun _=>hl⟩),f28,e⟩
    ·have bk:(d.left=c.lat.getD st default)=False:=eq_false hl;repeat' first| (first|apply vI| (refine d8 (w:=d.who) (n:=d.n) L y D Y t M A B C (by omega) (by simp) (by simp only[aA.set,a,if_false];exact b) (by simp only[aA.set,a,if_false];exact E) (by simp only[aA.set,a,if_false];exact G) (fun H' nx' K f28 f=> ?_)))<;>(simp only[go_sem,abH,abI,l.symm,R,E,G,b,p,q,a])|apply vT (by omega)|refine⟨by omega,?_⟩|fail
     have e: ∀id,id<36->id≠28->H' id=X id:=fun id o S=>by rw[f id (by omega) S,aA.aB (by omega)];exact m id o S
     have o:H' 0=some ⟨3,1,[bI c]⟩:=(e _ (by omega) (by omega)).trans c0;have e2:H' 2=some ⟨1,1,[[cI st]]⟩:=(e _ (by omega) (by omega)).trans c2;have I:H' (ab+4)=some ⟨3,1,[eCJ d]⟩:=(by rw[f _ (by omega) (by omega)];exact aA.aI);simp only[go_sem,abH,abI,o,e2,I,p,q,a];repeat' first|apply vI<;>(simp only[go_sem,abH,abI,o,e2,I,p,q,bk,a])|refine⟨by omega,?_⟩|fail
     all_goals exact hQ _ _ _ _ _ (.inr rfl) rfl ⟨rfl,congrArg dB (PK (ad fun h=>hl (h.2 h0))).symm⟩
  ·repeat' first|apply vI<;>(simp only[go_sem])|apply vF (by omega)|fail
   have dh:k=v.pipe.length:=(by omega);rw[dh] at O hL;rw[<-cx] at O;obtain⟨q1,q2⟩:=O.end;refine hQ _ _ _ _ _ (.inr rfl) rfl ⟨rfl,congrArg dB (Gs ⟨?_,?_,?_,q1,q2,?_,?_⟩).symm⟩;·rw[<-g];omega
   ·rw[<-g];omega
   ·rw[<-g];exact⟨br,bw⟩
   ·rw[<-g];exact iK hR
   ·rw[<-g];exact hL
theorem uX{c:Cfg}{s:CSt}{st:Nat}(g:bH c)(hp:zH c s)(a:s.bN.length=4)(b:st<4)(d:(aS s st).pipe.length<2^21)(e:(aS s st).done.length<2^21)(f: ∀j∈(aS s st).done,j.rsp.data.length<2^21)(h:K (dB (slB c s st)) H nx):afB kQ [dA (bI c),dA (bK s),dI st] H nx K:=(JF c s st g hp a b d e f).pure rfl (aK ⟨aF rfl,aF rfl,aF rfl,trivial⟩) fun r hr=>hr▸h
end
end Go.Proofs.YtlncecohbakleaaGreat
