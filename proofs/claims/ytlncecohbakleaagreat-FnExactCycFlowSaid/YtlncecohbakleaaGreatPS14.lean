/- Texts laid together by a program: rules, contracts and the walk that leads to the law. -/
import Derived.Test.YtlncecohbakleaaGreatPS10
import Derived.Test.YtlncecohbakleaaGreatPS11
set_option linter.unusedVariables false
set_option linter.unusedSimpArgs false
set_option linter.unusedSectionVars false
set_option maxRecDepth 100000
set_option maxHeartbeats 8000000
namespace Go.AM
theorem aM.abC{P:Program}{T:Nat}{e:Env}{H:aA}{nx:Nat}{Q:AQ}{zs:List AC}(h: ∀G,G=H->aM P T zs e G nx Q):aM P T zs e H nx Q:=h H rfl
theorem akM{H:aA}{F:Nat->Prop}{nh:Nat}{f:FuncId}{caps:List D1}(h: ∀x∈caps,∃n id row a,id<nh/\x= .ptr n id row a):Cv1 H F id nh (.clo f caps) (.clo f caps):=
 .clo f caps caps rfl fun i x y b c=>by
  rw[b] at c;obtain rfl:x=y:=by simpa using c
  obtain⟨n,id,row,a,d,rfl⟩:=h x (s3 b);exact .inr ⟨n,id,row,a,d,rfl,rfl⟩
def aaK(V:List (Int×Int))(k:Nat)(u:List Int):Prop:=u.length=3/\ ∀w,w<3->u.getD w default= -1\/ ∃i,i<k/\V[i]?=some ((w:Int),u.getD w default)
theorem aaK.next{c:Cfg}{s:CSt}{st k:Nat}{u:List Int}{x:Int×Int}(hs:COk c s)(b:st<4)(h:aaK (cS (aL s st)) k u)(l:(cS (aL s st))[k]?=some x):
 (x.1=(x.1.toNat:Int)/\x.1.toNat<3)/\u.getD x.1.toNat default<x.2/\aaK (cS (aL s st)) (k+1) (u.set x.1.toNat x.2):=by
 obtain⟨m,d⟩:=m3.1 l
 have hm:x∈cS (aL s st):=d▸Z5 m
 obtain⟨hw,o,p⟩:=hs.vIn b hm
 have e:x.1.toNat<3:=by omega
 have a:x.1=(x.1.toNat:Int):=by omega
 refine⟨⟨a,e⟩,?_,by simp[h.1],fun w f=> ?_⟩
 ·rcases h.2 _ e with g|⟨i,hi,g⟩
  ·omega
  ·obtain⟨j,n⟩:=m3.1 g;have k9:=Z6.1 (hs.slv st b).inc i k j m hi;rw[n,d] at k9;exact k9 a.symm
 ·by_cases he:w=x.1.toNat;·right;refine⟨k,by omega,?_⟩;rw[he,pY (by rw[h.1];omega),if_pos rfl,l,<-a]
  ·rw[pY (by rw[h.1];omega),if_neg he];exact(h.2 w f).imp (fun h=>h) fun⟨i,hi,g⟩=>⟨i,by omega,g⟩
variable{M:List (List Int×Int)}
theorem agO{l c:List Int}{n:Int}:jT (vA M l n) c=if c=l then some n else jT M c:=by
 induction M with
 |nil=>
  by_cases h:c=l;·simp[vA,jT,h]
  ·simp[vA,jT,h]
 |cons p M d=>
  obtain⟨a,b⟩:=p;simp only[vA];by_cases hl:l=a
  ·subst hl;rw[if_pos rfl];by_cases h:c=l;·simp[jT,h]
   ·simp[jT,h]
  ·rw[if_neg hl];unfold jT at d ⊢;simp only[List.find?_cons];by_cases h:c=a;·subst h;simp[Ne.symm hl]
   ·simp only[h,decide_false];rw[d]
def XM(c:Cfg)(who:Nat)(out:List fC)(k:Nat)(M:List (List Int×Int)):Prop:=∀i v,jT M [i]=some v->∃j∈out.take k,(bT c who j.n).id=i/\j.left=v
theorem XM.next{c:Cfg}{who:Nat}{out:List fC}{k:Nat}{M:List (List Int×Int)}(h:XM c who out k M)(b:k<out.length):XM c who out (k+1) (vA M [(bT c who (out.getD k default).n).id] (out.getD k default).left):=by
 intro i v a;rw[agO] at a;have hm:out.getD k default∈out.take (k+1):=by rw[nK b];simp
 split at a;·rename_i he;simp only[List.cons.injEq,and_true] at he;simp only[Option.some.injEq] at a;exact⟨_,hm,he.symm,a⟩
 ·obtain⟨j,d,e⟩:=h i v a;exact⟨j,(List.take_sublist_take_left (by omega)).mem d,e⟩
noncomputable def ptB(c:Cfg)(who:Nat)(p:fR):Bool:=@decide (mD c who p) (Classical.propDecidable _)
variable{c:Cfg}{who:Nat}
theorem beT{p:fR}(h:mD c who p):ptB c who p=true:=by simp[ptB,h]
theorem a8A{p:fR}(h: ¬mD c who p):ptB c who p=false:=by simp[ptB,h]
def a5K(c:Cfg)(who:Nat)(p:fR)(j:fC):Prop:=j.who=who/\(0<=j.n/\j.n<p.next-p.queue.length)/\j.left=gZ c.map (bT c who j.n)
structure beI(c:Cfg)(who:Nat)(p:fR)(k:Nat)(last:Int)(M:List (List Int×Int)):Prop where
 all: ∀i,i<k->a5K c who p (p.out.getD i default)
 srt: ∀i j,i<j->j<k->(p.out.getD i default).n<(p.out.getD j default).n
 lst:(k=0/\last= -1)\/(0<k/\last=(p.out.getD (k-1) default).n)
 ids: ∀i,i<k->jT M [(bT c who (p.out.getD i default).n).id]=some (p.out.getD i default).left
 plc:XM c who p.out k M
theorem beI.next{c:Cfg}{who:Nat}{p:fR}{k:Nat}{last:Int}{M:List (List Int×Int)}(h:beI c who p k last M)(f:k<p.out.length){j:fC}(e:j=p.out.getD k default)(g:a5K c who p j)(o:last<j.n)
 (l: ∀v,jT M [(bT c who j.n).id]=some v->v=j.left):beI c who p (k+1) j.n (vA M [(bT c who j.n).id] j.left):=by
 subst e
 refine⟨iS h.all g,fun i j a e=> ?_,.inr ⟨by omega,by simp⟩,fun i hi=> ?_,h.plc.next f⟩
 ·by_cases b:j<k;·exact h.srt i j a b
  ·obtain rfl:j=k:=by omega
   rcases h.lst with⟨m,_⟩|⟨m,k9⟩
   ·omega
   ·by_cases hi:i=j-1;·subst hi;omega
    ·have:=h.srt i (j-1) (by omega) (by omega);omega
 ·rw[agO];by_cases d:i<k
  ·have k9:=h.ids i d;split;·rename_i he;simp only[List.cons.injEq,and_true] at he;rw[he] at k9;rw[l _ k9]
   ·exact k9
  ·obtain rfl:i=k:=by omega
   simp
theorem beI.end{p:fR}{last:Int}(h:beI c who p p.out.length last M):(∀j∈p.out,a5K c who p j)/\(p.out.Pairwise fun a b=>a.n<b.n)/\ ∀a∈p.out,∀b∈p.out,(bT c who a.n).id=(bT c who b.n).id->a.left=b.left:=by
 have e: ∀i (hi:i<p.out.length),p.out.getD i default=p.out[i]:=fun i hi=>by simp[List.getD,hi]
 refine⟨fun j d=> ?_,Z6.2 fun i j hi d f=> ?_,fun a l b m he=> ?_⟩;·obtain⟨i,hi,rfl⟩:=bqY.1 d;rw[<-e i hi];exact h.all i hi
 ·rw[<-e i hi,<-e j d];exact h.srt i j f d
 ·obtain⟨i,hi,rfl⟩:=bqY.1 l;obtain⟨j,d,rfl⟩:=bqY.1 m;have g:=h.ids i hi;have k:=h.ids j d;rw[e] at g k;rw[he,k] at g;exact(Option.some.inj g).symm
theorem beI.bad{p:fR}{k:Nat}{last:Int}(h:beI c who p k last M)(b:k<p.out.length)(hp:mD c who p):a5K c who p (p.out.getD k default)/\last<(p.out.getD k default).n/\ ∀v,jT M [(bT c who (p.out.getD k default).n).id]=some v->v=(p.out.getD k default).left:=by
 have hm:=cC b;have d:=hp.out _ hm;refine⟨d,?_,fun v e=> ?_⟩
 ·rcases h.lst with⟨f,a⟩|⟨f,a⟩
  ·omega
  ·have:=Z6.1 hp.acX (k-1) k (by omega) b (by omega);rw[a];simpa [List.getD,b,show k-1<p.out.length by omega] using this
 ·obtain⟨g,a,i,j⟩:=h.plc _ _ e;rw[<-j];exact hp.akF g (List.mem_of_mem_take a) _ hm i
noncomputable def slB(c:Cfg)(s:CSt)(st:Nat):Bool:=@decide (Z0 c s st) (Classical.propDecidable _)
variable{st:Nat}
theorem beR{s:CSt}(h:Z0 c s st):slB c s st=true:=by simp[slB,h]
theorem a6D{s:CSt}(h: ¬Z0 c s st):slB c s st=false:=by simp[slB,h]
structure a19(c:Cfg)(s:CSt):Prop where
 pl:s.bM.length=3
 port: ∀k,k<3->mD c k (aF s k)
structure bdP(s:CSt)(st:Nat)(u:List Int)(x:Int×Int):Prop where
 who:0<=x.1/\x.1<=2
 last:u.getD x.1.toNat default<x.2
 bf0:0<=bK (isC x.2) (aF s x.1.toNat).out
 aAM:(bK (isC x.2) (aF s x.1.toNat).out).toNat<(aF s x.1.toNat).out.length
 aAN:((aF s x.1.toNat).out.getD (bK (isC x.2) (aF s x.1.toNat).out).toNat default).left=st
structure bcU(s:CSt)(st:Nat)(V:List (Int×Int))(k:Nat)(u:List Int):Prop where
 ul:u.length=3
 lst: ∀w,w<3->u.getD w default= -1\/ ∃i,i<k/\V[i]?=some ((w:Int),u.getD w default)
 all: ∀i x,i<k->V[i]?=some x->(0<=x.1/\x.1<=2)/\x.2<=u.getD x.1.toNat default/\ ∃j∈(aF s x.1.toNat).out,j.n=x.2/\j.left=st
 inc: ∀i j x y,i<j->j<k->V[i]?=some x->V[j]?=some y->x.1=y.1->x.2<y.2
theorem bcU.nil{s:CSt}{V:List (Int×Int)}:bcU s st V 0 [-1,-1,-1]:=⟨rfl,fun w hw=>.inl (by rcases(show w=0\/w=1\/w=2 by omega) with rfl|rfl|rfl<;>rfl),fun i x hi=>by omega,fun i j x y _ a=>by omega⟩
theorem bcU.next{s:CSt}{st k:Nat}{V:List (Int×Int)}{u:List Int}{x:Int×Int}(h:bcU s st V k u)(e:V[k]?=some x)(b:bdP s st u x):bcU s st V (k+1) (u.set x.1.toNat x.2):=by
 have hw:=b.who;have f:=h.ul;have p:=b.last;have o: ∀w,(u.set x.1.toNat x.2).getD w default=if w=x.1.toNat then x.2 else u.getD w default:=fun w=>pY (by omega)
 refine⟨by simp[f],fun w g=> ?_,fun i y hi a=> ?_,fun i j y z c t a l he=> ?_⟩
 ·rw[o];by_cases he:w=x.1.toNat;·right;refine⟨k,by omega,?_⟩;rw[if_pos he,e,he,show ((x.1.toNat:Nat):Int)=x.1 by omega]
  ·rw[if_neg he];exact(h.lst w g).imp (fun h=>h) fun⟨i,hi,d⟩=>⟨i,by omega,d⟩
 ·rw[o];by_cases m:i<k
  ·obtain⟨q,d,r⟩:=h.all i y m a;refine⟨q,?_,r⟩;split;·rename_i he;rw[he] at d;omega
   ·exact d
  ·obtain rfl:i=k:=by omega
   obtain rfl:x=y:=by rw[e] at a;exact Option.some.inj a
   refine⟨hw,by rw[if_pos rfl];omega,_,cC b.aAM,?_,b.aAN⟩;have:=(ajV b.bf0).2;exact of_decide_eq_true this
 ·by_cases n:j<k;·exact h.inc i j y z c n a l he
  ·obtain rfl:j=k:=by omega
   obtain rfl:x=z:=by rw[e] at l;exact Option.some.inj l
   have:=(h.all i y c a).2.1;rw[he] at this;omega
theorem bcU.bad{s:CSt}{k:Nat}{u:List Int}{x:Int×Int}(hp:a19 c s)(hs:Z0 c s st)(h:bcU s st (cS (aL s st)) k u)(m:(cS (aL s st))[k]?=some x):bdP s st u x:=by
 obtain⟨g,a⟩:=m3.1 m;have hm:x∈cS (aL s st):=a▸Z5 g;obtain⟨hw,j,d,e,o⟩:=hs.out x hm;have b:=hp.port x.1.toNat (by omega);have p:=(b.out j d).2.1;have hex: ∃j∈(aF s x.1.toNat).out,j.n=x.2:=⟨j,d,e⟩
 obtain⟨az9,az2⟩:=PJ hex;refine⟨hw,?_,cH.2 ⟨j,d,decide_eq_true e⟩,az9,?_⟩
 ·rcases h.lst x.1.toNat (by omega) with l|⟨i,hi,l⟩
  ·omega
  ·obtain⟨f,k9⟩:=m3.1 l;have l1:=Z6.1 hs.inc i k f g hi;rw[k9,a] at l1;exact l1 (by dsimp only;omega)
 ·have:=ZO b.acX (cC az9) d (by rw[az2,e]);rw[this];exact o
theorem bdP.asks{c:Cfg}{s:CSt}{st:Nat}{u:List Int}{x:Int×Int}(hp:a19 c s)(h:bdP s st u x):oA c x.1 x.2:=by have hw:=h.who;have a:=hp.port x.1.toNat (by omega);have hm:=cC h.aAM;have d:((aF s x.1.toNat).out.getD (bK (isC x.2) (aF s x.1.toNat).out).toNat default).n=x.2:=of_decide_eq_true (ajV h.bf0).2;obtain⟨_,b,_⟩:=a.out _ hm;rw[d] at b;have:=a.asks (n:=x.2) (by omega) b.1 (by omega);rwa [show ((x.1.toNat:Nat):Int)=x.1 by omega] at this
theorem bcU.end{s:CSt}{V:List (Int×Int)}{u:List Int}(h:bcU s st V V.length u):(V.Pairwise fun a b=>a.1=b.1->a.2<b.2)/\ ∀x∈V,(0<=x.1/\x.1<=2)/\ ∃j∈(aF s x.1.toNat).out,j.n=x.2/\j.left=st:=by
 refine⟨Z6.2 fun i j hi d c he=> ?_,fun x e=> ?_⟩;·exact h.inc i j _ _ c d (n1 hi) (n1 d) he
 ·obtain⟨i,hi,rfl⟩:=bqY.1 e;obtain⟨f,_,g⟩:=h.all i _ hi (n1 hi);exact⟨f,g⟩
end Go.AM
namespace Go.Proofs.YtlncecohbakleaaGreat
open Go Go.AM
attribute [local irreducible] aM wv aB vd wvH
theorem AP:cJ bNV cO Tryz.f282 jP oE:=cJ.mk Tryz.func282 (by kernel_rfl) AH
section
variable{H:aA}{nx:Nat}{K:bNX}
theorem kA{s:CSt}{st who:Nat}{w n:Int}{u:List Int}{i0 bO6 bO7:Nat}(j:w=who)(hu:u.length=3)(hw:who<3)(F:u.getD who default<n)(r:s.bM.length=3)(d:(aF s who).out.length<2^40)
 (m:0<=bK (isC n) (aF s who).out) (e:(bK (isC n) (aF s who).out).toNat<(aF s who).out.length) (b:((aF s who).out.getD (bK (isC n) (aF s who).out).toNat default).left=st)
 (t:i0<nx/\bO6<nx/\bO7<nx) (x:[i0,bO6,bO7].Nodup) (y:H i0=some ⟨3,1,[u.map cI]⟩) (z:H bO6=some ⟨5,1,[eI s]⟩) (A:H bO7=some ⟨1,1,[[cI st]]⟩)
 (h: ∀H' nx',nx<=nx'->H' i0=some ⟨3,1,[(u.set who n).map cI]⟩->(∀id,id<nx->id≠i0->H' id=H id)->K (dB true) H' nx'):
 bNW cO [boP w,boP n,.one (.c (.ptr 3 i0 0 0)),.one (.c (.ptr 5 bO6 0 0)),.one (.c (.ptr 1 bO7 0 0))] H nx K:=by
 subst j
 refine AP rfl fun Q B=> ?_
 unfold jP
 have o:bQ nx [i0,bO6,bO7]:=AM.apart x (by simp;omega)
 simp only[bQ,eZ] at o
 obtain⟨p,f⟩: ∃p,p=aF s who:=⟨_,rfl⟩
 have g:s.bM.getD who default=p:=f.symm
 rw[<-f] at d m e b
 obtain⟨a,q⟩: ∃a,a=bK (isC n) p.out:=⟨_,rfl⟩
 have k:((u.map cI).drop who).take 1=[cI (u.getD who default)]:=by rw[brB (by simp;omega)];simp[List.getD,show who<u.length by omega]
 have i:(u.map cI).length=3:=by rw[bqW,hu]
 have hle:(who+1<=3)=True:=eq_true (by omega)
 have l: ∀{H:aA} {nx:Nat} {K:bNX},K (boP a) H nx->bNW kV [boR (cD p),boP n] H nx K:=fun h=>KT (p:=p) d (aE rfl) (by rw[<-q];exact h)
 rw[<-q] at m e b
 repeat' first| (first|apply bn1|apply bpJ (by omega)|apply bpK (by omega)|apply oR|apply l)<;>(simp only[go_sem,t1,bqT,brK,y,z,A,k,i,hle,g,b,o])|apply bn3 (by omega)|refine⟨by omega,?_⟩|fail
 have C:List.take who (List.map cI u)++[D1.v (.int .i64 n)]++List.drop (who+1) (List.map cI u)=(u.set who n).map cI:=by rw[brD,bsF,if_pos (by simp;omega),C0];rfl
 rw[C]
 exact B _ _ _ _ _ (.inr rfl) rfl (h _ _ (by omega) aA.bH fun id boU E=>aA.aC E)
end
section
variable{H:aA}{nx:Nat}{K:bNX}
theorem a5J(c:Cfg)(who:Nat)(p:fR)(hb:aQ c)(hw:who<3)(ag:p.queue.length<2^21)(ah:p.out.length<2^21):bNW jK [boR (cU c),boP who,boR (cD p)] .nil 0 fun r _ _=>r.plain=true/\r=dB (ptB c who p):=by
 refine cJ.mk Tryz.func196 (by kernel_rfl) EM rfl fun Q w=> ?_;unfold lL;obtain⟨x,X⟩:=hC hb;have aa:=X who;have ai:=hb.1.1;by_cases Y:(0<=p.next/\p.next<=(c.cP.getD who default).length)/\((p.queue.length:Int)<=2/\(p.queue.length:Int)<=p.next)/\(p.out.length:Int)<=4/\0<=p.last/\p.last<=3
 case neg=>
  have a: ¬mD c who p:=fun h=>Y ⟨h.next,by have:=h.ql;omega,by have:=h.ol;omega,h.last⟩;repeat' first| (first|apply bn1|refine bpL (fun h=> ?_) fun h=> ?_|apply fE)<;>(simp only[go_sem])|apply bn2 (by omega)|refine⟨by omega,?_⟩|fail
  all_goals first|exact w _ _ _ _ _ (.inr rfl) rfl ⟨rfl,congrArg dB (a8A a).symm⟩| (exfalso;omega)
 obtain⟨⟨N,O⟩,⟨aj,ak⟩,al,P,R⟩:=Y;have Z:=decide_eq_true (show 0<=p.next/\p.next<=(c.cP.getD who default).length from ⟨N,O⟩);have ab:=decide_eq_true (show 0<=p.last/\p.last<=3 from ⟨P,R⟩);repeat' first| (first|apply bn1|apply bpK (by omega)|apply fE)<;>(simp only[go_sem,Z,ab];try simp (disch:=omega) only[Iw])|refine⟨by omega,?_⟩|fail
 refine aM.abC fun bqO y=> ?_;have c0:bqO 0=some ⟨3,1,[cU c]⟩:=by rw[y];rfl
 have bPB:bqO 1=some ⟨4,1,[cD p]⟩:=by rw[y];rfl
 clear y
 refine aM.gP (β:=Nat) (fun k=>en [(57,boP k),(56,boP p.queue.length),(55,dS (p.queue.map aJ)),(7,boP (p.next-p.queue.length)),(5,.one (.c (.ptr 4 1 0 0))),(3,.one (.c (.ptr 3 0 0 0))),(1,boP who)])
  (fun k H1 _=>k<=p.queue.length/\(∀i,i<k->p.queue.getD i default=p.next-p.queue.length+i)/\ ∀id,id<45->H1 id=bqO id) (fun k=>p.queue.length-k) 0 ⟨noF,_,by repeat' first|exact bo2|refine xqI rfl rfl ?_|refine xqP (by omega) rfl rfl ?_|fail,aK,by omega,fun i hi=>by omega,fun _ _=>rfl⟩ ?_
 rintro k H1 b an ⟨hk,z,A⟩ bpQ ad;have bqC:H1 0=some ⟨3,1,[cU c]⟩:=by rw[A _ (by omega)];exact c0
 have g1:H1 1=some ⟨4,1,[cD p]⟩:=by rw[A _ (by omega)];exact bPB
 have hA:bQ b [0,1]:=AM.apart (by simp) (by simp;omega);simp only[bQ,eZ] at hA;by_cases o:k<p.queue.length
 ·by_cases S:p.queue.getD k default=p.next-p.queue.length+k
  ·repeat' first|apply bn1<;>(simp only[go_sem];try simp (disch:=omega) only[Iw])|apply bn2 (by omega)|apply bn3 (by omega)|refine⟨by omega,?_⟩|fail
   exact ad _ _ _ (k+1) noF _ (by omega) (by omega) (by repeat' first|exact bo2|refine xqI rfl rfl ?_|refine xqP (by omega) rfl rfl ?_|fail) aK ⟨by omega,iS z S,A⟩
  ·repeat' first|apply bn1<;>(simp only[go_sem];try simp (disch:=omega) only[Iw])|apply bn2 (by omega)|refine⟨by omega,?_⟩|fail
   exact w _ _ _ _ _ (.inr rfl) rfl ⟨rfl,congrArg dB (a8A fun h=>S (h.queue k o)).symm⟩
 ·have d:k=p.queue.length:=by omega
  rw[d] at z;repeat' first|apply bn1<;>(simp only[go_sem,t1,bqT,bqC,g1,hA])|apply bn3 (by omega)|fail
  have B: ∀{H:aA} {F:Nat->Prop} {nh:Nat},b+8<=nh->Cv1 H F id nh (.omap (b+2)) (.omap (b+2)):=fun h=>.omap _ (by omega)
  refine aM.gP (β:=Nat×Int×List (List Int×Int)) (fun u=>en [(72,boP u.1),(71,boP p.out.length),(70,dS (p.out.map eCJ)),(11,.one (.c (.omap (b+2)))),(10,boP u.2.1),(7,boP (p.next-p.queue.length)),(3,.one (.c (.ptr 3 0 0 0))),(1,boP who)])
   (fun u H2 _=>u.1<=p.out.length/\H2 0=some ⟨3,1,[cU c]⟩/\H2 (b+2)=some (u4 ⟨0,false,u.2.2⟩)/\beI c who p u.1 u.2.1 u.2.2) (fun u=>p.out.length-u.1) (0,-1,[])
   ⟨noF,_,by(repeat' first|exact bo2|refine xqI rfl rfl ?_|refine xqP (by omega) rfl rfl ?_| (with_reducible apply bo3)| ((with_reducible apply bo0);exact bpD (by omega) rfl)| ((with_reducible apply bo1);apply bo7)|fail);all_goals exact B (by omega),aK,by dsimp only;omega,by rw[aA.aC (by omega)];exact bqC,aA.bH,⟨fun i hi=>by dsimp only at hi;omega,fun i j _ hj=>by dsimp only at hj;omega,.inl ⟨rfl,rfl⟩,fun i hi=>by dsimp only at hi;omega,fun i v C=>by simp[jT] at C⟩⟩ ?_
  rintro⟨k,last,M⟩ H2 ae af ⟨hk,bfZ,D,bOV⟩ bqG T;dsimp only at hk D bOV;have e:bQ ae [0,b+2]:=AM.apart (by simp) (by simp;omega);simp only[bQ,eZ] at e;by_cases o:k<p.out.length
  ·have ao: -1<=last/\last<=1000:=by
    rcases bOV.lst with⟨_,h⟩|⟨Y,h⟩
    ·omega
    ·have:=(bOV.all (k-1) (by omega)).2.1;omega
   have a: ¬(a5K c who p (p.out.getD k default)/\last<(p.out.getD k default).n/\ ∀v,jT M [(bT c who (p.out.getD k default).n).id]=some v->v=(p.out.getD k default).left)->¬mD c who p:=fun h hp=>h (bOV.bad o hp)
   have m:=fun j hj=>bOV.next o (j:=j) hj
   generalize f:p.out.getD k default=j at a m
   by_cases q:j.who=who
   case neg=>
    have E:(j.who=(who:Int))=False:=eq_false q;repeat' first|apply bn1<;>(simp only[go_sem,t1,bqT,f,E,bfZ,D,e])|apply bn2 (by omega)|refine⟨by omega,?_⟩|fail
    all_goals exact w _ _ _ _ _ (.inr rfl) rfl ⟨rfl,congrArg dB (a8A (a fun h=>q h.1.1)).symm⟩
   have E:(j.who=(who:Int))=True:=eq_true q
   by_cases G:last+1<=j.n/\j.n<=p.next-p.queue.length-1
   case neg=>
    have g:=decide_eq_false G;repeat' first| (first|apply bn1|apply fE)<;>(simp only[go_sem,t1,bqT,f,E,g,bfZ,D,e];try simp (disch:=omega) only[Iw])|apply bn2 (by omega)|refine⟨by omega,?_⟩|fail
    all_goals exact w _ _ _ _ _ (.inr rfl) rfl ⟨rfl,congrArg dB (a8A (a fun h=>G (by have h1:=h.1.2.1;have h2:=h.2.1;omega))).symm⟩
   have g:=decide_eq_true G
   have U:oA c who j.n:=⟨by omega,by omega,by rw[Int.toNat_natCast];omega⟩
   obtain⟨I,d,J⟩:=U
   have s:gZ c.map (List.getD (c.cP.getD who default) j.n.toNat default)=gZ c.map (bT c who j.n):=rfl
   by_cases t:j.left=gZ c.map (bT c who j.n)
   case neg=>
    have V:(j.left=gZ c.map (bT c who j.n))=False:=eq_false t;repeat' first| (first|apply bn1|apply fE|apply DE (by omega))<;>(simp only[go_sem,t1,bqT,f,E,g,s,V,bfZ,D,e];try simp (disch:=omega) only[Iw])|apply bn2 (by omega)|refine⟨by omega,?_⟩|fail
    all_goals exact w _ _ _ _ _ (.inr rfl) rfl ⟨rfl,congrArg dB (a8A (a fun h=>t h.1.2.2)).symm⟩
   have V:(j.left=gZ c.map (bT c who j.n))=True:=eq_true t
   have W:a5K c who p j:=⟨q,by omega,t⟩
   cases l:jT M [(bT c who j.n).id] with
   |none=>
    have K:=m j rfl W (by omega) fun v C=>by rw[l] at C;cases C
    repeat' first| (first|apply bn1|apply fE|apply DE (by omega)|refine iJ x ⟨I,d,J⟩ ?_)<;>(simp only[go_sem,t1,bqT,f,E,g,s,V,bfZ,D,e,l,Option.isSome,Option.getD];try simp (disch:=omega) only[Iw])|apply bn2 (by omega)|refine⟨by omega,?_⟩|fail
    exact T _ _ _ (k+1,j.n,vA M [(bT c who j.n).id] j.left) noF _ (by omega) (by dsimp only;omega) (by(repeat' first|exact bo2|refine xqI rfl rfl ?_|refine xqP (by omega) rfl rfl ?_| (with_reducible apply bo3)| ((with_reducible apply bo0);exact bpD (by omega) rfl)| ((with_reducible apply bo1);apply bo7)|fail);all_goals exact B (by omega)) aK ⟨by dsimp only;omega,by rw[aA.aC (by omega),aA.aC (by omega)];exact bfZ,aA.bH,K⟩
   |some v=>
    by_cases L:v=j.left
    case neg=>
     have e4:(v=j.left)=False:=eq_false L;repeat' first| (first|apply bn1|apply fE|apply DE (by omega)|refine iJ x ⟨I,d,J⟩ ?_)<;>(simp only[go_sem,t1,bqT,f,E,g,s,V,e4,bfZ,D,e,l,Option.isSome,Option.getD];try simp (disch:=omega) only[Iw])|apply bn2 (by omega)|refine⟨by omega,?_⟩|fail
     all_goals exact w _ _ _ _ _ (.inr rfl) rfl ⟨rfl,congrArg dB (a8A (a fun h=>L (h.2.2 _ l))).symm⟩
    subst L;have K:=m j rfl W (by omega) fun v C=>by rw[l] at C;exact(Option.some.inj C).symm
    repeat' first| (first|apply bn1|apply fE|apply DE (by omega)|refine iJ x ⟨I,d,J⟩ ?_)<;>(simp only[go_sem,t1,bqT,f,E,g,s,V,bfZ,D,e,l,Option.isSome,Option.getD];try simp (disch:=omega) only[Iw])|apply bn2 (by omega)|refine⟨by omega,?_⟩|fail
    exact T _ _ _ (k+1,j.n,vA M [(bT c who j.n).id] j.left) noF _ (by omega) (by dsimp only;omega) (by(repeat' first|exact bo2|refine xqI rfl rfl ?_|refine xqP (by omega) rfl rfl ?_| (with_reducible apply bo3)| ((with_reducible apply bo0);exact bpD (by omega) rfl)| ((with_reducible apply bo1);apply bo7)|fail);all_goals exact B (by omega)) aK ⟨by dsimp only;omega,by rw[aA.aC (by omega),aA.aC (by omega)];exact bfZ,aA.bH,K⟩
  ·repeat' first|apply bn1<;>(simp only[go_sem])|apply bn3 (by omega)|fail
   have d:k=p.out.length:=(by omega);rw[d] at bOV;obtain⟨q1,q2,q3⟩:=bOV.end;exact w _ _ _ _ _ (.inr rfl) rfl ⟨rfl,congrArg dB (beT ⟨⟨N,O⟩,by omega,by omega,⟨P,R⟩,z,q1,q2,q3⟩).symm⟩
theorem a2P{c:Cfg}{who:Nat}{p:fR}(d:aQ c)(hw:who<3)(a:p.queue.length<2^21)(b:p.out.length<2^21)(h:K (dB (ptB c who p)) H nx):bNW jK [boR (cU c),boP who,boR (cD p)] H nx K:=(a5J c who p d hw a b).pure rfl (aI ⟨aE rfl,aE rfl,aE rfl,trivial⟩) fun r hr=>hr▸h
theorem a04{c:Cfg}{s:CSt}{st:Nat}{w n:Int}{u:List Int}{i0 bO6 bO7:Nat}(hp:a19 c s)(hu:u.length=3)(z: ¬bdP s st u (w,n))
 (F:i0<nx/\bO6<nx/\bO7<nx) (G:[i0,bO6,bO7].Nodup) (t:H i0=some ⟨3,1,[u.map cI]⟩) (v:H bO6=some ⟨5,1,[eI s]⟩) (x:H bO7=some ⟨1,1,[[cI st]]⟩)
 (h: ∀H' nx',nx<=nx'->K (dB false) H' nx'):
 bNW cO [boP w,boP n,.one (.c (.ptr 3 i0 0 0)),.one (.c (.ptr 5 bO6 0 0)),.one (.c (.ptr 1 bO7 0 0))] H nx K:=by
 refine AP rfl fun Q y=> ?_
 unfold jP
 have l:bQ nx [i0,bO6,bO7]:=AM.apart G (by simp;omega)
 simp only[bQ,eZ] at l
 by_cases hw:0<=w/\w<=2
 case neg=>
  have b:=decide_eq_false hw;repeat' first| (first|apply bn1|apply oR)<;>(simp only[go_sem,t1,bqT,brK,t,v,x,b,l])|fail
  all_goals first|exact y _ _ _ _ _ (.inr rfl) rfl (h _ _ (by omega))| (exfalso;omega)
 have b:=decide_eq_true hw
 obtain⟨who,rfl⟩: ∃who:Nat,w=who:=⟨w.toNat,by omega⟩
 have A:who<3:=by omega
 obtain⟨p,d⟩: ∃p,p=aF s who:=⟨_,rfl⟩
 have i:s.bM.getD who default=p:=d.symm
 have I:=hp.pl
 have B:=(hp.port who A).ol
 rw[<-d] at B
 have j:((u.map cI).drop who).take 1=[cI (u.getD who default)]:=by rw[brB (by simp;omega)];simp[List.getD,show who<u.length by omega]
 have e:(u.map cI).length=3:=by rw[bqW,hu]
 have hle:(who+1<=3)=True:=eq_true (by omega)
 by_cases J:u.getD who default<n
 case neg=>
  have g:(n<=u.getD who default)=True:=eq_true (by omega);repeat' first| (first|apply bn1|apply oR)<;>(simp only[go_sem,t1,bqT,brK,t,v,x,j,e,hle,b,g,l])|refine⟨by omega,?_⟩|fail
  all_goals first|exact y _ _ _ _ _ (.inr rfl) rfl (h _ _ (by omega))| (exfalso;omega)
 have g:(n<=u.getD who default)=False:=eq_false (by omega)
 obtain⟨a,m⟩: ∃a,a=bK (isC n) p.out:=⟨_,rfl⟩
 have q: ∀{H:aA} {nx:Nat} {K:bNX},K (boP a) H nx->bNW kV [boR (cD p),boP n] H nx K:=fun h=>KT (p:=p) (by omega) (aE rfl) (by rw[<-m];exact h)
 by_cases f:0<=a
 case neg=>
  have k:(0<=a)=False:=eq_false f;repeat' first| (first|apply bn1|apply oR|apply q)<;>(simp only[go_sem,t1,bqT,brK,t,v,x,j,e,hle,i,b,g,k,l])|refine⟨by omega,?_⟩|fail
  all_goals first|exact y _ _ _ _ _ (.inr rfl) rfl (h _ _ (by omega))| (exfalso;omega)
 have k:(0<=a)=True:=eq_true f
 have C:a.toNat<p.out.length:=by rw[m] at f ⊢;exact(ajV f).1
 obtain⟨o,E⟩: ∃o,p.out.getD a.toNat default=o:=⟨_,rfl⟩
 have r:(o.left=(st:Int))=False:=eq_false fun he=>z ⟨hw,by rw[Int.toNat_natCast];exact J,by rw[Int.toNat_natCast,<-d,<-m];exact f,by rw[Int.toNat_natCast,<-d,<-m];exact C,by rw[Int.toNat_natCast,<-d,<-m,E];exact he⟩
 repeat' first| (first|apply bn1|apply oR|apply q)<;>(simp only[go_sem,t1,bqT,brK,t,v,x,j,e,hle,i,b,g,k,E,r,l])|refine⟨by omega,?_⟩|fail
 all_goals first|exact y _ _ _ _ _ (.inr rfl) rfl (h _ _ (by omega))| (exfalso;omega)
def beA(c:Cfg)(st i:Nat)(d:fC):Prop:=(0<=d.left/\d.left<=c.lat.getD st default)/\(0<i->d.left=c.lat.getD st default)
theorem a5G(c:Cfg)(s:CSt)(st:Nat)(hb:aQ c)(hp:a19 c s)(bk:s.dD.length=4)(ar:st<4)(au:(aL s st).pipe.length<2^21)(aw:(aL s st).done.length<2^21)(aj: ∀j∈(aL s st).done,j.rsp.data.length<2^21):
 bNW iX [boR (cU c),boR (eI s),boP st] .nil 0 fun r _ _=>r.plain=true/\r=dB (slB c s st):=by
 refine cJ.mk Tryz.func197 (by kernel_rfl) B8 rfl fun Q hQ=> ?_
 unfold lB
 obtain⟨v,g⟩: ∃v,v=aL s st:=⟨_,rfl⟩
 have aa:s.dD.getD st default=v:=g.symm
 rw[<-g] at au aw aj
 by_cases h0:(v.pipe.length:Int)<=2/\(v.done.length:Int)<=2/\0<=v.last/\v.last<=2
 case neg=>
  have ax: ¬Z0 c s st:=fun h=>h0 ⟨by have:=h.pl;rw[<-g] at this;omega,by have:=h.dl;rw[<-g] at this;omega,by have:=h.last;rw[<-g] at this;omega⟩;repeat' first| (first|apply bn1|refine bpL (fun h=> ?_) fun h=> ?_|apply oR)<;>(simp only[go_sem,aa])|apply bn2 (by omega)|refine⟨by omega,?_⟩|fail
  all_goals first|exact hQ _ _ _ _ _ (.inr rfl) rfl ⟨rfl,congrArg dB (a6D ax).symm⟩| (exfalso;omega)
 obtain⟨bm,R,ak,al⟩:=h0
 have ay:=decide_eq_true (show 0<=v.last/\v.last<=2 from ⟨ak,al⟩)
 repeat' first| (first|apply bn1|apply bpK (by omega)|apply oR)<;>(simp only[go_sem,aa,ay])|refine⟨by omega,?_⟩|fail
 refine aM.abC fun bqO S=> ?_
 have c0:bqO 0=some ⟨3,1,[cU c]⟩:=by rw[S];rfl
 have bPB:bqO 1=some ⟨5,1,[eI s]⟩:=by rw[S];rfl
 have c2:bqO 2=some ⟨1,1,[[cI st]]⟩:=by rw[S];rfl
 have bf1:bqO 9=some ⟨3,1,[gF v]⟩:=by rw[S];rfl
 have az:bqO 28=some ⟨3,1,[([-1,-1,-1]:List Int).map cI]⟩:=by rw[S];rfl
 clear S
 have an:=(hC hb).1
 have ao:=hb.2.1
 have ba:=S0 hb ar
 have bPP: ∀k,k<v.done.length->(cS (aL s st))[k]?=some (key (v.done.getD k default)):=fun k hk=>by rw[<-g];unfold cS;rw[brO (by simpa using hk)];simp[List.getD,hk]
 have bb: ∀k,k<v.pipe.length->(cS (aL s st))[v.done.length+k]?=some ((v.pipe.getD k default).who,(v.pipe.getD k default).n):=fun k hk=>by rw[<-g];unfold cS;rw[brX (by simp)];simp[List.getD,hk]
 have bc:(cS (aL s st)).length=v.done.length+v.pipe.length:=by rw[<-g];simp[cS]
 have J: ∀{H:aA} {F:Nat->Prop} {nh:Nat},36<=nh->Cv1 H F id nh (.clo cO [.ptr 3 28 0 0,.ptr 5 1 0 0,.ptr 1 2 0 0]) (.clo cO [.ptr 3 28 0 0,.ptr 5 1 0 0,.ptr 1 2 0 0]):=fun h=>akM fun x Z=>by
  simp only[t3,bq7,or_false] at Z;rcases Z with rfl|rfl|rfl;·exact⟨_,_,_,_,by omega,rfl⟩
  ·exact⟨_,_,_,_,by omega,rfl⟩
  ·exact⟨_,_,_,_,by omega,rfl⟩
 have q:=hp.pl
 refine aM.gP (β:=Nat×List Int) (fun u=>en [(40,boP u.1),(39,boP v.done.length),(38,dS (v.done.map aS)),(9,.one (.c (.clo cO [.ptr 3 28 0 0,.ptr 5 1 0 0,.ptr 1 2 0 0]))),(7,.one (.c (.ptr 3 9 0 0))),(5,.one (.c (.ptr 1 2 0 0))),(3,.one (.c (.ptr 3 0 0 0)))])
  (fun u H1 _=>u.1<=v.done.length/\bcU s st (cS (aL s st)) u.1 u.2/\(∀i,i<u.1->as5 c (v.done.getD i default))/\H1 28=some ⟨3,1,[u.2.map cI]⟩/\ ∀id,id<36->id≠28->H1 id=bqO id) (fun u=>v.done.length-u.1) (0,[-1,-1,-1])
  ⟨noF,_,by(repeat' first|exact bo2|refine xqI rfl rfl ?_|refine xqP (by omega) rfl rfl ?_| (with_reducible apply bo3)| ((with_reducible apply bo1);apply bo7)|fail);all_goals exact J (by omega),aK,by dsimp only;omega,bcU.nil,fun i hi=>by dsimp only at hi;omega,az,fun _ _ _=>rfl⟩ ?_
 rintro⟨k,u⟩ H1 N bn ⟨hk,bOV,hR,b,m⟩ bpQ bd
 dsimp only at hk bOV hR b
 have bqC:H1 0=some ⟨3,1,[cU c]⟩:=by rw[m _ (by omega) (by omega)];exact c0
 have D:H1 1=some ⟨5,1,[eI s]⟩:=by rw[m _ (by omega) (by omega)];exact bPB
 have E:H1 2=some ⟨1,1,[[cI st]]⟩:=by rw[m _ (by omega) (by omega)];exact c2
 have bp5:H1 9=some ⟨3,1,[gF v]⟩:=by rw[m _ (by omega) (by omega)];exact bf1
 have a:bQ N [0,1,2,9,28]:=AM.apart (by simp) (by simp;omega)
 simp only[bQ,eZ] at a
 have t:=bOV.ul
 by_cases T:k<v.done.length
 ·obtain⟨d,l⟩: ∃d,d=v.done.getD k default:=⟨_,rfl⟩
  have af:d∈(aL s st).done:=by rw[l,<-g];exact cC T
  have Z:=bPP k T;rw[<-l] at Z;have ag:d.rsp.data.length<2^40:=by have h1:=aj d (by rw[g];exact af);omega
  by_cases hF:bdP s st u (key d)
  case neg=>
   repeat' first| (first|apply bn1| (refine a04 (c:=c) (w:=d.who) (n:=d.n) hp t hF (by omega) (by simp) (by simp only[aA.set,a,if_false];exact b) (by simp only[aA.set,a,if_false];exact D) (by simp only[aA.set,a,if_false];exact E) (fun H' nx' K=> ?_)))<;>(simp only[go_sem,t1,bqT,l.symm,bqC,D,E,b,a])|apply bn2 (by omega)|refine⟨by omega,?_⟩|fail
   repeat' first|apply bn1<;>(simp only[go_sem])|fail
   all_goals exact hQ _ _ _ _ _ (.inr rfl) rfl ⟨rfl,congrArg dB (a6D fun h=>hF (bOV.bad hp h Z)).symm⟩
  have U:=bOV.next Z hF;have W:=hF.asks hp;obtain⟨ah,V,z,A,B⟩:=hF;dsimp only[key] at ah V z A B U W;have L:d.who=(d.who.toNat:Int):=by omega
  have C:d.who.toNat<3:=by omega
  have M:(aF s d.who.toNat).out.length<2^40:=by have:=(hp.port _ C).ol;omega
  by_cases ad:pA d.rsp
  case neg=>
   have O:=decide_eq_false ad;repeat' first| (first|apply bn1| (refine kA (w:=d.who) (n:=d.n) L t C V q M z A B (by omega) (by simp) (by simp only[aA.set,a,if_false];exact b) (by simp only[aA.set,a,if_false];exact D) (by simp only[aA.set,a,if_false];exact E) (fun H' nx' K I f=> ?_)))<;>(simp only[go_sem,t1,bqT,l.symm,bqC,D,E,b,a])|apply bn2 (by omega)|refine⟨by omega,?_⟩|fail
   have boU:H' 0=some ⟨3,1,[cU c]⟩:=(by rw[f _ (by omega) (by omega)];simp only[aA.set,a,if_false];exact bqC);have G:H' (N+3)=some ⟨5,1,[aS d]⟩:=(by rw[f _ (by omega) (by omega)];exact aA.bH);have y:bQ nx' [0,1,2,9,28,N+3]:=AM.apart (by simp;omega) (by simp;omega);simp only[bQ,eZ] at y;simp only[go_sem,t1,bqT,boU,G,O,y];repeat' first| (first|apply bn1|apply I8 ag)<;>(simp only[go_sem,t1,bqT,boU,G,O,y])|fail
   all_goals exact hQ _ _ _ _ _ (.inr rfl) rfl ⟨rfl,congrArg dB (a6D fun h=>ad (h.rsp d af).1).symm⟩
  have O:=decide_eq_true ad;by_cases ae:d.rsp.id=(bT c d.who d.n).id
  case neg=>
   have bf:(d.rsp.id=(bT c d.who d.n).id)=False:=eq_false ae;repeat' first| (first|apply bn1| (refine kA (w:=d.who) (n:=d.n) L t C V q M z A B (by omega) (by simp) (by simp only[aA.set,a,if_false];exact b) (by simp only[aA.set,a,if_false];exact D) (by simp only[aA.set,a,if_false];exact E) (fun H' nx' K I f=> ?_)))<;>(simp only[go_sem,t1,bqT,l.symm,bqC,D,E,b,a])|apply bn2 (by omega)|refine⟨by omega,?_⟩|fail
   have boU:H' 0=some ⟨3,1,[cU c]⟩:=(by rw[f _ (by omega) (by omega)];simp only[aA.set,a,if_false];exact bqC);have G:H' (N+3)=some ⟨5,1,[aS d]⟩:=(by rw[f _ (by omega) (by omega)];exact aA.bH);have y:bQ nx' [0,1,2,9,28,N+3]:=AM.apart (by simp;omega) (by simp;omega);simp only[bQ,eZ] at y;simp only[go_sem,t1,bqT,boU,G,O,y];repeat' first| (first|apply bn1|apply I8 ag|apply iJ an W)<;>(simp only[go_sem,t1,bqT,boU,G,O,bf,y])|fail
   all_goals exact hQ _ _ _ _ _ (.inr rfl) rfl ⟨rfl,congrArg dB (a6D fun h=>ae (h.rsp d af).2).symm⟩
  repeat' first| (first|apply bn1| (refine kA (w:=d.who) (n:=d.n) L t C V q M z A B (by omega) (by simp) (by simp only[aA.set,a,if_false];exact b) (by simp only[aA.set,a,if_false];exact D) (by simp only[aA.set,a,if_false];exact E) (fun H' nx' K I f=> ?_)))<;>(simp only[go_sem,t1,bqT,l.symm,bqC,D,E,b,a])|apply bn2 (by omega)|refine⟨by omega,?_⟩|fail
  have boU:H' 0=some ⟨3,1,[cU c]⟩:=by rw[f _ (by omega) (by omega)];simp only[aA.set,a,if_false];exact bqC
  have G:H' (N+3)=some ⟨5,1,[aS d]⟩:=by rw[f _ (by omega) (by omega)];exact aA.bH
  have e: ∀id,id<36->id≠28->H' id=bqO id:=fun id boU P=>by rw[f id (by omega) P,aA.aC (by omega)];exact m id boU P
  have y:bQ nx' [0,1,2,9,28,N+3]:=AM.apart (by simp;omega) (by simp;omega);simp only[bQ,eZ] at y;simp only[go_sem,t1,bqT,boU,G,O,y];repeat' first| (first|apply bn1|apply I8 ag|apply iJ an W)<;>(simp only[go_sem,t1,bqT,boU,G,O,ae,y];try simp (disch:=omega) only[Iw])|fail
  exact bd _ _ _ (k+1,u.set d.who.toNat d.n) noF _ (by omega) (by dsimp only;omega) (by(repeat' first|exact bo2|refine xqI rfl rfl ?_|refine xqP (by omega) rfl rfl ?_| (with_reducible apply bo3)| ((with_reducible apply bo1);apply bo7)|fail);all_goals exact J (by omega)) aK ⟨by dsimp only;omega,U,iS hR (by rw[<-l];exact⟨ad,ae⟩),I,e⟩
 ·repeat' first|apply bn1<;>(simp only[go_sem,bp5])|apply bn3 (by omega)|fail
  have bg:k=v.done.length:=by omega
  rw[bg] at bOV hR;clear T hk
  refine aM.gP (β:=Nat×List Int) (fun u=>en [(73,boP u.1),(72,boP v.pipe.length),(71,dS (v.pipe.map eCJ)),(9,.one (.c (.clo cO [.ptr 3 28 0 0,.ptr 5 1 0 0,.ptr 1 2 0 0]))),(5,.one (.c (.ptr 1 2 0 0))),(3,.one (.c (.ptr 3 0 0 0)))])
   (fun u H1 _=>u.1<=v.pipe.length/\bcU s st (cS (aL s st)) (v.done.length+u.1) u.2/\(∀i,i<u.1->beA c st i (v.pipe.getD i default))/\H1 28=some ⟨3,1,[u.2.map cI]⟩/\ ∀id,id<36->id≠28->H1 id=bqO id) (fun u=>v.pipe.length-u.1) (0,u)
   ⟨noF,_,by(repeat' first|exact bo2|refine xqI rfl rfl ?_|refine xqP (by omega) rfl rfl ?_| (with_reducible apply bo3)| ((with_reducible apply bo1);apply bo7)|fail);all_goals exact J (by omega),aK,by dsimp only;omega,bOV,fun i hi=>by dsimp only at hi;omega,b,m⟩ ?_
  clear bOV b m bqC D E bp5 a t;rintro⟨k,u⟩ H2 X bh ⟨hk,bOV,bPG,b,m⟩ bqG aq;dsimp only at hk bOV bPG b;have bqC:H2 0=some ⟨3,1,[cU c]⟩:=by rw[m _ (by omega) (by omega)];exact c0
  have D:H2 1=some ⟨5,1,[eI s]⟩:=by rw[m _ (by omega) (by omega)];exact bPB
  have E:H2 2=some ⟨1,1,[[cI st]]⟩:=by rw[m _ (by omega) (by omega)];exact c2
  have a:bQ X [0,1,2,9,28]:=AM.apart (by simp) (by simp;omega);simp only[bQ,eZ] at a;have t:=bOV.ul;by_cases T:k<v.pipe.length
  ·obtain⟨d,l⟩: ∃d,d=v.pipe.getD k default:=⟨_,rfl⟩
   have Z:=bb k T;rw[<-l] at Z;by_cases hF:bdP s st u (d.who,d.n)
   case neg=>
    repeat' first| (first|apply bn1| (refine a04 (c:=c) (w:=d.who) (n:=d.n) hp t hF (by omega) (by simp) (by simp only[aA.set,a,if_false];exact b) (by simp only[aA.set,a,if_false];exact D) (by simp only[aA.set,a,if_false];exact E) (fun H' nx' K=> ?_)))<;>(simp only[go_sem,t1,bqT,l.symm,bqC,D,E,b,a])|apply bn2 (by omega)|refine⟨by omega,?_⟩|fail
    repeat' first|apply bn1<;>(simp only[go_sem])|fail
    all_goals exact hQ _ _ _ _ _ (.inr rfl) rfl ⟨rfl,congrArg dB (a6D fun h=>hF (bOV.bad hp h Z)).symm⟩
   have U:=bOV.next Z hF;obtain⟨ah,V,z,A,B⟩:=hF;dsimp only at ah V z A B U;have L:d.who=(d.who.toNat:Int):=(by omega);have C:d.who.toNat<3:=(by omega);have M:(aF s d.who.toNat).out.length<2^40:=by have:=(hp.port _ C).ol;omega
   have ab: ¬beA c st k d->¬Z0 c s st:=fun V h=>V (by
    have:=h.left k (by rw[<-g];exact T)
    rw[<-g,<-l] at this
    exact this)
   rcases CR k with h0|h0
   ·have o:((k:Int)=0)=True:=eq_true (by omega);have p:(0<(k:Int))=False:=eq_false (by omega);by_cases hl:0<=d.left/\d.left<=c.lat.getD st default
    ·have R:=decide_eq_true hl;repeat' first| (first|apply bn1| (refine kA (w:=d.who) (n:=d.n) L t C V q M z A B (by omega) (by simp) (by simp only[aA.set,a,if_false];exact b) (by simp only[aA.set,a,if_false];exact D) (by simp only[aA.set,a,if_false];exact E) (fun H' nx' K I f=> ?_)))<;>(simp only[go_sem,t1,bqT,l.symm,bqC,D,E,b,o,p,a])|apply bn2 (by omega)|refine⟨by omega,?_⟩|fail
     have e: ∀id,id<36->id≠28->H' id=bqO id:=fun id boU P=>by rw[f id (by omega) P,aA.aC (by omega)];exact m id boU P
     have boU:H' 0=some ⟨3,1,[cU c]⟩:=(e _ (by omega) (by omega)).trans c0;have Y:H' 2=some ⟨1,1,[[cI st]]⟩:=(e _ (by omega) (by omega)).trans c2;have G:H' (X+4)=some ⟨3,1,[eCJ d]⟩:=(by rw[f _ (by omega) (by omega)];exact aA.bH);simp only[go_sem,t1,bqT,boU,Y,G,R,o,p,a];repeat' first| (first|apply bn1|apply fE)<;>(simp only[go_sem,t1,bqT,boU,Y,G,R,o,p,a];try simp (disch:=omega) only[Iw])|refine⟨by omega,?_⟩|fail
     all_goals exact aq _ _ _ (k+1,u.set d.who.toNat d.n) noF _ (by omega) (by dsimp only;omega) (by(repeat' first|exact bo2|refine xqI rfl rfl ?_|refine xqP (by omega) rfl rfl ?_| (with_reducible apply bo3)| ((with_reducible apply bo1);apply bo7)|fail);all_goals exact J (by omega)) aK ⟨by dsimp only;omega,U,iS bPG (by rw[<-l];exact⟨hl,fun h=>by omega⟩),I,e⟩
    ·have R:=decide_eq_false hl;repeat' first| (first|apply bn1| (refine kA (w:=d.who) (n:=d.n) L t C V q M z A B (by omega) (by simp) (by simp only[aA.set,a,if_false];exact b) (by simp only[aA.set,a,if_false];exact D) (by simp only[aA.set,a,if_false];exact E) (fun H' nx' K I f=> ?_)))<;>(simp only[go_sem,t1,bqT,l.symm,bqC,D,E,b,o,p,a])|apply bn2 (by omega)|refine⟨by omega,?_⟩|fail
     have e: ∀id,id<36->id≠28->H' id=bqO id:=fun id boU P=>by rw[f id (by omega) P,aA.aC (by omega)];exact m id boU P
     have boU:H' 0=some ⟨3,1,[cU c]⟩:=(e _ (by omega) (by omega)).trans c0;have Y:H' 2=some ⟨1,1,[[cI st]]⟩:=(e _ (by omega) (by omega)).trans c2;have G:H' (X+4)=some ⟨3,1,[eCJ d]⟩:=(by rw[f _ (by omega) (by omega)];exact aA.bH);simp only[go_sem,t1,bqT,boU,Y,G,R,o,p,a];repeat' first| (first|apply bn1|apply fE)<;>(simp only[go_sem,t1,bqT,boU,Y,G,R,o,p,a])|refine⟨by omega,?_⟩|fail
     all_goals exact hQ _ _ _ _ _ (.inr rfl) rfl ⟨rfl,congrArg dB (a6D (ab fun h=>hl h.1)).symm⟩
   ·have o:((k:Int)=0)=False:=eq_false (by omega);have p:(0<(k:Int))=True:=eq_true (by omega);by_cases hl:d.left=c.lat.getD st default
    ·have ai:(d.left=c.lat.getD st default)=True:=eq_true hl;repeat' first| (first|apply bn1| (refine kA (w:=d.who) (n:=d.n) L t C V q M z A B (by omega) (by simp) (by simp only[aA.set,a,if_false];exact b) (by simp only[aA.set,a,if_false];exact D) (by simp only[aA.set,a,if_false];exact E) (fun H' nx' K I f=> ?_)))<;>(simp only[go_sem,t1,bqT,l.symm,bqC,D,E,b,o,p,a])|apply bn2 (by omega)|refine⟨by omega,?_⟩|fail
     have e: ∀id,id<36->id≠28->H' id=bqO id:=fun id boU P=>by rw[f id (by omega) P,aA.aC (by omega)];exact m id boU P
     have boU:H' 0=some ⟨3,1,[cU c]⟩:=(e _ (by omega) (by omega)).trans c0;have Y:H' 2=some ⟨1,1,[[cI st]]⟩:=(e _ (by omega) (by omega)).trans c2;have G:H' (X+4)=some ⟨3,1,[eCJ d]⟩:=(by rw[f _ (by omega) (by omega)];exact aA.bH);simp only[go_sem,t1,bqT,boU,Y,G,o,p,a];repeat' first|apply bn1<;>(simp only[go_sem,t1,bqT,boU,Y,G,o,p,ai,a];try simp (disch:=omega) only[Iw])|refine⟨by omega,?_⟩|fail
     all_goals exact aq _ _ _ (k+1,u.set d.who.toNat d.n) noF _ (by omega) (by dsimp only;omega) (by(repeat' first|exact bo2|refine xqI rfl rfl ?_|refine xqP (by omega) rfl rfl ?_| (with_reducible apply bo3)| ((with_reducible apply bo1);apply bo7)|fail);all_goals exact J (by omega)) aK ⟨by dsimp only;omega,U,iS bPG (by rw[<-l];exact⟨by omega,fun _=>hl⟩),I,e⟩
    ·have ai:(d.left=c.lat.getD st default)=False:=eq_false hl;repeat' first| (first|apply bn1| (refine kA (w:=d.who) (n:=d.n) L t C V q M z A B (by omega) (by simp) (by simp only[aA.set,a,if_false];exact b) (by simp only[aA.set,a,if_false];exact D) (by simp only[aA.set,a,if_false];exact E) (fun H' nx' K I f=> ?_)))<;>(simp only[go_sem,t1,bqT,l.symm,bqC,D,E,b,o,p,a])|apply bn2 (by omega)|refine⟨by omega,?_⟩|fail
     have e: ∀id,id<36->id≠28->H' id=bqO id:=fun id boU P=>by rw[f id (by omega) P,aA.aC (by omega)];exact m id boU P
     have boU:H' 0=some ⟨3,1,[cU c]⟩:=(e _ (by omega) (by omega)).trans c0;have Y:H' 2=some ⟨1,1,[[cI st]]⟩:=(e _ (by omega) (by omega)).trans c2;have G:H' (X+4)=some ⟨3,1,[eCJ d]⟩:=(by rw[f _ (by omega) (by omega)];exact aA.bH);simp only[go_sem,t1,bqT,boU,Y,G,o,p,a];repeat' first|apply bn1<;>(simp only[go_sem,t1,bqT,boU,Y,G,o,p,ai,a])|refine⟨by omega,?_⟩|fail
     all_goals exact hQ _ _ _ _ _ (.inr rfl) rfl ⟨rfl,congrArg dB (a6D (ab fun h=>hl (h.2 h0))).symm⟩
  ·repeat' first|apply bn1<;>(simp only[go_sem])|apply bn3 (by omega)|fail
   have bj:k=v.pipe.length:=(by omega);rw[bj] at bOV bPG;rw[<-bc] at bOV;obtain⟨q1,q2⟩:=bOV.end;refine hQ _ _ _ _ _ (.inr rfl) rfl ⟨rfl,congrArg dB (beR ⟨?_,?_,?_,q1,q2,?_,?_⟩).symm⟩;·rw[<-g];omega
   ·rw[<-g];omega
   ·rw[<-g];exact⟨ak,al⟩
   ·rw[<-g];exact aKJ hR
   ·rw[<-g];exact bPG
theorem a2C{c:Cfg}{s:CSt}{st:Nat}(g:aQ c)(hp:a19 c s)(a:s.dD.length=4)(b:st<4)(d:(aL s st).pipe.length<2^21)(e:(aL s st).done.length<2^21)(f: ∀j∈(aL s st).done,j.rsp.data.length<2^21)(h:K (dB (slB c s st)) H nx):bNW iX [boR (cU c),boR (eI s),boP st] H nx K:=(a5G c s st g hp a b d e f).pure rfl (aI ⟨aE rfl,aE rfl,aE rfl,trivial⟩) fun r hr=>hr▸h
end
end Go.Proofs.YtlncecohbakleaaGreat
