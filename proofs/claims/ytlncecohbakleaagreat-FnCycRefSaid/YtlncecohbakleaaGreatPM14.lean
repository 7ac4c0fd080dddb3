/- Rules and contracts. -/
import Derived.Test.YtlncecohbakleaaGreatPM12
set_option linter.unusedVariables false
set_option linter.unusedSimpArgs false
set_option maxRecDepth 100000
set_option maxHeartbeats 8000000
namespace Go.AM
noncomputable def ptB(c:Cfg)(who:Nat)(p:fF):Bool:=@decide (iK c who p) (Classical.propDecidable _)
variable{c:Cfg}{who:Nat}
theorem Hs{p:fF}(h:iK c who p):ptB c who p=true:=by simp[ptB,h]
theorem TH{p:fF}(h: ¬iK c who p):ptB c who p=false:=by simp[ptB,h]
def NZ(c:Cfg)(who:Nat)(p:fF)(j:gX):Prop:=j.who=who/\(0<=j.n/\j.n<p.next-p.queue.length)/\j.left=iZ c.map (bF c who j.n)
structure zt(c:Cfg)(who:Nat)(p:fF)(k:Nat)(last:Int)(M:List (List Int×Int)):Prop where
 all: ∀i,i<k->NZ c who p (p.out.getD i default)
 srt: ∀i j,i<j->j<k->(p.out.getD i default).n<(p.out.getD j default).n
 lst:(k=0/\last= -1)\/(0<k/\last=(p.out.getD (k-1) default).n)
 ids: ∀i,i<k->j9 M [(bF c who (p.out.getD i default).n).id]=some (p.out.getD i default).left
 plc:wq c who p.out k M
theorem zt.next{c:Cfg}{who:Nat}{p:fF}{k:Nat}{last:Int}{M:List (List Int×Int)}(h:zt c who p k last M)(g:k<p.out.length){j:gX}(f:j=p.out.getD k default)(l:NZ c who p j)(q:last<j.n)
 (m: ∀v,j9 M [(bF c who j.n).id]=some v->v=j.left):zt c who p (k+1) j.n (B1 M [(bF c who j.n).id] j.left):=by
 subst f
 refine⟨bT h.all l,fun i j b f=> ?_,.inr ⟨by omega,by simp⟩,fun i hi=> ?_,h.plc.next g⟩
 ·by_cases d:j<k;·exact h.srt i j b d
  ·obtain rfl:j=k:=by omega
   rcases h.lst with⟨o,_⟩|⟨o,a⟩
   ·omega
   ·by_cases hi:i=j-1;·subst hi;omega
    ·have:=h.srt i (j-1) (by omega) (by omega);omega
 ·rw[uq];by_cases e:i<k
  ·have a:=h.ids i e;split;·rename_i he;simp only[List.cons.injEq,and_true] at he;rw[he] at a;rw[m _ a]
   ·exact a
  ·obtain rfl:i=k:=by omega
   simp
theorem zt.end{p:fF}{last:Int}{M:List (List Int×Int)}(h:zt c who p p.out.length last M):(∀j∈p.out,NZ c who p j)/\(p.out.Pairwise fun a b=>a.n<b.n)/\ ∀a∈p.out,∀b∈p.out,(bF c who a.n).id=(bF c who b.n).id->a.left=b.left:=by
 have e: ∀i (hi:i<p.out.length),p.out.getD i default=p.out[i]:=fun i hi=>by simp[List.getD,hi]
 refine⟨fun j d=> ?_,adZ.2 fun i j hi d f=> ?_,fun a l b m he=> ?_⟩;·obtain⟨i,hi,rfl⟩:=adS.1 d;rw[<-e i hi];exact h.all i hi
 ·rw[<-e i hi,<-e j d];exact h.srt i j f d
 ·obtain⟨i,hi,rfl⟩:=adS.1 l;obtain⟨j,d,rfl⟩:=adS.1 m;have g:=h.ids i hi;have k:=h.ids j d;rw[e] at g k;rw[he,k] at g;exact(Option.some.inj g).symm
theorem zt.bad{p:fF}{k:Nat}{last:Int}{M:List (List Int×Int)}(h:zt c who p k last M)(b:k<p.out.length)(hp:iK c who p):NZ c who p (p.out.getD k default)/\last<(p.out.getD k default).n/\ ∀v,j9 M [(bF c who (p.out.getD k default).n).id]=some v->v=(p.out.getD k default).left:=by
 have hm:=cC b;have d:=hp.out _ hm;refine⟨d,?_,fun v e=> ?_⟩
 ·rcases h.lst with⟨f,a⟩|⟨f,a⟩
  ·omega
  ·have:=adZ.1 hp.za (k-1) k (by omega) b (by omega);rw[a];simpa [List.getD,b,show k-1<p.out.length by omega] using this
 ·obtain⟨g,a,i,j⟩:=h.plc _ _ e;rw[<-j];exact hp.Kn g (List.mem_of_mem_take a) _ hm i
noncomputable def slB(c:Cfg)(s:CSt)(st:Nat):Bool:=@decide (p9 c s st) (Classical.propDecidable _)
theorem Ik{s:CSt}{st:Nat}(h:p9 c s st):slB c s st=true:=by simp[slB,h]
theorem Q6{s:CSt}{st:Nat}(h: ¬p9 c s st):slB c s st=false:=by simp[slB,h]
structure BK(c:Cfg)(s:CSt):Prop where
 pl:s.bJ.length=3
 port: ∀k,k<3->iK c k (aN s k)
structure dr(s:CSt)(st:Nat)(u:List Int)(x:Int×Int):Prop where
 who:0<=x.1/\x.1<=2
 last:u.getD x.1.toNat default<x.2
 at0:0<=bK (isC x.2) (aN s x.1.toNat).out
 at1:(bK (isC x.2) (aN s x.1.toNat).out).toNat<(aN s x.1.toNat).out.length
 at2:((aN s x.1.toNat).out.getD (bK (isC x.2) (aN s x.1.toNat).out).toNat default).left=st
structure YJ(s:CSt)(st:Nat)(V:List (Int×Int))(k:Nat)(u:List Int):Prop where
 ul:u.length=3
 lst: ∀w,w<3->u.getD w default= -1\/ ∃i,i<k/\V[i]?=some ((w:Int),u.getD w default)
 all: ∀i x,i<k->V[i]?=some x->(0<=x.1/\x.1<=2)/\x.2<=u.getD x.1.toNat default/\ ∃j∈(aN s x.1.toNat).out,j.n=x.2/\j.left=st
 inc: ∀i j x y,i<j->j<k->V[i]?=some x->V[j]?=some y->x.1=y.1->x.2<y.2
theorem YJ.nil{s:CSt}{st:Nat}{V:List (Int×Int)}:YJ s st V 0 [-1,-1,-1]:=⟨rfl,fun w hw=>.inl (by rcases(show w=0\/w=1\/w=2 by omega) with rfl|rfl|rfl<;>rfl),fun i x hi=>by omega,fun i j x y _ a=>by omega⟩
theorem YJ.next{s:CSt}{st k:Nat}{V:List (Int×Int)}{u:List Int}{x:Int×Int}(h:YJ s st V k u)(e:V[k]?=some x)(b:dr s st u x):YJ s st V (k+1) (u.set x.1.toNat x.2):=by
 have hw:=b.who;have f:=h.ul;have p:=b.last;have o: ∀w,(u.set x.1.toNat x.2).getD w default=if w=x.1.toNat then x.2 else u.getD w default:=fun w=>FB (by omega)
 refine⟨by simp[f],fun w g=> ?_,fun i y hi a=> ?_,fun i j y z c t a l he=> ?_⟩
 ·rw[o];by_cases he:w=x.1.toNat;·right;refine⟨k,by omega,?_⟩;rw[if_pos he,e,he,show ((x.1.toNat:Nat):Int)=x.1 by omega]
  ·rw[if_neg he];exact(h.lst w g).imp (fun h=>h) fun⟨i,hi,d⟩=>⟨i,by omega,d⟩
 ·rw[o];by_cases m:i<k
  ·obtain⟨q,d,r⟩:=h.all i y m a;refine⟨q,?_,r⟩;split;·rename_i he;rw[he] at d;omega
   ·exact d
  ·obtain rfl:i=k:=by omega
   obtain rfl:x=y:=by rw[e] at a;exact Option.some.inj a
   refine⟨hw,by rw[if_pos rfl];omega,_,cC b.at1,?_,b.at2⟩;have:=(TB b.at0).2;exact of_decide_eq_true this
 ·by_cases n:j<k;·exact h.inc i j y z c n a l he
  ·obtain rfl:j=k:=by omega
   obtain rfl:x=z:=by rw[e] at l;exact Option.some.inj l
   have:=(h.all i y c a).2.1;rw[he] at this;omega
theorem YJ.bad{s:CSt}{st k:Nat}{u:List Int}{x:Int×Int}(hp:BK c s)(hs:p9 c s st)(h:YJ s st (gZ (aU s st)) k u)(p:(gZ (aU s st))[k]?=some x):dr s st u x:=by
 obtain⟨g,a⟩:=adB.1 p;have hm:x∈gZ (aU s st):=a▸aeT g;obtain⟨hw,j,d,e,q⟩:=hs.out x hm;have b:=hp.port x.1.toNat (by omega);have r:=(b.out j d).2.1;have hex: ∃j∈(aN s x.1.toNat).out,j.n=x.2:=⟨j,d,e⟩
 obtain⟨l,t⟩:=YN hex;refine⟨hw,?_,dU.2 ⟨j,d,decide_eq_true e⟩,l,?_⟩
 ·rcases h.lst x.1.toNat (by omega) with m|⟨i,hi,m⟩
  ·omega
  ·obtain⟨f,v⟩:=adB.1 m;have o:=adZ.1 hs.inc i k f g hi;rw[v,a] at o;exact o (by dsimp only;omega)
 ·have:=Br b.za (cC l) d (by rw[t,e]);rw[this];exact q
theorem dr.asks{c:Cfg}{s:CSt}{st:Nat}{u:List Int}{x:Int×Int}(hp:BK c s)(h:dr s st u x):kL c x.1 x.2:=by have hw:=h.who;have a:=hp.port x.1.toNat (by omega);have hm:=cC h.at1;have d:((aN s x.1.toNat).out.getD (bK (isC x.2) (aN s x.1.toNat).out).toNat default).n=x.2:=of_decide_eq_true (TB h.at0).2;obtain⟨_,b,_⟩:=a.out _ hm;rw[d] at b;have:=a.asks (n:=x.2) (by omega) b.1 (by omega);rwa [show ((x.1.toNat:Nat):Int)=x.1 by omega] at this
theorem YJ.end{s:CSt}{st:Nat}{V:List (Int×Int)}{u:List Int}(h:YJ s st V V.length u):(V.Pairwise fun a b=>a.1=b.1->a.2<b.2)/\ ∀x∈V,(0<=x.1/\x.1<=2)/\ ∃j∈(aN s x.1.toNat).out,j.n=x.2/\j.left=st:=by
 refine⟨adZ.2 fun i j hi d c he=> ?_,fun x e=> ?_⟩;·exact h.inc i j _ _ c d (ac8 hi) (ac8 d) he
 ·obtain⟨i,hi,rfl⟩:=adS.1 e;obtain⟨f,_,g⟩:=h.all i _ hi (ac8 hi);exact⟨f,g⟩
end Go.AM
namespace Go.Proofs.YtlncecohbakleaaGreat
open Go Go.AM
attribute [local irreducible] aK wv aC vd wvH
section
variable{H:aA}{nx:Nat}{K:ag2}
theorem MK(c:Cfg)(who:Nat)(p:fF)(hb:bG c)(hw:who<3)(bb:p.queue.length<2^21)(bk:p.out.length<2^21):ag1 lV [dA (bO c),dI who,dA (dK p)] .nil 0 fun r _ _=>r.plain=true/\r=dB (ptB c who p):=by
 refine bW.mk Tryz.func196 (by kernel_rfl) L6 rfl fun Q x=> ?_;unfold lB;obtain⟨y,Z⟩:=eM hb;have aa:=Z who;have bp:=hb.1.1;by_cases h0:(0<=p.next/\p.next<=(c.cH.getD who default).length)/\((p.queue.length:Int)<=2/\(p.queue.length:Int)<=p.next)/\(p.out.length:Int)<=4/\0<=p.last/\p.last<=3
 case neg=>
  have a: ¬iK c who p:=fun h=>h0 ⟨h.next,by have:=h.ql;omega,by have:=h.ol;omega,h.last⟩;repeat' first| (first|apply vI|refine Y6 (fun h=> ?_) fun h=> ?_|apply cQ)<;>(simp only[go_sem])|apply vT (by omega)|refine⟨by omega,?_⟩|fail
  all_goals first|exact x _ _ _ _ _ (.inr rfl) rfl ⟨rfl,congrArg dB (TH a).symm⟩| (exfalso;omega)
 obtain⟨⟨P,R⟩,⟨br,ca⟩,cc,S,T⟩:=h0;have ab:=decide_eq_true (show 0<=p.next/\p.next<=(c.cH.getD who default).length from ⟨P,R⟩);have ad:=decide_eq_true (show 0<=p.last/\p.last<=3 from ⟨S,T⟩);repeat' first| (first|apply vI|apply Y5 (by omega)|apply cQ)<;>(simp only[go_sem,ab,ad];try simp (disch:=omega) only[Iw])|refine⟨by omega,?_⟩|fail
 refine aK.Oq fun G0 z=> ?_;have c0:G0 0=some ⟨3,1,[bO c]⟩:=by rw[z];rfl
 have c1:G0 1=some ⟨4,1,[dK p]⟩:=by rw[z];rfl
 clear z
 refine aK.cW (β:=Nat) (fun k=>en [(57,dI k),(56,dI p.queue.length),(55,dS (p.queue.map aF)),(7,dI (p.next-p.queue.length)),(5,.one (.c (.ptr 4 1 0 0))),(3,.one (.c (.ptr 3 0 0 0))),(1,dI who)])
  (fun k H1 _=>k<=p.queue.length/\(∀i,i<k->p.queue.getD i default=p.next-p.queue.length+i)/\ ∀id,id<45->H1 id=G0 id) (fun k=>p.queue.length-k) 0 ⟨noF,_,by repeat' first|exact C1|refine xqI rfl rfl ?_|refine xqP (by omega) rfl rfl ?_|fail,aI,by omega,fun i hi=>by omega,fun _ _=>rfl⟩ ?_
 rintro k H1 b cd ⟨hk,A,B⟩ KL ai;have g0:H1 0=some ⟨3,1,[bO c]⟩:=by rw[B _ (by omega)];exact c0
 have g1:H1 1=some ⟨4,1,[dK p]⟩:=by rw[B _ (by omega)];exact c1
 have hA:aT b [0,1]:=AM.apart (by simp) (by simp;omega);simp only[aT,bM] at hA;by_cases o:k<p.queue.length
 ·by_cases U:p.queue.getD k default=p.next-p.queue.length+k
  ·repeat' first|apply vI<;>(simp only[go_sem];try simp (disch:=omega) only[Iw])|apply vT (by omega)|apply vF (by omega)|refine⟨by omega,?_⟩|fail
   exact ai _ _ _ (k+1) noF _ (by omega) (by omega) (by repeat' first|exact C1|refine xqI rfl rfl ?_|refine xqP (by omega) rfl rfl ?_|fail) aI ⟨by omega,bT A U,B⟩
  ·repeat' first|apply vI<;>(simp only[go_sem];try simp (disch:=omega) only[Iw])|apply vT (by omega)|refine⟨by omega,?_⟩|fail
   exact x _ _ _ _ _ (.inr rfl) rfl ⟨rfl,congrArg dB (TH fun h=>U (h.queue k o)).symm⟩
 ·have d:k=p.queue.length:=by omega
  rw[d] at A;repeat' first|apply vI<;>(simp only[go_sem,ac2,ac3,g0,g1,hA])|apply vF (by omega)|fail
  have C: ∀{H:aA} {F:Nat->Prop} {nh:Nat},b+8<=nh->Cv1 H F id nh (.omap (b+2)) (.omap (b+2)):=fun h=>.omap _ (by omega)
  refine aK.cW (β:=Nat×Int×List (List Int×Int)) (fun u=>en [(72,dI u.1),(71,dI p.out.length),(70,dS (p.out.map eCJ)),(11,.one (.c (.omap (b+2)))),(10,dI u.2.1),(7,dI (p.next-p.queue.length)),(3,.one (.c (.ptr 3 0 0 0))),(1,dI who)])
   (fun u H2 _=>u.1<=p.out.length/\H2 0=some ⟨3,1,[bO c]⟩/\H2 (b+2)=some (DH ⟨0,false,u.2.2⟩)/\zt c who p u.1 u.2.1 u.2.2) (fun u=>p.out.length-u.1) (0,-1,[])
   ⟨noF,_,by(repeat' first|exact C1|refine xqI rfl rfl ?_|refine xqP (by omega) rfl rfl ?_| (with_reducible apply C2)| ((with_reducible apply C0);exact CR (by omega) rfl)| ((with_reducible apply D0);apply CJ)|fail);all_goals exact C (by omega),aI,by dsimp only;omega,by rw[aA.aB (by omega)];exact g0,aA.aJ,⟨fun i hi=>by dsimp only at hi;omega,fun i j _ hj=>by dsimp only at hj;omega,.inl ⟨rfl,rfl⟩,fun i hi=>by dsimp only at hi;omega,fun i v D=>by simp[j9] at D⟩⟩ ?_
  rintro⟨k,last,M⟩ H2 aj ao ⟨hk,w,E,G⟩ KM V;dsimp only at hk E G;have e:aT aj [0,b+2]:=AM.apart (by simp) (by simp;omega);simp only[aT,bM] at e;by_cases o:k<p.out.length
  ·have cf: -1<=last/\last<=1000:=by
    rcases G.lst with⟨_,h⟩|⟨h0,h⟩
    ·omega
    ·have:=(G.all (k-1) (by omega)).2.1;omega
   have a: ¬(NZ c who p (p.out.getD k default)/\last<(p.out.getD k default).n/\ ∀v,j9 M [(bF c who (p.out.getD k default).n).id]=some v->v=(p.out.getD k default).left)->¬iK c who p:=fun h hp=>h (G.bad o hp)
   have m:=fun j hj=>G.next o (j:=j) hj
   generalize f:p.out.getD k default=j at a m
   by_cases q:j.who=who
   case neg=>
    have I:(j.who=(who:Int))=False:=eq_false q;repeat' first|apply vI<;>(simp only[go_sem,ac2,ac3,f,I,w,E,e])|apply vT (by omega)|refine⟨by omega,?_⟩|fail
    all_goals exact x _ _ _ _ _ (.inr rfl) rfl ⟨rfl,congrArg dB (TH (a fun h=>q h.1.1)).symm⟩
   have I:(j.who=(who:Int))=True:=eq_true q
   by_cases J:last+1<=j.n/\j.n<=p.next-p.queue.length-1
   case neg=>
    have g:=decide_eq_false J;repeat' first| (first|apply vI|apply cQ)<;>(simp only[go_sem,ac2,ac3,f,I,g,w,E,e];try simp (disch:=omega) only[Iw])|apply vT (by omega)|refine⟨by omega,?_⟩|fail
    all_goals exact x _ _ _ _ _ (.inr rfl) rfl ⟨rfl,congrArg dB (TH (a fun h=>J (by have h1:=h.1.2.1;have h2:=h.2.1;omega))).symm⟩
   have g:=decide_eq_true J
   have W:kL c who j.n:=⟨by omega,by omega,by rw[Int.toNat_natCast];omega⟩
   obtain⟨K,d,L⟩:=W
   have s:iZ c.map (List.getD (c.cH.getD who default) j.n.toNat default)=iZ c.map (bF c who j.n):=rfl
   by_cases t:j.left=iZ c.map (bF c who j.n)
   case neg=>
    have X:(j.left=iZ c.map (bF c who j.n))=False:=eq_false t;repeat' first| (first|apply vI|apply cQ|apply yH (by omega))<;>(simp only[go_sem,ac2,ac3,f,I,g,s,X,w,E,e];try simp (disch:=omega) only[Iw])|apply vT (by omega)|refine⟨by omega,?_⟩|fail
    all_goals exact x _ _ _ _ _ (.inr rfl) rfl ⟨rfl,congrArg dB (TH (a fun h=>t h.1.2.2)).symm⟩
   have X:(j.left=iZ c.map (bF c who j.n))=True:=eq_true t
   have Y:NZ c who p j:=⟨q,by omega,t⟩
   cases l:j9 M [(bF c who j.n).id] with
   |none=>
    have N:=m j rfl Y (by omega) fun v D=>by rw[l] at D;cases D
    repeat' first| (first|apply vI|apply cQ|apply yH (by omega)|refine fC y ⟨K,d,L⟩ ?_)<;>(simp only[go_sem,ac2,ac3,f,I,g,s,X,w,E,e,l,Option.isSome,Option.getD];try simp (disch:=omega) only[Iw])|apply vT (by omega)|refine⟨by omega,?_⟩|fail
    exact V _ _ _ (k+1,j.n,B1 M [(bF c who j.n).id] j.left) noF _ (by omega) (by dsimp only;omega) (by(repeat' first|exact C1|refine xqI rfl rfl ?_|refine xqP (by omega) rfl rfl ?_| (with_reducible apply C2)| ((with_reducible apply C0);exact CR (by omega) rfl)| ((with_reducible apply D0);apply CJ)|fail);all_goals exact C (by omega)) aI ⟨by dsimp only;omega,by rw[aA.aB (by omega),aA.aB (by omega)];exact w,aA.aJ,N⟩
   |some v=>
    by_cases O:v=j.left
    case neg=>
     have e4:(v=j.left)=False:=eq_false O;repeat' first| (first|apply vI|apply cQ|apply yH (by omega)|refine fC y ⟨K,d,L⟩ ?_)<;>(simp only[go_sem,ac2,ac3,f,I,g,s,X,e4,w,E,e,l,Option.isSome,Option.getD];try simp (disch:=omega) only[Iw])|apply vT (by omega)|refine⟨by omega,?_⟩|fail
     all_goals exact x _ _ _ _ _ (.inr rfl) rfl ⟨rfl,congrArg dB (TH (a fun h=>O (h.2.2 _ l))).symm⟩
    subst O;have N:=m j rfl Y (by omega) fun v D=>by rw[l] at D;exact(Option.some.inj D).symm
    repeat' first| (first|apply vI|apply cQ|apply yH (by omega)|refine fC y ⟨K,d,L⟩ ?_)<;>(simp only[go_sem,ac2,ac3,f,I,g,s,X,w,E,e,l,Option.isSome,Option.getD];try simp (disch:=omega) only[Iw])|apply vT (by omega)|refine⟨by omega,?_⟩|fail
    exact V _ _ _ (k+1,j.n,B1 M [(bF c who j.n).id] j.left) noF _ (by omega) (by dsimp only;omega) (by(repeat' first|exact C1|refine xqI rfl rfl ?_|refine xqP (by omega) rfl rfl ?_| (with_reducible apply C2)| ((with_reducible apply C0);exact CR (by omega) rfl)| ((with_reducible apply D0);apply CJ)|fail);all_goals exact C (by omega)) aI ⟨by dsimp only;omega,by rw[aA.aB (by omega),aA.aB (by omega)];exact w,aA.aJ,N⟩
  ·repeat' first|apply vI<;>(simp only[go_sem])|apply vF (by omega)|fail
   have d:k=p.out.length:=(by omega);rw[d] at G;obtain⟨q1,q2,q3⟩:=G.end;exact x _ _ _ _ _ (.inr rfl) rfl ⟨rfl,congrArg dB (Hs ⟨⟨P,R⟩,by omega,by omega,⟨S,T⟩,A,q1,q2,q3⟩).symm⟩
theorem y8{c:Cfg}{who:Nat}{p:fF}(d:bG c)(hw:who<3)(a:p.queue.length<2^21)(b:p.out.length<2^21)(h:K (dB (ptB c who p)) H nx):ag1 lV [dA (bO c),dI who,dA (dK p)] H nx K:=(MK c who p d hw a b).pure rfl (aM ⟨aE rfl,aE rfl,aE rfl,trivial⟩) fun r hr=>hr▸h
theorem sR{c:Cfg}{s:CSt}{st:Nat}{w n:Int}{u:List Int}{i0 i1 i2:Nat}(hp:BK c s)(hu:u.length=3)(z: ¬dr s st u (w,n))
 (F:i0<nx/\i1<nx/\i2<nx) (G:[i0,i1,i2].Nodup) (t:H i0=some ⟨3,1,[u.map cI]⟩) (v:H i1=some ⟨5,1,[dX s]⟩) (x:H i2=some ⟨1,1,[[cI st]]⟩)
 (h: ∀H' nx',nx<=nx'->K (dB false) H' nx'):
 ag1 dC [dI w,dI n,.one (.c (.ptr 3 i0 0 0)),.one (.c (.ptr 5 i1 0 0)),.one (.c (.ptr 1 i2 0 0))] H nx K:=by
 refine sT rfl fun Q y=> ?_
 unfold gT
 have l:aT nx [i0,i1,i2]:=AM.apart G (by simp;omega)
 simp only[aT,bM] at l
 by_cases hw:0<=w/\w<=2
 case neg=>
  have b:=decide_eq_false hw;repeat' first| (first|apply vI|apply cV)<;>(simp only[go_sem,ac2,ac3,ae0,t,v,x,b,l])|fail
  all_goals first|exact y _ _ _ _ _ (.inr rfl) rfl (h _ _ (by omega))| (exfalso;omega)
 have b:=decide_eq_true hw
 obtain⟨who,rfl⟩: ∃who:Nat,w=who:=⟨w.toNat,by omega⟩
 have A:who<3:=by omega
 obtain⟨p,d⟩: ∃p,p=aN s who:=⟨_,rfl⟩
 have i:s.bJ.getD who default=p:=d.symm
 have I:=hp.pl
 have B:=(hp.port who A).ol
 rw[<-d] at B
 have j:((u.map cI).drop who).take 1=[cI (u.getD who default)]:=by rw[aeC (by simp;omega)];simp[List.getD,show who<u.length by omega]
 have e:(u.map cI).length=3:=by rw[adE,hu]
 have hle:(who+1<=3)=True:=eq_true (by omega)
 by_cases J:u.getD who default<n
 case neg=>
  have g:(n<=u.getD who default)=True:=eq_true (by omega);repeat' first| (first|apply vI|apply cV)<;>(simp only[go_sem,ac2,ac3,ae0,t,v,x,j,e,hle,b,g,l])|refine⟨by omega,?_⟩|fail
  all_goals first|exact y _ _ _ _ _ (.inr rfl) rfl (h _ _ (by omega))| (exfalso;omega)
 have g:(n<=u.getD who default)=False:=eq_false (by omega)
 obtain⟨a,m⟩: ∃a,a=bK (isC n) p.out:=⟨_,rfl⟩
 have q: ∀{H:aA} {nx:Nat} {K:ag2},K (dI a) H nx->ag1 nV [dA (dK p),dI n] H nx K:=fun h=>J6 (p:=p) (by omega) (aE rfl) (by rw[<-m];exact h)
 by_cases f:0<=a
 case neg=>
  have k:(0<=a)=False:=eq_false f;repeat' first| (first|apply vI|apply cV|apply q)<;>(simp only[go_sem,ac2,ac3,ae0,t,v,x,j,e,hle,i,b,g,k,l])|refine⟨by omega,?_⟩|fail
  all_goals first|exact y _ _ _ _ _ (.inr rfl) rfl (h _ _ (by omega))| (exfalso;omega)
 have k:(0<=a)=True:=eq_true f
 have C:a.toNat<p.out.length:=by rw[m] at f ⊢;exact(TB f).1
 obtain⟨o,E⟩: ∃o,p.out.getD a.toNat default=o:=⟨_,rfl⟩
 have r:(o.left=(st:Int))=False:=eq_false fun he=>z ⟨hw,by rw[Int.toNat_natCast];exact J,by rw[Int.toNat_natCast,<-d,<-m];exact f,by rw[Int.toNat_natCast,<-d,<-m];exact C,by rw[Int.toNat_natCast,<-d,<-m,E];exact he⟩
 repeat' first| (first|apply vI|apply cV|apply q)<;>(simp only[go_sem,ac2,ac3,ae0,t,v,x,j,e,hle,i,b,g,k,E,r,l])|refine⟨by omega,?_⟩|fail
 all_goals first|exact y _ _ _ _ _ (.inr rfl) rfl (h _ _ (by omega))| (exfalso;omega)
def uh(c:Cfg)(st i:Nat)(d:gX):Prop:=(0<=d.left/\d.left<=c.lat.getD st default)/\(0<i->d.left=c.lat.getD st default)
theorem J0(c:Cfg)(s:CSt)(st:Nat)(hb:bG c)(hp:BK c s)(dv:s.bR.length=4)(cp:st<4)(cq:(aU s st).pipe.length<2^21)(cr:(aU s st).done.length<2^21)(ca: ∀j∈(aU s st).done,j.rsp.data.length<2^21):
 ag1 lA [dA (bO c),dA (dX s),dI st] .nil 0 fun r _ _=>r.plain=true/\r=dB (slB c s st):=by
 refine bW.mk Tryz.func197 (by kernel_rfl) J2 rfl fun Q hQ=> ?_
 unfold kJ
 obtain⟨v,g⟩: ∃v,v=aU s st:=⟨_,rfl⟩
 have ab:s.bR.getD st default=v:=g.symm
 rw[<-g] at cq cr ca
 by_cases h0:(v.pipe.length:Int)<=2/\(v.done.length:Int)<=2/\0<=v.last/\v.last<=2
 case neg=>
  have ct: ¬p9 c s st:=fun h=>h0 ⟨by have:=h.pl;rw[<-g] at this;omega,by have:=h.dl;rw[<-g] at this;omega,by have:=h.last;rw[<-g] at this;omega⟩;repeat' first| (first|apply vI|refine Y6 (fun h=> ?_) fun h=> ?_|apply cV)<;>(simp only[go_sem,ab])|apply vT (by omega)|refine⟨by omega,?_⟩|fail
  all_goals first|exact hQ _ _ _ _ _ (.inr rfl) rfl ⟨rfl,congrArg dB (Q6 ct).symm⟩| (exfalso;omega)
 obtain⟨dx,U,cc,cd⟩:=h0
 have cv:=decide_eq_true (show 0<=v.last/\v.last<=2 from ⟨cc,cd⟩)
 repeat' first| (first|apply vI|apply Y5 (by omega)|apply cV)<;>(simp only[go_sem,ab,cv])|refine⟨by omega,?_⟩|fail
 refine aK.Oq fun Y V=> ?_
 have c0:Y 0=some ⟨3,1,[bO c]⟩:=by rw[V];rfl
 have c1:Y 1=some ⟨5,1,[dX s]⟩:=by rw[V];rfl
 have c2:Y 2=some ⟨1,1,[[cI st]]⟩:=by rw[V];rfl
 have c9:Y 9=some ⟨3,1,[jF v]⟩:=by rw[V];rfl
 have cw:Y 28=some ⟨3,1,[([-1,-1,-1]:List Int).map cI]⟩:=by rw[V];rfl
 clear V
 have cf:=(eM hb).1
 have ck:=hb.2.1
 have cx:=U7 hb cp
 have hV: ∀k,k<v.done.length->(gZ (aU s st))[k]?=some (key (v.done.getD k default)):=fun k hk=>by rw[<-g];unfold gZ;rw[ae9 (by simpa using hk)];simp[List.getD,hk]
 have cy: ∀k,k<v.pipe.length->(gZ (aU s st))[v.done.length+k]?=some ((v.pipe.getD k default).who,(v.pipe.getD k default).n):=fun k hk=>by rw[<-g];unfold gZ;rw[afL (by simp)];simp[List.getD,hk]
 have da:(gZ (aU s st)).length=v.done.length+v.pipe.length:=by rw[<-g];simp[gZ]
 have K: ∀{H:aA} {F:Nat->Prop} {nh:Nat},36<=nh->Cv1 H F id nh (.clo dC [.ptr 3 28 0 0,.ptr 5 1 0 0,.ptr 1 2 0 0]) (.clo dC [.ptr 3 28 0 0,.ptr 5 1 0 0,.ptr 1 2 0 0]):=fun h=>Pc fun x hx=>by
  simp only[adA,ad4,or_false] at hx;rcases hx with rfl|rfl|rfl;·exact⟨_,_,_,_,by omega,rfl⟩
  ·exact⟨_,_,_,_,by omega,rfl⟩
  ·exact⟨_,_,_,_,by omega,rfl⟩
 have t:=hp.pl
 refine aK.cW (β:=Nat×List Int) (fun u=>en [(40,dI u.1),(39,dI v.done.length),(38,dS (v.done.map aL)),(9,.one (.c (.clo dC [.ptr 3 28 0 0,.ptr 5 1 0 0,.ptr 1 2 0 0]))),(7,.one (.c (.ptr 3 9 0 0))),(5,.one (.c (.ptr 1 2 0 0))),(3,.one (.c (.ptr 3 0 0 0)))])
  (fun u H1 _=>u.1<=v.done.length/\YJ s st (gZ (aU s st)) u.1 u.2/\(∀i,i<u.1->yC c (v.done.getD i default))/\H1 28=some ⟨3,1,[u.2.map cI]⟩/\ ∀id,id<36->id≠28->H1 id=Y id) (fun u=>v.done.length-u.1) (0,[-1,-1,-1])
  ⟨noF,_,by(repeat' first|exact C1|refine xqI rfl rfl ?_|refine xqP (by omega) rfl rfl ?_| (with_reducible apply C2)| ((with_reducible apply D0);apply CJ)|fail);all_goals exact K (by omega),aI,by dsimp only;omega,YJ.nil,fun i hi=>by dsimp only at hi;omega,cw,fun _ _ _=>rfl⟩ ?_
 rintro⟨k,u⟩ H1 O dy ⟨hk,P,hR,b,m⟩ KL dc
 dsimp only at hk P hR b
 have S:H1 0=some ⟨3,1,[bO c]⟩:=by rw[m _ (by omega) (by omega)];exact c0
 have E:H1 1=some ⟨5,1,[dX s]⟩:=by rw[m _ (by omega) (by omega)];exact c1
 have G:H1 2=some ⟨1,1,[[cI st]]⟩:=by rw[m _ (by omega) (by omega)];exact c2
 have g9:H1 9=some ⟨3,1,[jF v]⟩:=by rw[m _ (by omega) (by omega)];exact c9
 have a:aT O [0,1,2,9,28]:=AM.apart (by simp) (by simp;omega)
 simp only[aT,bM] at a
 have y:=P.ul
 by_cases W:k<v.done.length
 ·obtain⟨d,l⟩: ∃d,d=v.done.getD k default:=⟨_,rfl⟩
  have bb:d∈(aU s st).done:=by rw[l,<-g];exact cC W
  have hx:=hV k W;rw[<-l] at hx;have bk:d.rsp.data.length<2^40:=by have h1:=ca d (by rw[g];exact bb);omega
  by_cases hF:dr s st u (key d)
  case neg=>
   repeat' first| (first|apply vI| (refine sR (c:=c) (w:=d.who) (n:=d.n) hp y hF (by omega) (by simp) (by simp only[aA.set,a,if_false];exact b) (by simp only[aA.set,a,if_false];exact E) (by simp only[aA.set,a,if_false];exact G) (fun H' nx' L=> ?_)))<;>(simp only[go_sem,ac2,ac3,l.symm,S,E,G,b,a])|apply vT (by omega)|refine⟨by omega,?_⟩|fail
   repeat' first|apply vI<;>(simp only[go_sem])|fail
   all_goals exact hQ _ _ _ _ _ (.inr rfl) rfl ⟨rfl,congrArg dB (Q6 fun h=>hF (P.bad hp h hx)).symm⟩
  have X:=P.next hx hF;have aa:=hF.asks hp;obtain⟨bp,Z,A,B,C⟩:=hF;dsimp only[key] at bp Z A B C X aa;have M:d.who=(d.who.toNat:Int):=by omega
  have D:d.who.toNat<3:=by omega
  have N:(aN s d.who.toNat).out.length<2^40:=by have:=(hp.port _ D).ol;omega
  by_cases aj:jY d.rsp
  case neg=>
   have R:=decide_eq_false aj;repeat' first| (first|apply vI| (refine eJ (w:=d.who) (n:=d.n) M y D Z t N A B C (by omega) (by simp) (by simp only[aA.set,a,if_false];exact b) (by simp only[aA.set,a,if_false];exact E) (by simp only[aA.set,a,if_false];exact G) (fun H' nx' L J f=> ?_)))<;>(simp only[go_sem,ac2,ac3,l.symm,S,E,G,b,a])|apply vT (by omega)|refine⟨by omega,?_⟩|fail
   have o:H' 0=some ⟨3,1,[bO c]⟩:=(by rw[f _ (by omega) (by omega)];simp only[aA.set,a,if_false];exact S);have I:H' (O+3)=some ⟨5,1,[aL d]⟩:=(by rw[f _ (by omega) (by omega)];exact aA.aJ);have z:aT nx' [0,1,2,9,28,O+3]:=AM.apart (by simp;omega) (by simp;omega);simp only[aT,bM] at z;simp only[go_sem,ac2,ac3,o,I,R,z];repeat' first| (first|apply vI|apply sX bk)<;>(simp only[go_sem,ac2,ac3,o,I,R,z])|fail
   all_goals exact hQ _ _ _ _ _ (.inr rfl) rfl ⟨rfl,congrArg dB (Q6 fun h=>aj (h.rsp d bb).1).symm⟩
  have R:=decide_eq_true aj;by_cases ao:d.rsp.id=(bF c d.who d.n).id
  case neg=>
   have df:(d.rsp.id=(bF c d.who d.n).id)=False:=eq_false ao;repeat' first| (first|apply vI| (refine eJ (w:=d.who) (n:=d.n) M y D Z t N A B C (by omega) (by simp) (by simp only[aA.set,a,if_false];exact b) (by simp only[aA.set,a,if_false];exact E) (by simp only[aA.set,a,if_false];exact G) (fun H' nx' L J f=> ?_)))<;>(simp only[go_sem,ac2,ac3,l.symm,S,E,G,b,a])|apply vT (by omega)|refine⟨by omega,?_⟩|fail
   have o:H' 0=some ⟨3,1,[bO c]⟩:=(by rw[f _ (by omega) (by omega)];simp only[aA.set,a,if_false];exact S);have I:H' (O+3)=some ⟨5,1,[aL d]⟩:=(by rw[f _ (by omega) (by omega)];exact aA.aJ);have z:aT nx' [0,1,2,9,28,O+3]:=AM.apart (by simp;omega) (by simp;omega);simp only[aT,bM] at z;simp only[go_sem,ac2,ac3,o,I,R,z];repeat' first| (first|apply vI|apply sX bk|apply fC cf aa)<;>(simp only[go_sem,ac2,ac3,o,I,R,df,z])|fail
   all_goals exact hQ _ _ _ _ _ (.inr rfl) rfl ⟨rfl,congrArg dB (Q6 fun h=>ao (h.rsp d bb).2).symm⟩
  repeat' first| (first|apply vI| (refine eJ (w:=d.who) (n:=d.n) M y D Z t N A B C (by omega) (by simp) (by simp only[aA.set,a,if_false];exact b) (by simp only[aA.set,a,if_false];exact E) (by simp only[aA.set,a,if_false];exact G) (fun H' nx' L J f=> ?_)))<;>(simp only[go_sem,ac2,ac3,l.symm,S,E,G,b,a])|apply vT (by omega)|refine⟨by omega,?_⟩|fail
  have o:H' 0=some ⟨3,1,[bO c]⟩:=by rw[f _ (by omega) (by omega)];simp only[aA.set,a,if_false];exact S
  have I:H' (O+3)=some ⟨5,1,[aL d]⟩:=by rw[f _ (by omega) (by omega)];exact aA.aJ
  have e: ∀id,id<36->id≠28->H' id=Y id:=fun id o T=>by rw[f id (by omega) T,aA.aB (by omega)];exact m id o T
  have z:aT nx' [0,1,2,9,28,O+3]:=AM.apart (by simp;omega) (by simp;omega);simp only[aT,bM] at z;simp only[go_sem,ac2,ac3,o,I,R,z];repeat' first| (first|apply vI|apply sX bk|apply fC cf aa)<;>(simp only[go_sem,ac2,ac3,o,I,R,ao,z];try simp (disch:=omega) only[Iw])|fail
  exact dc _ _ _ (k+1,u.set d.who.toNat d.n) noF _ (by omega) (by dsimp only;omega) (by(repeat' first|exact C1|refine xqI rfl rfl ?_|refine xqP (by omega) rfl rfl ?_| (with_reducible apply C2)| ((with_reducible apply D0);apply CJ)|fail);all_goals exact K (by omega)) aI ⟨by dsimp only;omega,X,bT hR (by rw[<-l];exact⟨aj,ao⟩),J,e⟩
 ·repeat' first|apply vI<;>(simp only[go_sem,g9])|apply vF (by omega)|fail
  have dh:k=v.done.length:=by omega
  rw[dh] at P hR;clear W hk
  refine aK.cW (β:=Nat×List Int) (fun u=>en [(73,dI u.1),(72,dI v.pipe.length),(71,dS (v.pipe.map eCJ)),(9,.one (.c (.clo dC [.ptr 3 28 0 0,.ptr 5 1 0 0,.ptr 1 2 0 0]))),(5,.one (.c (.ptr 1 2 0 0))),(3,.one (.c (.ptr 3 0 0 0)))])
   (fun u H1 _=>u.1<=v.pipe.length/\YJ s st (gZ (aU s st)) (v.done.length+u.1) u.2/\(∀i,i<u.1->uh c st i (v.pipe.getD i default))/\H1 28=some ⟨3,1,[u.2.map cI]⟩/\ ∀id,id<36->id≠28->H1 id=Y id) (fun u=>v.pipe.length-u.1) (0,u)
   ⟨noF,_,by(repeat' first|exact C1|refine xqI rfl rfl ?_|refine xqP (by omega) rfl rfl ?_| (with_reducible apply C2)| ((with_reducible apply D0);apply CJ)|fail);all_goals exact K (by omega),aI,by dsimp only;omega,P,fun i hi=>by dsimp only at hi;omega,b,m⟩ ?_
  clear P b m S E G g9 a y;rintro⟨k,u⟩ H2 ad dm ⟨hk,P,hL,b,m⟩ KM cl;dsimp only at hk P hL b;have S:H2 0=some ⟨3,1,[bO c]⟩:=by rw[m _ (by omega) (by omega)];exact c0
  have E:H2 1=some ⟨5,1,[dX s]⟩:=by rw[m _ (by omega) (by omega)];exact c1
  have G:H2 2=some ⟨1,1,[[cI st]]⟩:=by rw[m _ (by omega) (by omega)];exact c2
  have a:aT ad [0,1,2,9,28]:=AM.apart (by simp) (by simp;omega);simp only[aT,bM] at a;have y:=P.ul;by_cases W:k<v.pipe.length
  ·obtain⟨d,l⟩: ∃d,d=v.pipe.getD k default:=⟨_,rfl⟩
   have hx:=cy k W;rw[<-l] at hx;by_cases hF:dr s st u (d.who,d.n)
   case neg=>
    repeat' first| (first|apply vI| (refine sR (c:=c) (w:=d.who) (n:=d.n) hp y hF (by omega) (by simp) (by simp only[aA.set,a,if_false];exact b) (by simp only[aA.set,a,if_false];exact E) (by simp only[aA.set,a,if_false];exact G) (fun H' nx' L=> ?_)))<;>(simp only[go_sem,ac2,ac3,l.symm,S,E,G,b,a])|apply vT (by omega)|refine⟨by omega,?_⟩|fail
    repeat' first|apply vI<;>(simp only[go_sem])|fail
    all_goals exact hQ _ _ _ _ _ (.inr rfl) rfl ⟨rfl,congrArg dB (Q6 fun h=>hF (P.bad hp h hx)).symm⟩
   have X:=P.next hx hF;obtain⟨bp,Z,A,B,C⟩:=hF;dsimp only at bp Z A B C X;have M:d.who=(d.who.toNat:Int):=(by omega);have D:d.who.toNat<3:=(by omega);have N:(aN s d.who.toNat).out.length<2^40:=by have:=(hp.port _ D).ol;omega
   have ai: ¬uh c st k d->¬p9 c s st:=fun Z h=>Z (by
    have:=h.left k (by rw[<-g];exact W)
    rw[<-g,<-l] at this
    exact this)
   rcases aeO k with h0|h0
   ·have p:((k:Int)=0)=True:=eq_true (by omega);have q:(0<(k:Int))=False:=eq_false (by omega);by_cases hl:0<=d.left/\d.left<=c.lat.getD st default
    ·have U:=decide_eq_true hl;repeat' first| (first|apply vI| (refine eJ (w:=d.who) (n:=d.n) M y D Z t N A B C (by omega) (by simp) (by simp only[aA.set,a,if_false];exact b) (by simp only[aA.set,a,if_false];exact E) (by simp only[aA.set,a,if_false];exact G) (fun H' nx' L J f=> ?_)))<;>(simp only[go_sem,ac2,ac3,l.symm,S,E,G,b,p,q,a])|apply vT (by omega)|refine⟨by omega,?_⟩|fail
     have e: ∀id,id<36->id≠28->H' id=Y id:=fun id o T=>by rw[f id (by omega) T,aA.aB (by omega)];exact m id o T
     have o:H' 0=some ⟨3,1,[bO c]⟩:=(e _ (by omega) (by omega)).trans c0;have e2:H' 2=some ⟨1,1,[[cI st]]⟩:=(e _ (by omega) (by omega)).trans c2;have I:H' (ad+4)=some ⟨3,1,[eCJ d]⟩:=(by rw[f _ (by omega) (by omega)];exact aA.aJ);simp only[go_sem,ac2,ac3,o,e2,I,U,p,q,a];repeat' first| (first|apply vI|apply cQ)<;>(simp only[go_sem,ac2,ac3,o,e2,I,U,p,q,a];try simp (disch:=omega) only[Iw])|refine⟨by omega,?_⟩|fail
     all_goals exact cl _ _ _ (k+1,u.set d.who.toNat d.n) noF _ (by omega) (by dsimp only;omega) (by(repeat' first|exact C1|refine xqI rfl rfl ?_|refine xqP (by omega) rfl rfl ?_| (with_reducible apply C2)| ((with_reducible apply D0);apply CJ)|fail);all_goals exact K (by omega)) aI ⟨by dsimp only;omega,X,bT hL (by rw[<-l];exact⟨hl,fun h=>by omega⟩),J,e⟩
    ·have U:=decide_eq_false hl;repeat' first| (first|apply vI| (refine eJ (w:=d.who) (n:=d.n) M y D Z t N A B C (by omega) (by simp) (by simp only[aA.set,a,if_false];exact b) (by simp only[aA.set,a,if_false];exact E) (by simp only[aA.set,a,if_false];exact G) (fun H' nx' L J f=> ?_)))<;>(simp only[go_sem,ac2,ac3,l.symm,S,E,G,b,p,q,a])|apply vT (by omega)|refine⟨by omega,?_⟩|fail
     have e: ∀id,id<36->id≠28->H' id=Y id:=fun id o T=>by rw[f id (by omega) T,aA.aB (by omega)];exact m id o T
     have o:H' 0=some ⟨3,1,[bO c]⟩:=(e _ (by omega) (by omega)).trans c0;have e2:H' 2=some ⟨1,1,[[cI st]]⟩:=(e _ (by omega) (by omega)).trans c2;have I:H' (ad+4)=some ⟨3,1,[eCJ d]⟩:=(by rw[f _ (by omega) (by omega)];exact aA.aJ);simp only[go_sem,ac2,ac3,o,e2,I,U,p,q,a];repeat' first| (first|apply vI|apply cQ)<;>(simp only[go_sem,ac2,ac3,o,e2,I,U,p,q,a])|refine⟨by omega,?_⟩|fail
     all_goals exact hQ _ _ _ _ _ (.inr rfl) rfl ⟨rfl,congrArg dB (Q6 (ai fun h=>hl h.1)).symm⟩
   ·have p:((k:Int)=0)=False:=eq_false (by omega);have q:(0<(k:Int))=True:=eq_true (by omega);by_cases hl:d.left=c.lat.getD st default
    ·have br:(d.left=c.lat.getD st default)=True:=eq_true hl;repeat' first| (first|apply vI| (refine eJ (w:=d.who) (n:=d.n) M y D Z t N A B C (by omega) (by simp) (by simp only[aA.set,a,if_false];exact b) (by simp only[aA.set,a,if_false];exact E) (by simp only[aA.set,a,if_false];exact G) (fun H' nx' L J f=> ?_)))<;>(simp only[go_sem,ac2,ac3,l.symm,S,E,G,b,p,q,a])|apply vT (by omega)|refine⟨by omega,?_⟩|fail
     have e: ∀id,id<36->id≠28->H' id=Y id:=fun id o T=>by rw[f id (by omega) T,aA.aB (by omega)];exact m id o T
     have o:H' 0=some ⟨3,1,[bO c]⟩:=(e _ (by omega) (by omega)).trans c0;have e2:H' 2=some ⟨1,1,[[cI st]]⟩:=(e _ (by omega) (by omega)).trans c2;have I:H' (ad+4)=some ⟨3,1,[eCJ d]⟩:=(by rw[f _ (by omega) (by omega)];exact aA.aJ);simp only[go_sem,ac2,ac3,o,e2,I,p,q,a];repeat' first|apply vI<;>(simp only[go_sem,ac2,ac3,o,e2,I,p,q,br,a];try simp (disch:=omega) only[Iw])|refine⟨by omega,?_⟩|fail
     all_goals exact cl _ _ _ (k+1,u.set d.who.toNat d.n) noF _ (by omega) (by dsimp only;omega) (by(repeat' first|exact C1|refine xqI rfl rfl ?_|refine xqP (by omega) rfl rfl ?_| (with_reducible apply C2)| ((with_reducible apply D0);apply CJ)|fail);all_goals exact K (by omega)) aI ⟨by dsimp only;omega,X,bT hL (by rw[<-l];exact⟨by omega,fun _=>hl⟩),J,e⟩
    ·have br:(d.left=c.lat.getD st default)=False:=eq_false hl;repeat' first| (first|apply vI| (refine eJ (w:=d.who) (n:=d.n) M y D Z t N A B C (by omega) (by simp) (by simp only[aA.set,a,if_false];exact b) (by simp only[aA.set,a,if_false];exact E) (by simp only[aA.set,a,if_false];exact G) (fun H' nx' L J f=> ?_)))<;>(simp only[go_sem,ac2,ac3,l.symm,S,E,G,b,p,q,a])|apply vT (by omega)|refine⟨by omega,?_⟩|fail
     have e: ∀id,id<36->id≠28->H' id=Y id:=fun id o T=>by rw[f id (by omega) T,aA.aB (by omega)];exact m id o T
     have o:H' 0=some ⟨3,1,[bO c]⟩:=(e _ (by omega) (by omega)).trans c0;have e2:H' 2=some ⟨1,1,[[cI st]]⟩:=(e _ (by omega) (by omega)).trans c2;have I:H' (ad+4)=some ⟨3,1,[eCJ d]⟩:=(by rw[f _ (by omega) (by omega)];exact aA.aJ);simp only[go_sem,ac2,ac3,o,e2,I,p,q,a];repeat' first|apply vI<;>(simp only[go_sem,ac2,ac3,o,e2,I,p,q,br,a])|refine⟨by omega,?_⟩|fail
     all_goals exact hQ _ _ _ _ _ (.inr rfl) rfl ⟨rfl,congrArg dB (Q6 (ai fun h=>hl (h.2 h0))).symm⟩
  ·repeat' first|apply vI<;>(simp only[go_sem])|apply vF (by omega)|fail
   have ds:k=v.pipe.length:=(by omega);rw[ds] at P hL;rw[<-da] at P;obtain⟨q1,q2⟩:=P.end;refine hQ _ _ _ _ _ (.inr rfl) rfl ⟨rfl,congrArg dB (Ik ⟨?_,?_,?_,q1,q2,?_,?_⟩).symm⟩;·rw[<-g];omega
   ·rw[<-g];omega
   ·rw[<-g];exact⟨cc,cd⟩
   ·rw[<-g];exact iS hR
   ·rw[<-g];exact hL
theorem xW{c:Cfg}{s:CSt}{st:Nat}(g:bG c)(hp:BK c s)(a:s.bR.length=4)(b:st<4)(d:(aU s st).pipe.length<2^21)(e:(aU s st).done.length<2^21)(f: ∀j∈(aU s st).done,j.rsp.data.length<2^21)(h:K (dB (slB c s st)) H nx):ag1 lA [dA (bO c),dA (dX s),dI st] H nx K:=(J0 c s st g hp a b d e f).pure rfl (aM ⟨aE rfl,aE rfl,aE rfl,trivial⟩) fun r hr=>hr▸h
end
end Go.Proofs.YtlncecohbakleaaGreat
