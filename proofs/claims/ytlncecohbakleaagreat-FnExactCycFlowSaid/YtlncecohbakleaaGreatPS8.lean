/- Texts laid together by a program: rules, contracts and the walk that leads to the law. -/
import Derived.Test.YtlncecohbakleaaGreatPS4
import Derived.Test.YtlncecohbakleaaGreatPS6
set_option linter.unusedVariables false
set_option linter.unusedSimpArgs false
set_option linter.unusedSectionVars false
set_option maxRecDepth 100000
set_option maxHeartbeats 8000000
namespace Go.AM
variable{k:Nat}
theorem WU{α:Type}[Inhabited α]{l:List α}(h:k<l.length):l.Perm (l.getD k default::B3 l k):=by
 have e:l=l.take k++l.getD k default::l.drop (k+1):=by
  have:l.getD k default=l[k]:=by simp[List.getD,h]
  rw[this,<-brB h,boN]
 conv=>lhs;rw[e]
 exact brR
theorem akU{α:Type}{l:List α}:(B3 l k).Sublist l:=by unfold B3;have h:=(List.Sublist.refl (l.take k)).append (bsK l (Nat.le_succ k));rwa [boN] at h
theorem RP{α:Type}[Inhabited α]{l:List α}(h:k<l.length):(B3 l k).length+1=l.length:=by have:=(WU h).length_eq;simp at this;omega
theorem ajV{α:Type}[Inhabited α]{p:α->Bool}{l:List α}(h:0<=bK p l):(bK p l).toNat<l.length/\p (l.getD (bK p l).toNat default)=true:=by
 have c:=PQ (p:=p) (l:=l);refine⟨by omega,?_⟩;unfold bK at*;split at h;·rename_i i hi;have:=Z4.1 hi;obtain⟨a,b,_⟩:=this;simpa [List.getD,a] using b
 ·omega
variable{l:List fC}
theorem PJ{n:Int}(h: ∃j∈l,j.n=n):(bK (isC n) l).toNat<l.length/\(l.getD (bK (isC n) l).toNat default).n=n:=by obtain⟨j,a,b⟩:=h;have c:0<=bK (isC n) l:=cH.2 ⟨j,a,by simp[isC,b]⟩;obtain⟨d,e⟩:=ajV c;exact⟨d,by simpa [isC] using e⟩
theorem aj2{n:Int}(h: ∃j∈l,j.n=n):(PE l n).length+1=l.length:=RP (PJ h).1
theorem amU{n:Int}(h: ∃j∈l,j.n=n){x:fC}(a:x∈l)(b:x.n≠n):x∈PE l n:=by
 obtain⟨c,d⟩:=PJ h;have:=(WU c).mem_iff.1 a;rcases t3.1 this with rfl|hm;·exact absurd d b
 ·exact hm
theorem TA{n:Int}:(PE l n).Sublist l:=akU
theorem QF{α:Type}[Inhabited α]{l:List α}{i:Nat}:(l.drop 1).getD i default=l.getD (i+1) default:=by
 cases l with
 |nil=>simp
 |cons x l=>simp
theorem WI{α:Type}[Inhabited α]{l:List α}{x:α}{i:Nat}:(l++[x]).getD i default=if i=l.length then x else l.getD i default:=by
 simp only[List.getD,o5];split;·rw[if_neg (by omega)]
 ·split;·rename_i h;subst h;simp
  ·rename_i a b;rw[Z3 (by simp;omega),Z3 (by omega)]
theorem ZO(h:l.Pairwise fun a b=>a.n<b.n){a b:fC}(e:a∈l)(f:b∈l)(he:a.n=b.n):a=b:=by
 induction l with
 |nil=>simp at e
 |cons x l j=>
  rw[G0] at h;rcases t3.1 e with g|i
  ·rcases t3.1 f with c|d;·rw[g,c]
   ·have:=h.1 b d;rw[g] at he;omega
  ·rcases t3.1 f with c|d;·have:=h.1 a i;rw[c] at he;omega
   ·exact j h.2 i d
variable{c:Cfg}{st:Nat}
theorem S0(a:aQ c)(h:st<4):0<=c.lat.getD st default/\c.lat.getD st default<=3:=aj1 a.2.2.1 (by have:=a.2.1;omega)
variable{s:CSt}
theorem COk.af8(h:COk c s)(hs:st<4)(a:0<(aL s st).done.length): ∃j∈(aF s (iF s st).who.toNat).out,j.n=(iF s st).n/\j.left=st:=((h.slv st hs).out _ (M9 (cC a))).2
theorem Z0.wT{s':CSt}(h:Z0 c s st)(he:aL s' st=aL s st)(e: ∀x∈cS (aL s st),∀j∈(aF s x.1.toNat).out,j.n=x.2->j.left=st->j∈(aF s' x.1.toNat).out):Z0 c s' st:=by refine⟨by rw[he];exact h.pl,by rw[he];exact h.dl,by rw[he];exact h.last,by rw[he];exact h.inc,fun x a=> ?_,by rw[he];exact h.rsp,by rw[he];exact h.left⟩;rw[he] at a;obtain⟨f,j,g,b,d⟩:=h.out x a;exact⟨f,j,e x a j g b d,b,d⟩
variable{who:Nat}{p:fR}
theorem mD.tell(h:mD c who p){n:Int}(hs:st<4):mD c who {p with out:=PE p.out n,last:=st}:=by have hm: ∀j∈PE p.out n,j∈p.out:=fun j d=>TA.subset d;exact⟨h.next,h.ql,CQ TA.length_le h.ol,by dsimp only;omega,h.queue,fun j d=>h.out j (hm j d),h.acX.sublist TA,fun a e b f=>h.akF a (hm a e) b (hm b f)⟩
theorem mD.adm(h:mD c who p)(k:0<p.queue.length)(r:p.out.length<4)(l:gZ c.map (bT c who (p.queue.getD 0 default))=st)
 (k9: ∀j∈p.out,(bT c who j.n).id=(bT c who (p.queue.getD 0 default)).id->j.left=st):mD c who {p with queue:=p.queue.drop 1,out:=p.out++[⟨who,p.queue.getD 0 default,st⟩]}:=by
 have m:=h.queue 0 k
 have o:=h.next
 have q:=h.ql
 have hl:(p.queue.drop 1).length=p.queue.length-1:=by simp
 refine⟨o,by dsimp only;omega,by simp;omega,h.last,fun i hi=> ?_,fun j f=> ?_,?_,fun a e b d g=> ?_⟩
 ·dsimp only at hi ⊢;rw[QF,h.queue (i+1) (by omega)];omega
 ·dsimp only at f ⊢;rcases o3.1 f with f|f;·have:=h.out j f;exact⟨this.1,by omega,this.2.2⟩
  ·simp only[CJ] at f;subst f;exact⟨rfl,by dsimp only;omega,l.symm⟩
 ·dsimp only;rw[brM];refine⟨h.acX,by simp,fun a e b d=> ?_⟩;simp only[CJ] at d;subst d;have:=(h.out a e).2.1;dsimp only;omega
 ·dsimp only at e d;rcases o3.1 e with e|e<;>rcases o3.1 d with d|d;·exact h.akF a e b d g
  ·simp only[CJ] at d;subst d;exact k9 a e g
  ·simp only[CJ] at e;subst e;exact(k9 b d g.symm).symm
  ·simp only[CJ] at e d;subst e;subst d;rfl
theorem mD.ask(h:mD c who p)(d:p.queue.length<2)(e:p.next<(c.cP.getD who default).length):mD c who {p with queue:=p.queue++[p.next],next:=p.next+1}:=by
 have f:=h.next;have a:=h.ql;refine⟨by dsimp only;omega,by simp;omega,h.ol,h.last,fun i hi=> ?_,fun j b=> ?_,h.acX,h.akF⟩
 ·simp only[t2,List.length_singleton] at hi ⊢;rw[WI];split;·omega
  ·rw[h.queue i (by omega)];omega
 ·have:=h.out j b;refine⟨this.1,?_,this.2.2⟩;simp only[t2,List.length_singleton];omega
variable{m:Mic}
theorem ajG(a:aQ c)(h:COk c s)(b:EH c s m):BA c (cX (aR c s m)):=by
 rw[af6 a h b];have hw:=XZ h b
 cases m with
 |tick st=>exact h.st
 |adm who st=>exact h.st
 |tell who st=>exact G9 a h.st (hw ⟨3,who,(iF s st).n⟩ (CJ.2 rfl))
 |work st=>exact G9 a h.st (hw ⟨2,(bI s st).who,(bI s st).n⟩ (CJ.2 rfl))
 |ask who=>exact G9 a h.st (hw ⟨1,who,(aF s who).next⟩ (CJ.2 rfl))
theorem aa4:(aR c s m).bM.length=s.bM.length/\(aR c s m).dD.length=s.dD.length:=by cases m<;>simp[aR]
theorem am9(h:COk c s)(b:EH c s m): ∀k,k<3->mD c k (aF (aR c s m) k):=by
 have i:=h.pl;intro k j;have hp:=h.port k j
 cases m with
 |tick st=>exact hp
 |work st=>exact hp
 |tell who st=>
  obtain⟨f,a,d,g⟩:=b;rw[bL (s:=s) (s':=aR c s (.tell who st)) rfl (by omega)];split;·rename_i e;subst e;exact hp.tell a
  ·exact hp
 |adm who st=>
  obtain⟨f,a,d,g,k9,l1,bOW⟩:=b;rw[bL (s:=s) (s':=aR c s (.adm who st)) rfl (by omega)];split;·rename_i e;subst e;exact hp.adm g k9 l1 bOW
  ·exact hp
 |ask who=>
  obtain⟨f,a,d⟩:=b;rw[bL (s:=s) (s':=aR c s (.ask who)) rfl (by omega)];split;·rename_i e;subst e;exact hp.ask a d
  ·exact hp
theorem an6(G:aQ c)(h:COk c s)(y:EH c s m): ∀k,k<4->Z0 c (aR c s m) k:=by
 have K:=h.pl;have L:=h.sl;intro k M;have f:=h.slv k M
 cases m with
 |ask who=>
  obtain⟨F,u,q⟩:=y;refine f.wT rfl fun x o j g _ _=> ?_;rw[bL (s:=s) (s':=aR c s (.ask who)) rfl (by omega)];split;·rename_i e;rw[e] at g;exact g
  ·exact g
 |tick st=>
  obtain⟨u,q,z⟩:=y;have d:=bO (s:=s) (s':=aR c s (.tick st)) rfl (by omega:st<s.dD.length) k;by_cases e:k=st
  ·subst e;rw[if_pos rfl] at d;have N:=f.left 0 q
   have l:cS (aL (aR c s (.tick k)) k)=cS (aL s k):=by
    rw[d];unfold cS;dsimp only;congr 1;conv=>rhs;rw[gT q]
    conv=>lhs;rw[gT q]
    rfl
   refine⟨by rw[d];simpa using f.pl,by rw[d];exact f.dl,by rw[d];exact f.last,by rw[l];exact f.inc,fun x o=> ?_,by rw[d];exact f.rsp,?_⟩;·rw[l] at o;exact f.out x o
   ·rw[d];simp only[Y5];intro i hi;rw[pY q];split;·rename_i e;subst e;dsimp only;unfold bI;exact⟨by omega,fun hc=>absurd hc (by omega)⟩
    ·exact f.left i hi
  ·rw[if_neg e] at d;exact f.wT d fun x o j g _ _=>g
 |work st=>
  obtain⟨u,q,z,k9⟩:=y;have d:=bO (s:=s) (s':=aR c s (.work st)) rfl (by omega:st<s.dD.length) k;by_cases e:k=st
  ·subst e;rw[if_pos rfl] at d
   have l:cS (aL (aR c s (.work k)) k)=cS (aL s k):=by
    rw[d];unfold cS;dsimp only;conv=>rhs;rw[gT q]
    simp[key,bI]
   have hm:((bI s k).who,(bI s k).n)∈cS (aL s k):=JB (cC q);obtain⟨A,v,B⟩:=h.vIn u hm;dsimp only at A v B;refine⟨by rw[d];have:=f.pl;simp;omega,by rw[d];simp;omega,by rw[d];exact f.last,by rw[l];exact f.inc,fun x o=> ?_,?_,?_⟩;·rw[l] at o;exact f.out x o
   ·rw[d];intro j g;rcases o3.1 g with g|g;·exact f.rsp j g
    ·simp only[CJ] at g;subst g;have hp:=h.port (bI s k).who.toNat (by omega);have C:oA c (bI s k).who (bI s k).n:=by have:=hp.asks (n:=(bI s k).n) (by omega) v (by have:=hp.ql;omega);have O:(((bI s k).who.toNat:Nat):Int)=(bI s k).who:=(by omega);rwa [O] at this
     exact afD h.atm.wr (GK G C)
   ·rw[d];simp only[CI];intro i hi;rw[QF];have:=f.left (i+1) (by omega);rw[this.2 (by omega)];have:=S0 G u;exact⟨by omega,fun _=>rfl⟩
  ·rw[if_neg e] at d;exact f.wT d fun x o j g _ _=>g
 |adm who st=>
  obtain⟨F,u,q,z,k9,l1,bOW⟩:=y;have d:=bO (s:=s) (s':=aR c s (.adm who st)) rfl (by omega:st<s.dD.length) k;have boS:=fun w=>bL (s:=s) (s':=aR c s (.adm who st)) rfl (by omega:who<s.bM.length) w
  have p: ∀w,∀j∈(aF s w).out,j∈(aF (aR c s (.adm who st)) w).out:=fun w j g=>by
   rw[boS];split;·rename_i e;subst e;exact brA _ g
   ·exact g
  by_cases e:k=st
  ·subst e;rw[if_pos rfl] at d;have l:cS (aL (aR c s (.adm who k)) k)=cS (aL s k)++[((who:Int),(aF s who).queue.getD 0 default)]:=(by rw[d];unfold cS;simp);have P:=(h.port who F).queue 0 z;refine⟨by rw[d];simp;omega,by rw[d];exact f.dl,by rw[d];dsimp only;omega,?_,fun x o=> ?_,by rw[d];exact f.rsp,?_⟩;·rw[l,brM];refine⟨f.inc,by simp,fun a Q b D H=> ?_⟩;simp only[CJ] at D;subst D;dsimp only at H ⊢;have:=(h.vIn u Q).2.2;have e:a.1.toNat=who:=(by omega);rw[e] at this;omega
   ·rw[l] at o;rcases o3.1 o with o|o;·obtain⟨A,j,v,B⟩:=f.out x o;exact⟨A,j,p _ j v,B⟩
    ·simp only[CJ] at o;subst o;refine⟨by dsimp only;omega,⟨who,(aF s who).queue.getD 0 default,k⟩,?_,rfl,rfl⟩;rw[boS,if_pos (by simp)];simp
   ·rw[d];simp only[t2,List.length_singleton];intro i hi;rw[WI];have:=S0 G u;split;·exact⟨by dsimp only;omega,fun _=>rfl⟩
    ·exact f.left i (by omega)
  ·rw[if_neg e] at d;exact f.wT d fun x o j g _ _=>p _ j g
 |tell who st=>
  obtain⟨F,u,q,z⟩:=y;have R:(iF s st).who=who:=z;have d:=bO (s:=s) (s':=aR c s (.tell who st)) rfl (by omega:st<s.dD.length) k;have boS:=fun w=>bL (s:=s) (s':=aR c s (.tell who st)) rfl (by omega:who<s.bM.length) w;obtain⟨J,I,S,W⟩:=h.af8 u q;have T:(iF s st).who.toNat=who:=by omega
  rw[T] at I;have hex: ∃j∈(aF s who).out,j.n=(iF s st).n:=⟨J,I,S⟩
  have p: ∀w,∀j∈(aF s w).out,(w=who->j.n≠(iF s st).n)->j∈(aF (aR c s (.tell who st)) w).out:=fun w j g E=>by
   rw[boS];split;·rename_i e;subst e;exact amU hex g (E rfl)
   ·exact g
  have r:cS (aL s st)=key (iF s st)::(((aL s st).done.drop 1).map key++(aL s st).pipe.map fun j=>(j.who,j.n)):=by
   unfold cS;conv=>lhs;rw[gT q]
   rfl
  by_cases e:k=st
  ·subst e;rw[if_pos rfl] at d;have l:cS (aL (aR c s (.tell who k)) k)=((aL s k).done.drop 1).map key++(aL s k).pipe.map fun j=>(j.who,j.n):=by rw[d];rfl
   have t:=f.inc;rw[r,G0] at t;refine⟨by rw[d];exact f.pl,by rw[d];have:=f.dl;simp;omega,by rw[d];exact f.last,by rw[l];exact t.2,fun x o=> ?_,?_,by rw[d];exact f.left⟩;·rw[l] at o;obtain⟨A,j,v,B,U⟩:=f.out x (by rw[r];exact bq9 _ o);refine⟨A,j,p _ j v fun he V=> ?_,B,U⟩;have:=t.1 x o (by simp only[key];omega);simp only[key] at this;omega
   ·rw[d];exact fun j g=>f.rsp j (bsE g)
  ·rw[if_neg e] at d;refine f.wT d fun x o j g V hl=>p _ j g fun he E=> ?_;subst he;have hp:=h.port x.1.toNat F;have hu:J=j:=(by exact ZO hp.acX I g (by omega));subst hu;omega
theorem abB{f g:Nat->Nat}(h:who<3)(a: ∀i,i≠who->f i=g i):f 0+f 1+f 2+g who=g 0+g 1+g 2+f who:=by
 have:who=0\/who=1\/who=2:=by omega
 rcases this with rfl|rfl|rfl;·have:=a 1 (by omega);have:=a 2 (by omega);omega
 ·have:=a 0 (by omega);have:=a 2 (by omega);omega
 ·have:=a 0 (by omega);have:=a 1 (by omega);omega
theorem aaC{f g:Nat->Nat}(h:st<4)(a: ∀i,i≠st->f i=g i):f 0+f 1+f 2+f 3+g st=g 0+g 1+g 2+g 3+f st:=by
 have:st=0\/st=1\/st=2\/st=3:=by omega
 rcases this with rfl|rfl|rfl|rfl;·have:=a 1 (by omega);have:=a 2 (by omega);have:=a 3 (by omega);omega
 ·have:=a 0 (by omega);have:=a 2 (by omega);have:=a 3 (by omega);omega
 ·have:=a 0 (by omega);have:=a 1 (by omega);have:=a 3 (by omega);omega
 ·have:=a 0 (by omega);have:=a 1 (by omega);have:=a 2 (by omega);omega
theorem ahN(h:COk c s)(d:EH c s m):(aF (aR c s m) 0).out.length+(aF (aR c s m) 1).out.length+(aF (aR c s m) 2).out.length=hU (aR c s m) 0+hU (aR c s m) 1+hU (aR c s m) 2+hU (aR c s m) 3:=by
 have p:=h.pl;have q:=h.sl;have hc:=h.count
 cases m with
 |ask who=>
  obtain⟨l,b,j⟩:=d;have boS:=fun w=>bL (s:=s) (s':=aR c s (.ask who)) rfl (by omega:who<s.bM.length) w
  have: ∀w,(aF (aR c s (.ask who)) w).out=(aF s w).out:=fun w=>by
   rw[boS];split;·rename_i e;subst e;rfl
   ·rfl
  rw[this,this,this];exact hc
 |tick st=>
  obtain⟨b,j,n⟩:=d;have a:=fun k=>bO (s:=s) (s':=aR c s (.tick st)) rfl (by omega:st<s.dD.length) k
  have: ∀k,hU (aR c s (.tick st)) k=hU s k:=fun k=>by
   unfold hU;rw[a];split;·rename_i e;subst e;simp
   ·rfl
  rw[this,this,this,this];exact hc
 |work st=>
  obtain⟨b,j,n,k9⟩:=d;have a:=fun k=>bO (s:=s) (s':=aR c s (.work st)) rfl (by omega:st<s.dD.length) k
  have: ∀k,hU (aR c s (.work st)) k=hU s k:=fun k=>by
   unfold hU;rw[a];split;·rename_i e;subst e;simp;omega
   ·rfl
  rw[this,this,this,this];exact hc
 |adm who st=>
  obtain⟨l,b,j,n⟩:=d;have a:=fun k=>bO (s:=s) (s':=aR c s (.adm who st)) rfl (by omega:st<s.dD.length) k;have boS:=fun w=>bL (s:=s) (s':=aR c s (.adm who st)) rfl (by omega:who<s.bM.length) w;have r:=abB (f:=fun w=>(aF (aR c s (.adm who st)) w).out.length) (g:=fun w=>(aF s w).out.length) l fun i hi=>by rw[boS,if_neg hi]
  have t:=aaC (f:=hU (aR c s (.adm who st))) (g:=hU s) b fun i hi=>by unfold hU;rw[a,if_neg hi]
  have u:(aF (aR c s (.adm who st)) who).out.length=(aF s who).out.length+1:=by rw[boS,if_pos rfl];simp
  have v:hU (aR c s (.adm who st)) st=hU s st+1:=by unfold hU;rw[a,if_pos rfl];simp;omega
  omega
 |tell who st=>
  obtain⟨l,b,j,n⟩:=d;have x:(iF s st).who=who:=n;have a:=fun k=>bO (s:=s) (s':=aR c s (.tell who st)) rfl (by omega:st<s.dD.length) k;have boS:=fun w=>bL (s:=s) (s':=aR c s (.tell who st)) rfl (by omega:who<s.bM.length) w;obtain⟨y,o,z,B⟩:=h.af8 b j;have A:(iF s st).who.toNat=who:=by omega
  rw[A] at o;have r:=abB (f:=fun w=>(aF (aR c s (.tell who st)) w).out.length) (g:=fun w=>(aF s w).out.length) l fun i hi=>by rw[boS,if_neg hi]
  have t:=aaC (f:=hU (aR c s (.tell who st))) (g:=hU s) b fun i hi=>by unfold hU;rw[a,if_neg hi]
  have u:(aF (aR c s (.tell who st)) who).out.length+1=(aF s who).out.length:=by rw[boS,if_pos rfl];exact aj2 ⟨y,o,z⟩
  have v:hU (aR c s (.tell who st)) st+1=hU s st:=by unfold hU;rw[a,if_pos rfl];simp;omega
  omega
theorem o9(b:aQ c)(h:COk c s)(a:EH c s m):COk c (aR c s m):=⟨(ajG b h a).atm,by rw[aa4.1];exact h.pl,by rw[aa4.2];exact h.sl,am9 h a,an6 b h a,ahN h a,ajG b h a⟩
def wY(c:Cfg):CSt->List Mic->Prop
 |_,[]=>True
 |s,m::l=>EH c s m/\wY c (aR c s m) l
def dR(c:Cfg)(s:CSt)(l:List Mic):CSt:=l.foldl (aR c) s
def iP(c:Cfg):CSt->List Mic->List Ev
 |_,[]=>[]
 |s,m::l=>y0 s m++iP c (aR c s m) l
theorem tB{a b:List Mic}:dR c s (a++b)=dR c (dR c s a) b:=by simp[dR]
theorem HA{c:Cfg}: ∀{a b:List Mic} {s:CSt},wY c s (a++b)↔wY c s a/\wY c (dR c s a) b
 | [],b,s=>by simp[wY,dR]
 |m::a,b,s=>by have:=HA (c:=c) (a:=a) (b:=b) (s:=aR c s m);simp only[List.cons_append,wY,this,and_assoc];rfl
theorem G6{c:Cfg}: ∀{a b:List Mic} {s:CSt},iP c s (a++b)=iP c s a++iP c (dR c s a) b
 | [],b,s=>by simp[iP,dR]
 |m::a,b,s=>by have:=G6 (c:=c) (a:=a) (b:=b) (s:=aR c s m);simp only[List.cons_append,iP,this,C0];rfl
theorem CV{c:Cfg}(a:aQ c): ∀{l:List Mic} {s:CSt},COk c s->wY c s l->COk c (dR c s l)/\cX (dR c s l)=runM c (cX s) (iP c s l)/\F9 c (cX s) (iP c s l)
 | [],s,h,_=>⟨h,rfl,pV⟩
 |m::l,s,h,e=>by
  obtain⟨b,f⟩:=e;obtain⟨g,i,j⟩:=CV a (l:=l) (o9 a h b) f;have d:=af6 a h b;refine⟨g,?_,?_⟩;·show cX (dR c (aR c s m) l)=_;rw[i,d];show _=runM c (cX s) (y0 s m++iP c (aR c s m) l);rw[ZL]
  ·show F9 c (cX s) (y0 s m++iP c (aR c s m) l);rw[WS];refine⟨?_,by rw[<-d];exact j⟩;have hw:=XZ h b
   cases m with
   |tick st=>exact pV
   |adm who st=>exact pV
   |tell who st=>exact xB.2 ⟨hw ⟨3,who,(iF s st).n⟩ (CJ.2 rfl),pV⟩
   |work st=>exact xB.2 ⟨hw ⟨2,(bI s st).who,(bI s st).n⟩ (CJ.2 rfl),pV⟩
   |ask who=>exact xB.2 ⟨hw ⟨1,who,(aF s who).next⟩ (CJ.2 rfl),pV⟩
def pQ(s:CSt)(who k:Nat):Nat:=(((aF s who).last+(k:Int))%4).toNat
def NN(s:CSt)(who st:Nat):Bool:=decide (0<(aL s st).done.length/\((aL s st).done.getD 0 default).who=who)
def vT(i:CIn)(s:CSt)(who:Nat):Option Mic:=if i.ready.getD who default=true then (([1,2,3,4].map (pQ s who)).find? (NN s who)).map (.tell who) else none
def qW(i:CIn)(s:CSt)(st:Nat):Option Mic:=if i.n9.getD st default=true\/(aL s st).pipe.length=0 then none else if 0<(bI s st).left then some (.tick st) else if (aL s st).done.length<2 then some (.work st) else none
def sM(s:CSt)(st k:Nat):Nat:=(((aL s st).last+(k:Int))%3).toNat
def KE(c:Cfg)(s:CSt)(used:List Bool)(st who:Nat):Bool:= !(used.getD who default)&&decide (HV c s who st)
def AO(c:Cfg)(s:CSt)(used:List Bool)(st:Nat):Option Nat:=if (aL s st).pipe.length<2 then ([1,2,3].map (sM s st)).find? (KE c s used st) else none
def PA(c:Cfg)(i:CIn)(s:CSt)(who:Nat):Option Mic:=if i.send.getD who default=true/\(aF s who).queue.length<2/\(aF s who).next<(c.cP.getD who default).length then some (.ask who) else none
def atS(c:Cfg)(s:CSt):Option Mic->CSt
 |none=>s
 |some m=>aR c s m
def vE(c:Cfg)(f:CSt->Nat->Option Mic):CSt->List Nat->List Mic
 |_,[]=>[]
 |s,k::l=>match f s k with
  |none=>vE c f s l
  |some m=>m::vE c f (aR c s m) l
def oP(c:Cfg):CSt->List Bool->List Nat->List Mic
 |_,_,[]=>[]
 |s,u,st::l=>match AO c s u st with
  |none=>oP c s u l
  |some who=>.adm who st::oP c (aR c s (.adm who st)) (u.set who true) l
def KQ(c:Cfg)(i:CIn)(s:CSt):List Mic:=vE c (vT i) s [0,1,2]
def xX(c:Cfg)(i:CIn)(s:CSt):List Mic:=vE c (qW i) s [0,1,2,3]
def ad4(c:Cfg)(s:CSt):List Mic:=oP c s [false,false,false] [0,1,2,3]
def MV(c:Cfg)(i:CIn)(s:CSt):List Mic:=vE c (PA c i) s [0,1,2]
def CW(c:Cfg)(i:CIn)(s:CSt):CSt:=dR c s (KQ c i s)
def QD(c:Cfg)(i:CIn)(s:CSt):CSt:=dR c (CW c i s) (xX c i (CW c i s))
def OI(c:Cfg)(i:CIn)(s:CSt):CSt:=dR c (QD c i s) (ad4 c (QD c i s))
def vF(c:Cfg)(i:CIn)(s:CSt):CSt:=dR c (OI c i s) (MV c i (OI c i s))
def YC(c:Cfg)(i:CIn)(s:CSt):List Mic:=KQ c i s++xX c i (CW c i s)++ad4 c (QD c i s)++MV c i (OI c i s)
def TK(c:Cfg)(i:CIn)(s:CSt):List Ev:=iP c s (YC c i s)
variable{i:CIn}
theorem PI:vF c i s=dR c s (YC c i s):=by unfold YC vF OI QD CW;simp only[tB]
theorem LW{c:Cfg}(a:aQ c){f:CSt->Nat->Option Mic}: ∀{l:List Nat} {s:CSt},COk c s->(∀s k m,COk c s->k∈l->f s k=some m->EH c s m)->wY c s (vE c f s l)
 | [],s,_,_=>trivial
 |k::l,s,h,b=>by
  unfold vE;split;·exact LW a h fun s k m hs d hm=>b s k m hs (bq9 _ d) hm
  ·rename_i m hm;have e:=b s k m h (by simp) hm;exact⟨e,LW a (o9 a h e) fun s k m hs d hm=>b s k m hs (bq9 _ d) hm⟩
theorem TB(_:COk c s)(hw:who<3)(hm:vT i s who=some m):EH c s m:=by
 unfold vT at hm;split at hm;·rw[m4] at hm;obtain⟨st,a,rfl⟩:=hm;have b:=List.find?_some a;have d:=bsM a;obtain⟨k,_,rfl⟩:=CF.1 d;obtain⟨e,f⟩:=of_decide_eq_true b;exact⟨hw,by unfold pQ;omega,e,f⟩
 ·cases hm
theorem LM(_:COk c s)(hw:st<4)(hm:qW i s st=some m):EH c s m:=by
 unfold qW at hm;split at hm;·cases hm
 ·rename_i d;split at hm;·rename_i a;cases hm;exact⟨hw,by omega,a⟩
  ·rename_i a;split at hm;·rename_i b;cases hm;exact⟨hw,by omega,a,b⟩
   ·cases hm
variable{u:List Bool}
theorem XH(hs:st<4)(hm:AO c s u st=some who):EH c s (.adm who st):=by
 unfold AO at hm;split at hm;·rename_i b;have a:=List.find?_some hm;have d:=bsM hm;obtain⟨k,_,rfl⟩:=CF.1 d;unfold KE at a;rw[q7] at a;exact⟨by unfold sM;omega,hs,b,of_decide_eq_true a.2⟩
 ·cases hm
theorem YH(_:COk c s)(hw:who<3)(hm:PA c i s who=some m):EH c s m:=by
 unfold PA at hm;split at hm;·rename_i h;cases hm;exact⟨hw,h.2.1,h.2.2⟩
 ·cases hm
theorem XU{c:Cfg}(a:aQ c): ∀{l:List Nat} {s:CSt} {u:List Bool},COk c s->(∀k∈l,k<4)->wY c s (oP c s u l)
 | [],s,u,_,_=>trivial
 |k::l,s,u,h,hl=>by
  unfold oP;split;·exact XU a h fun k b=>hl k (bq9 _ b)
  ·rename_i who hm;have d:=XH (hl k (by simp)) hm;exact⟨d,XU a (o9 a h d) fun k b=>hl k (bq9 _ b)⟩
theorem tC(h:k∈[0,1,2]):k<3:=by simp at h;omega
theorem w8(h:k∈[0,1,2,3]):k<4:=by simp at h;omega
theorem aaI(a:aQ c)(h:COk c s):wY c s (KQ c i s):=LW a h fun s k m hs b hm=>TB hs (tC b) hm
theorem ZB(a:aQ c)(h:COk c s):wY c s (xX c i s):=LW a h fun s k m hs b hm=>LM hs (w8 b) hm
theorem afK(a:aQ c)(h:COk c s):wY c s (ad4 c s):=XU a h fun k b=>w8 b
theorem an9(a:aQ c)(h:COk c s):wY c s (MV c i s):=LW a h fun s k m hs b hm=>YH hs (tC b) hm
theorem PH(a:aQ c)(h:COk c s):COk c (CW c i s):=(CV a h (aaI a h)).1
theorem PV(a:aQ c)(h:COk c s):COk c (QD c i s):=(CV a (PH a h) (ZB a (PH a h))).1
theorem afG(a:aQ c)(h:COk c s):COk c (OI c i s):=(CV a (PV a h) (afK a (PV a h))).1
theorem KG(a:aQ c)(h:COk c s):wY c s (YC c i s):=by
 unfold YC;rw[HA,HA,HA];refine⟨⟨⟨aaI a h,ZB a (PH a h)⟩,?_⟩,?_⟩;·rw[tB];exact afK a (PV a h)
 ·rw[tB,tB];exact an9 a (afG a h)
theorem PN(a:aQ c)(h:COk c s):COk c (vF c i s):=by rw[PI];exact(CV a h (KG a h)).1
theorem anV(a:aQ c)(h:COk c s):cX (vF c i s)=runM c (cX s) (TK c i s):=by rw[PI];exact(CV a h (KG a h)).2.1
theorem aiV(a:aQ c)(h:COk c s):F9 c (cX s) (TK c i s):=(CV a h (KG a h)).2.2
def sQ(c:Cfg)(s:CSt)(l:List CIn):CSt:=l.foldl (fun s i=>vF c i s) s
def RJ(c:Cfg):CSt->List CIn->List Ev
 |_,[]=>[]
 |s,i::l=>TK c i s++RJ c (vF c i s) l
theorem afM{c:Cfg}(a:aQ c): ∀{l:List CIn} {s:CSt},COk c s->COk c (sQ c s l)/\cX (sQ c s l)=runM c (cX s) (RJ c s l)/\F9 c (cX s) (RJ c s l)
 | [],s,h=>⟨h,rfl,pV⟩
 |i::l,s,h=>by
  obtain⟨d,e,f⟩:=afM a (l:=l) (PN a (i:=i) h);have b:=anV a (i:=i) h;refine⟨d,?_,?_⟩;·show cX (sQ c (vF c i s) l)=runM c (cX s) (TK c i s++RJ c (vF c i s) l);rw[e,b,ZL]
  ·show F9 c (cX s) (TK c i s++RJ c (vF c i s) l);rw[WS];exact⟨aiV a h,by rw[<-b];exact f⟩
theorem anC{a b:List CIn}:sQ c s (a++b)=sQ c (sQ c s a) b:=by simp[sQ]
def pU:CIn:=⟨[true,true,true],[false,false,false,false],[true,true,true]⟩
def eCJ(j:fC):List D1:=[cI j.who,cI j.n,cI j.left]
variable{j:fC}
theorem anW:(eCJ j).length=3:=rfl
theorem aiX:(eCJ j).take 1=[cI j.who]:=rfl
theorem aiI:(eCJ j).drop 1=[cI j.n,cI j.left]:=rfl
theorem ah9:(eCJ j).take 2=[cI j.who,cI j.n]:=rfl
theorem ajA:(eCJ j).drop 2=[cI j.left]:=rfl
theorem agT:(eCJ j).take 3=eCJ j:=rfl
theorem agG:(eCJ j).drop 3=[]:=rfl
variable{cs:List D1}
theorem alE:iA cs (k+1) (eCJ j)=iA cs (k+1) [cI j.who,cI j.n,cI j.left]:=rfl
theorem yK(j:fC):(eCJ j).length=3/\(eCJ j).all D1.dQ=true:=⟨rfl,rfl⟩
attribute [go_sem] anW aiX aiI ah9 ajA agT agG alE
def cD(p:fR):List D1:=[cI p.next,.isl (p.queue.map aJ),.isl (p.out.map eCJ),cI p.last]
theorem ag6:(cD p).length=4:=rfl
theorem ZZ:(cD p).take 1=[cI p.next]:=rfl
theorem abE:(cD p).drop 1=[.isl (p.queue.map aJ),.isl (p.out.map eCJ),cI p.last]:=rfl
theorem YU:(cD p).take 2=[cI p.next,.isl (p.queue.map aJ)]:=rfl
theorem ZM:(cD p).drop 2=[.isl (p.out.map eCJ),cI p.last]:=rfl
theorem aa2:(cD p).take 3=[cI p.next,.isl (p.queue.map aJ),.isl (p.out.map eCJ)]:=rfl
theorem aa8:(cD p).drop 3=[cI p.last]:=rfl
theorem abO:(cD p).take 4=cD p:=rfl
theorem aaG:(cD p).drop 4=[]:=rfl
theorem aeM:iA cs (k+1) (cD p)=iA cs (k+1) [cI p.next,.isl (p.queue.map aJ),.isl (p.out.map eCJ),cI p.last]:=rfl
theorem t7(p:fR):(cD p).length=4/\(cD p).all D1.dQ=true:=⟨rfl,rfl⟩
attribute [go_sem] ag6 ZZ abE YU ZM aa2 aa8 abO aaG aeM
def gF(v:nY):List D1:=[.isl (v.pipe.map eCJ),.isl (v.done.map aS),cI v.last]
variable{v:nY}
theorem amX:(gF v).length=3:=rfl
theorem ad9:(gF v).take 1=[.isl (v.pipe.map eCJ)]:=rfl
theorem aeY:(gF v).drop 1=[.isl (v.done.map aS),cI v.last]:=rfl
theorem ab2:(gF v).take 2=[.isl (v.pipe.map eCJ),.isl (v.done.map aS)]:=rfl
theorem ac3:(gF v).drop 2=[cI v.last]:=rfl
theorem ad6:(gF v).take 3=gF v:=rfl
theorem adW:(gF v).drop 3=[]:=rfl
theorem ahZ:iA cs (k+1) (gF v)=iA cs (k+1) [.isl (v.pipe.map eCJ),.isl (v.done.map aS),cI v.last]:=rfl
theorem zJ(v:nY):(gF v).length=3/\(gF v).all D1.dQ=true:=⟨rfl,rfl⟩
attribute [go_sem] amX ad9 aeY ab2 ac3 ad6 adW ahZ
def eI(s:CSt):List D1:=[.isl (s.words.map aJ),.isl (s.holds.map aJ),.isl (s.bM.map cD),.isl (s.dD.map gF),.isl (s.told.map aS)]
theorem ajM:(eI s).length=5:=rfl
theorem adQ:(eI s).take 1=[.isl (s.words.map aJ)]:=rfl
theorem acL:(eI s).drop 1=[.isl (s.holds.map aJ),.isl (s.bM.map cD),.isl (s.dD.map gF),.isl (s.told.map aS)]:=rfl
theorem aeK:(eI s).take 2=[.isl (s.words.map aJ),.isl (s.holds.map aJ)]:=rfl
theorem aeQ:(eI s).drop 2=[.isl (s.bM.map cD),.isl (s.dD.map gF),.isl (s.told.map aS)]:=rfl
theorem adC:(eI s).take 3=[.isl (s.words.map aJ),.isl (s.holds.map aJ),.isl (s.bM.map cD)]:=rfl
theorem adP:(eI s).drop 3=[.isl (s.dD.map gF),.isl (s.told.map aS)]:=rfl
theorem ab6:(eI s).take 4=[.isl (s.words.map aJ),.isl (s.holds.map aJ),.isl (s.bM.map cD),.isl (s.dD.map gF)]:=rfl
theorem aeD:(eI s).drop 4=[.isl (s.told.map aS)]:=rfl
theorem ac5:(eI s).take 5=eI s:=rfl
theorem aeA:(eI s).drop 5=[]:=rfl
theorem aiO:iA cs (k+1) (eI s)=iA cs (k+1) [.isl (s.words.map aJ),.isl (s.holds.map aJ),.isl (s.bM.map cD),.isl (s.dD.map gF),.isl (s.told.map aS)]:=rfl
attribute [go_sem] ajM adQ acL aeK aeQ adC adP ab6 aeD ac5 aeA aiO
def eH(b:Bool):List D1:=[cB b]
theorem ai9{b:Bool}:(eH b).length=1:=rfl
theorem abL{b:Bool}:(eH b).take 1=[cB b]:=rfl
theorem aaB{b:Bool}:(eH b).drop 1=[]:=rfl
theorem abX{b:Bool}:iA cs (k+1) (eH b)=iA cs (k+1) [cB b]:=rfl
theorem mK(b:Bool):(eH b).length=1/\(eH b).all D1.dQ=true:=⟨rfl,rfl⟩
attribute [go_sem] ai9 abL aaB abX
def eIn(i:CIn):List D1:=[.isl (i.ready.map eH),.isl (i.n9.map eH),.isl (i.send.map eH)]
theorem aoW:(eIn i).length=3:=rfl
theorem agD:(eIn i).take 1=[.isl (i.ready.map eH)]:=rfl
theorem ah2:(eIn i).drop 1=[.isl (i.n9.map eH),.isl (i.send.map eH)]:=rfl
theorem aiC:(eIn i).take 2=[.isl (i.ready.map eH),.isl (i.n9.map eH)]:=rfl
theorem agZ:(eIn i).drop 2=[.isl (i.send.map eH)]:=rfl
theorem ajC:(eIn i).take 3=eIn i:=rfl
theorem agB:(eIn i).drop 3=[]:=rfl
theorem al9:iA cs (k+1) (eIn i)=iA cs (k+1) [.isl (i.ready.map eH),.isl (i.n9.map eH),.isl (i.send.map eH)]:=rfl
theorem QX(i:CIn):(eIn i).length=3/\(eIn i).all D1.dQ=true:=⟨rfl,rfl⟩
attribute [go_sem] aoW agD ah2 aiC agZ ajC agB al9
structure tZ(H:aA)(n id off len cap:Nat)(R:List (List D1)):Prop where
 ex: ∃m rows,H id=some ⟨n,m,rows⟩/\rows.drop off=R/\off+len<=rows.length/\len=R.length/\len<=cap/\off+cap<=m
def af5(a no:Nat)(p:fR)(b c d:Nat):List D1:=[cI p.next,.osl 1 a b p.queue.length c,.osl 3 no 0 p.out.length d,cI p.last]
def aj9(a b:Nat)(v:nY)(c d do_ e:Nat):List D1:=[.osl 3 a c v.pipe.length d,.osl 5 b do_ v.done.length e,cI v.last]
structure CX(H:aA)(nq no:Nat)(p:fR)(r:List D1):Prop where
 ex: ∃qo qc oc,r=af5 nq no p qo qc oc/\tZ H 1 nq qo p.queue.length qc (p.queue.map aJ)/\tZ H 3 no 0 p.out.length oc (p.out.map eCJ)
structure LJ(H:aA)(np nd:Nat)(v:nY)(r:List D1):Prop where
 ex: ∃po pc do_ dc,r=aj9 np nd v po pc do_ dc/\tZ H 3 np po v.pipe.length pc (v.pipe.map eCJ)/\tZ H 5 nd do_ v.done.length dc (v.done.map aS)
def U2(nm:Nat->Nat)(s:CSt)(wc hc a vc b:Nat):List D1:=[.osl 1 (nm 0) 0 s.words.length wc,.osl 1 (nm 1) 0 s.holds.length hc,.osl 4 (nm 2) 0 3 a,.osl 3 (nm 3) 0 4 vc,.osl 5 (nm 4) 0 s.told.length b]
structure abY(H:aA)(nm:Nat->Nat)(s:CSt)(cells:List D1):Prop where
 ex: ∃wc hc pc vc tc,cells=U2 nm s wc hc pc vc tc/\tZ H 1 (nm 0) 0 s.words.length wc (s.words.map aJ)/\tZ H 1 (nm 1) 0 s.holds.length hc (s.holds.map aJ)/\tZ H 5 (nm 4) 0 s.told.length tc (s.told.map aS)/\
  3<=pc/\4<=vc
 bM: ∃m rows,H (nm 2)=some ⟨4,m,rows⟩/\rows.length=3/\ ∀k,k<3->∃r,rows[k]?=some r/\CX H (nm (5+k)) (nm (8+k)) (aF s k) r
 dD: ∃m rows,H (nm 3)=some ⟨3,m,rows⟩/\rows.length=4/\ ∀k,k<4->∃r,rows[k]?=some r/\LJ H (nm (11+k)) (nm (15+k)) (aL s k) r
structure Names(X:Nat->Prop)(nx:Nat)(nm:Nat->Nat):Prop where
 inj: ∀j k,j<19->k<19->nm j=nm k->j=k
 lt: ∀k,k<19->nm k<nx
 av: ∀k,k<19->¬X (nm k)
structure Rep(X:Nat->Prop)(H:aA)(nx i0:Nat)(nm:Nat->Nat)(s:CSt):Prop where
 st: ∃cells,H i0=some ⟨5,1,[cells]⟩/\abY H nm s cells
 names:Names X nx nm
 ne: ∀k,k<19->nm k≠i0
 i0:i0<nx/\ ¬X i0
 x: ∀id,X id->id<nx
def aqA(Y:Nat->Prop)(H:aA)(nx bO6:Nat)(es:List Ev)(d:D1):Prop:=(es=[]/\d= .osl 0 0 0 0 0)\/ ∃ev cap,d= .osl 3 ev 0 es.length cap/\tZ H 3 ev 0 es.length cap (es.map eEv)/\ev<nx/\ ¬Y ev/\ev≠bO6
structure aiW(Y:Nat->Prop)(H:aA)(nx bO6:Nat)(es:List Ev):Prop where
 ex: ∃d a b c e,H bO6=some ⟨5,1,[[d,cI a,cI b,cI c,cI e]]⟩/\aqA Y H nx bO6 es d
 bO6:bO6<nx/\ ¬Y bO6
 y: ∀id,Y id->id<nx
variable{H:aA}
theorem aA.aC{a i:Nat}{o:bA}(h:i≠a):H.set a o i=H i:=if_neg h
theorem aA.bH{a:Nat}{o:bA}:H.set a o a=some o:=if_pos rfl
theorem aA.jG{a i:Nat}(h:i≠a):H.del a i=H i:=if_neg h
def eZ(x:Nat):List Nat->Prop
 | []=>True
 |y::l=>((x=y)=False/\(y=x)=False)/\eZ x l
def bQ(nx:Nat):List Nat->Prop
 | []=>True
 |x::l=>((∀k,(x=nx+k)=False)/\(∀k,(nx+k=x)=False)/\(x=nx)=False/\(nx=x)=False)/\eZ x l/\bQ nx l
theorem apZ{x:Nat}: ∀{l:List Nat},x∉l->eZ x l
 | [],_=>trivial
 |y::l,h=>by rw[t3,not_or] at h;exact⟨⟨eq_false h.1,eq_false (Ne.symm h.1)⟩,apZ h.2⟩
theorem apart{nx:Nat}: ∀{l:List Nat},l.Nodup->(∀x∈l,x<nx)->bQ nx l
 | [],_,_=>trivial
 |x::l,h,hl=>by rw[bq8] at h;have b:=hl x (by simp);exact⟨⟨fun k=>eq_false (by omega),fun k=>eq_false (by omega),eq_false (by omega),eq_false (by omega)⟩,apZ h.1,apart h.2 fun y a=>hl y (bq9 _ a)⟩
theorem Names.list{X:Nat->Prop}{nx:Nat}{nm:Nat->Nat}(h:Names X nx nm): ∀{l:List Nat},l.Nodup->(∀k∈l,k<19)->(l.map nm).Nodup
 | [],_,_=>List.Pairwise.nil
 |k::l,b,hl=>by rw[bq8] at b;rw[n3,bq8];refine⟨fun hm=> ?_,h.list b.2 fun j a=>hl j (bq9 _ a)⟩;obtain⟨j,a,he⟩:=CF.1 hm;exact b.1 (h.inj j k (hl j (bq9 _ a)) (hl k (by simp)) he▸a)
theorem Rep.apart{X:Nat->Prop}{H:aA}{nx nx' i0:Nat}{nm:Nat->Nat}{s:CSt}(h:Rep X H nx i0 nm s)(ext l:List Nat)(c:nx<=nx')(he:ext.Nodup)(d: ∀x∈ext,X x)(m:l.Nodup)(hl: ∀k∈l,k<19):bQ nx' (ext++i0::l.map nm):=by
 refine AM.apart (brG.2 ⟨he,bq8.2 ⟨fun hm=> ?_,h.names.list m hl⟩,fun a i b f g=> ?_⟩) fun x c=> ?_;·obtain⟨j,e,he⟩:=CF.1 hm;exact h.ne j (hl j e) he
 ·subst g;rcases t3.1 f with rfl|f;·exact h.i0.2 (d _ i)
  ·obtain⟨j,e,rfl⟩:=CF.1 f;exact h.names.av j (hl j e) (d _ i)
 ·rcases o3.1 c with c|c;·have:=h.x x (d x c);omega
  ·rcases t3.1 c with rfl|c;·have:=h.i0.1;omega
   ·obtain⟨j,e,rfl⟩:=CF.1 c;have:=h.names.lt j (hl j e);omega
theorem tZ.frame{H H':aA}{n id off len cap:Nat}{R:List (List D1)}(h:tZ H n id off len cap R)(he:H' id=H id):tZ H' n id off len cap R:=by obtain⟨m,rows,a,b⟩:=h.ex;exact⟨m,rows,by rw[he,a],b⟩
theorem CX.frame{H H':aA}{a no:Nat}{p:fR}{r:List D1}(h:CX H a no p r)(b:H' a=H a)(c:H' no=H no):CX H' a no p r:=by obtain⟨d,f,g,e,i,j⟩:=h.ex;exact⟨d,f,g,e,i.frame b,j.frame c⟩
theorem LJ.frame{H H':aA}{a b:Nat}{v:nY}{r:List D1}(h:LJ H a b v r)(c:H' a=H a)(d:H' b=H b):LJ H' a b v r:=by obtain⟨f,g,do_,i,e,j,k⟩:=h.ex;exact⟨f,g,do_,i,e,j.frame c,k.frame d⟩
theorem Rep.upd{X:Nat->Prop}{H H':aA}{nx nx' i0:Nat}{nm b:Nat->Nat}{s s':CSt}{who st:Nat}(h:Rep X H nx i0 nm s)(F:nx<=nx')(l2:Names X nx' b)(p: ∀k,k<19->b k≠i0)
 (j: ∀k,k<19->k≠4->k≠5+who->k≠8+who->k≠11+st->k≠15+st->b k=nm k) (f: ∀k,5<=k->k<19->k≠5+who->k≠8+who->k≠11+st->k≠15+st->H' (nm k)=H (nm k))
 (y: ∃wc hc l vc n,H' i0=some ⟨5,1,[U2 b s' wc hc l vc n]⟩/\tZ H' 1 (b 0) 0 s'.words.length wc (s'.words.map aJ)/\tZ H' 1 (b 1) 0 s'.holds.length hc (s'.holds.map aJ)/\tZ H' 5 (b 4) 0 s'.told.length n (s'.told.map aS)/\3<=l/\4<=vc)
 (z: ∃m rows m0 a,H (nm 2)=some ⟨4,m0,a⟩/\H' (nm 2)=some ⟨4,m,rows⟩/\rows.length=3/\(∀k,k<3->k≠who->rows[k]?=a[k]?)/\(who<3->∃r,rows[who]?=some r/\CX H' (b (5+who)) (b (8+who)) (aF s' who) r))
 (A: ∃m rows m0 a,H (nm 3)=some ⟨3,m0,a⟩/\H' (nm 3)=some ⟨3,m,rows⟩/\rows.length=4/\(∀k,k<4->k≠st->rows[k]?=a[k]?)/\(st<4->∃r,rows[st]?=some r/\LJ H' (b (11+st)) (b (15+st)) (aL s' st) r))
 (hw:who<3\/who=14) (hs:st<4\/st=8) (hp: ∀k,k<3->k≠who->aF s' k=aF s k) (B: ∀k,k<4->k≠st->aL s' k=aL s k):Rep X H' nx' i0 b s':=by
 obtain⟨⟨cells,C,hex,g,i⟩,o,x,q,bPT⟩:=h
 refine⟨?_,l2,p,⟨by omega,q.2⟩,fun id t=>by have:=bPT id t;omega⟩
 obtain⟨wc,hc,l,vc,n,D,E⟩:=y
 refine⟨_,D,⟨wc,hc,l,vc,n,rfl,E⟩,?_,?_⟩
 ·obtain⟨m,rows,m0,a,u,v,w,bO4,bPU⟩:=z;obtain⟨m1,d,bO8,bO9,bPL⟩:=g;rw[u] at bO8;obtain⟨_,rfl,rfl⟩:4=4/\m0=m1/\a=d:=by simpa using bO8
  refine⟨m,rows,by rw[j 2 (by omega) (by omega) (by omega) (by omega) (by omega) (by omega)];exact v,w,fun k c=> ?_⟩;by_cases e:k=who;·subst e;exact bPU c
  ·obtain⟨r,bPM,bPR⟩:=bPL k c;refine⟨r,by rw[bO4 k c e];exact bPM,?_⟩;rw[hp k c e,j (5+k) (by omega) (by omega) (by omega) (by omega) (by omega) (by omega),j (8+k) (by omega) (by omega) (by omega) (by omega) (by omega) (by omega)];exact bPR.frame (f _ (by omega) (by omega) (by omega) (by omega) (by omega) (by omega)) (f _ (by omega) (by omega) (by omega) (by omega) (by omega) (by omega))
 ·obtain⟨m,rows,m0,a,u,v,w,bO4,bPU⟩:=A;obtain⟨m1,d,bO8,bO9,bPL⟩:=i;rw[u] at bO8;obtain⟨_,rfl,rfl⟩:3=3/\m0=m1/\a=d:=by simpa using bO8
  refine⟨m,rows,by rw[j 3 (by omega) (by omega) (by omega) (by omega) (by omega) (by omega)];exact v,w,fun k c=> ?_⟩;by_cases e:k=st;·subst e;exact bPU c
  ·obtain⟨r,bPM,bPR⟩:=bPL k c;refine⟨r,by rw[bO4 k c e];exact bPM,?_⟩;rw[B k c e,j (11+k) (by omega) (by omega) (by omega) (by omega) (by omega) (by omega),j (15+k) (by omega) (by omega) (by omega) (by omega) (by omega) (by omega)];exact bPR.frame (f _ (by omega) (by omega) (by omega) (by omega) (by omega) (by omega)) (f _ (by omega) (by omega) (by omega) (by omega) (by omega) (by omega))
theorem Rep.frame{X n:Nat->Prop}{H H':aA}{nx nx' i0:Nat}{nm:Nat->Nat}{s:CSt}(h:Rep X H nx i0 nm s)(A:nx<=nx')(o:H' i0=H i0)(a: ∀k,k<19->H' (nm k)=H (nm k))(bPT: ∀id,n id->id<nx'/\id≠i0/\ ∀k,k<19->id≠nm k):Rep n H' nx' i0 nm s:=by
 obtain⟨⟨cells,f,⟨wc,hc,p,vc,q,t,u,v,w,x⟩,⟨m,rows,bO8,bO9,bPL⟩,⟨y,c,bPM,bPR,bPS⟩⟩,b,e,z,_⟩:=h
 refine⟨⟨cells,by rw[o];exact f,⟨wc,hc,p,vc,q,t,u.frame (a _ (by omega)),v.frame (a _ (by omega)),w.frame (a _ (by omega)),x⟩,⟨m,rows,by rw[a 2 (by omega)];exact bO8,bO9,fun k d=> ?_⟩,⟨y,c,by rw[a 3 (by omega)];exact bPM,bPR,fun k d=> ?_⟩⟩,
  ⟨b.inj,fun k d=>by have:=b.lt k d;omega,fun k d g=>(bPT _ g).2.2 k d rfl⟩,e,⟨by omega,fun g=>(bPT _ g).2.1 rfl⟩,fun id i=>(bPT id i).1⟩
 ·obtain⟨r,j,l⟩:=bPL k d;exact⟨r,j,l.frame (a _ (by omega)) (a _ (by omega))⟩
 ·obtain⟨r,j,l⟩:=bPS k d;exact⟨r,j,l.frame (a _ (by omega)) (a _ (by omega))⟩
def put(nm:Nat->Nat)(k v:Nat):Nat->Nat:=fun j=>if j=k then v else nm j
variable{nm:Nat->Nat}
theorem t8{v:Nat}:put nm k v k=v:=if_pos rfl
theorem jE{v j:Nat}(h:j≠k):put nm k v j=nm j:=if_neg h
theorem Names.mono{X:Nat->Prop}{nx nx':Nat}(h:Names X nx nm)(b:nx<=nx'):Names X nx' nm:=⟨h.inj,fun k a=>by have:=h.lt k a;omega,h.av⟩
theorem Names.put{X:Nat->Prop}{nx nx':Nat}{nm:Nat->Nat}{k v:Nat}(h:Names X nx nm)(e:nx<=v)(f:v<nx')(bPT: ¬X v):Names X nx' (put nm k v):=by
 refine⟨fun i j hi d he=> ?_,fun j d=> ?_,fun j d=> ?_⟩;·have a:=h.lt i hi;have b:=h.lt j d;have c:=h.inj i j hi d;unfold AM.put at he;split at he<;>split at he<;>omega
 ·have:=h.lt j d;unfold AM.put;split<;>omega
 ·unfold AM.put;split;·exact bPT
  ·exact h.av j d
structure l9(X:Nat->Prop)(H:aA)(nx i0 bO6:Nat)(nm:Nat->Nat)(s:CSt)(es:List Ev):Prop where
 rep:Rep (fun id=>X id\/id=bO6) H nx i0 nm s
 hap:aiW (fun id=>X id\/id=i0\/ ∃k,k<19/\id=nm k) H nx bO6 es
theorem aiW.frame{Y f:Nat->Prop}{H H':aA}{nx nx' bO6:Nat}{es:List Ev}(h:aiW Y H nx bO6 es)(s:nx<=nx')(j:H' bO6=H bO6)(g: ∀id,id<nx->¬Y id->H' id=H id)(k: ∀id,f id->id<nx'/\(Y id\/nx<=id)):aiW f H' nx' bO6 es:=by
 obtain⟨⟨d,a,b,c,e,n,i⟩,l,bO4⟩:=h
 have m: ∀id,id<nx->¬Y id->¬f id:=fun id j o p=>by
  rcases(k id p).2 with h|h;·exact o h
  ·omega
 refine⟨⟨d,a,b,c,e,by rw[j];exact n,?_⟩,⟨by omega,m _ l.1 l.2⟩,fun id h=>(k id h).1⟩;rcases i with i|⟨ev,cap,q,r,bPC,bPD,bPE⟩
 ·exact .inl i
 ·exact .inr ⟨ev,cap,q,r.frame (g _ bPC bPD),by omega,m _ bPC bPD,bPE⟩
theorem l9.next{X n:Nat->Prop}{H2:aA}{nx f i0 bO6:Nat}{es:List Ev}(h:l9 X H nx i0 bO6 nm s es)(o:nx<=f)(d: ∀id,id<nx->¬X id->H2 id=H id)(bPT: ∀id,n id->id<f/\(X id\/nx<=id)):l9 n H2 f i0 bO6 nm s es:=by
 have e:=h.rep.i0;have l:=h.hap.bO6;have g:=h.rep.names.av;have i:=h.rep.names.lt;refine⟨h.rep.frame o (d i0 e.1 fun j=>e.2 (.inl j)) (fun k b=>d _ (i k b) fun j=>g k b (.inl j)) fun id a=> ?_,h.hap.frame o (d bO6 l.1 fun j=>l.2 (.inl j)) (fun id p q=>d id p fun j=>q (.inl j)) fun id a=> ?_⟩
 ·rcases a with a|rfl
  ·obtain⟨m,c⟩:=bPT id a;refine⟨m,?_,fun k b=> ?_⟩
   ·rintro rfl;rcases c with c|c;·exact e.2 (.inl c)
    ·omega
   ·rintro rfl;have:=i k b;rcases c with c|c;·exact g k b (.inl c)
    ·omega
  ·refine⟨by omega,fun he=>e.2 (.inr he.symm),fun k b he=>g k b (.inr he.symm)⟩
 ·rcases a with a|rfl|⟨k,b,rfl⟩
  ·obtain⟨m,c⟩:=bPT id a;exact⟨m,c.imp .inl fun h=>h⟩
  ·exact⟨by omega,.inl (.inr (.inl rfl))⟩
  ·have:=i k b;exact⟨by omega,.inl (.inr (.inr ⟨k,b,rfl⟩))⟩
theorem l9.mono{X:Nat->Prop}{nx a i0 bO6:Nat}{es:List Ev}(h:l9 X H nx i0 bO6 nm s es)(c:nx<=a):l9 X H a i0 bO6 nm s es:=h.next c (fun _ _ _=>rfl) fun id b=>⟨by have:=h.rep.x id (.inl b);omega,.inl b⟩
theorem Rep.get{X:Nat->Prop}{nx i0:Nat}(h:Rep X H nx i0 nm s):
 ∃wc hc a vc d mp b l c,H i0=some ⟨5,1,[[.osl 1 (nm 0) 0 s.words.length wc,.osl 1 (nm 1) 0 s.holds.length hc,.osl 4 (nm 2) 0 3 a,.osl 3 (nm 3) 0 4 vc,.osl 5 (nm 4) 0 s.told.length d]]⟩/\H (nm 2)=some ⟨4,mp,b⟩/\H (nm 3)=some ⟨3,l,c⟩/\
  tZ H 1 (nm 0) 0 s.words.length wc (s.words.map aJ)/\tZ H 1 (nm 1) 0 s.holds.length hc (s.holds.map aJ)/\tZ H 5 (nm 4) 0 s.told.length d (s.told.map aS)/\3<=a/\4<=vc/\b.length=3/\c.length=4/\
  (∀k,k<3->∃e f g,b[k]?=some [cI (aF s k).next,.osl 1 (nm (5+k)) e (aF s k).queue.length f,.osl 3 (nm (8+k)) 0 (aF s k).out.length g,cI (aF s k).last]/\tZ H 1 (nm (5+k)) e (aF s k).queue.length f ((aF s k).queue.map aJ)/\tZ H 3 (nm (8+k)) 0 (aF s k).out.length g ((aF s k).out.map eCJ))/\
  ∀k,k<4->∃i a do_ j,c[k]?=some [.osl 3 (nm (11+k)) i (aL s k).pipe.length a,.osl 5 (nm (15+k)) do_ (aL s k).done.length j,cI (aL s k).last]/\tZ H 3 (nm (11+k)) i (aL s k).pipe.length a ((aL s k).pipe.map eCJ)/\tZ H 5 (nm (15+k)) do_ (aL s k).done.length j ((aL s k).done.map aS):=by
 obtain⟨cells,m,⟨wc,hc,a,vc,d,rfl,q,t,u,v,w⟩,⟨mp,b,bO8,bO9,bPL⟩,⟨l,c,bPM,bPR,bPS⟩⟩:=h.st
 refine⟨wc,hc,a,vc,d,mp,b,l,c,m,bO8,bPM,q,t,u,v,w,bO9,bPR,fun k n=> ?_,fun k n=> ?_⟩
 ·obtain⟨r,o,⟨e,f,g,rfl,p⟩⟩:=bPL k n;exact⟨e,f,g,o,p⟩
 ·obtain⟨r,o,⟨i,a,do_,j,rfl,p⟩⟩:=bPS k n;exact⟨i,a,do_,j,o,p⟩
theorem l9.upd{X:Nat->Prop}{H H':aA}{nx nx' i0 bO6:Nat}{nm:Nat->Nat}{s:CSt}{es:List Ev}(h:l9 X H nx i0 bO6 nm s es)(who st:Nat)(b:Nat->Nat)(s':CSt)(t:nx<=nx')(l2:Names (fun id=>X id\/id=bO6) nx' b)
 (g: ∀k,k<19->b k=nm k\/((k=4\/k=5+who\/k=8+who\/k=11+st\/k=15+st)/\nx<=b k))
 (e: ∀id,id<nx->id≠i0->(∀k,k<5\/k=5+who\/k=8+who\/k=11+st\/k=15+st->k<19->id≠nm k)->H' id=H id)
 (w: ∃wc hc u vc v,H' i0=some ⟨5,1,[U2 b s' wc hc u vc v]⟩/\tZ H' 1 (b 0) 0 s'.words.length wc (s'.words.map aJ)/\tZ H' 1 (b 1) 0 s'.holds.length hc (s'.holds.map aJ)/\tZ H' 5 (b 4) 0 s'.told.length v (s'.told.map aS)/\3<=u/\4<=vc)
 (y: ∃m rows m0 c,H (nm 2)=some ⟨4,m0,c⟩/\H' (nm 2)=some ⟨4,m,rows⟩/\rows.length=3/\(∀k,k<3->k≠who->rows[k]?=c[k]?)/\(who<3->∃r,rows[who]?=some r/\CX H' (b (5+who)) (b (8+who)) (aF s' who) r))
 (z: ∃m rows m0 c,H (nm 3)=some ⟨3,m0,c⟩/\H' (nm 3)=some ⟨3,m,rows⟩/\rows.length=4/\(∀k,k<4->k≠st->rows[k]?=c[k]?)/\(st<4->∃r,rows[st]?=some r/\LJ H' (b (11+st)) (b (15+st)) (aL s' st) r))
 (hw:who<3\/who=14) (hs:st<4\/st=8) (hp: ∀k,k<3->k≠who->aF s' k=aF s k) (A: ∀k,k<4->k≠st->aL s' k=aL s k):l9 X H' nx' i0 bO6 b s' es/\ ∀id,X id->H' id=H id:=by
 have o:=h.rep.names.av
 have p:=h.rep.i0
 have B:=h.hap.bO6
 have q:=h.rep.names.lt
 have i: ∀id,X id\/id=bO6->H' id=H id:=fun id d=>e id (h.rep.x id d) (fun he=>p.2 (he▸d)) fun k _ g he=>o k g (he▸d)
 refine⟨⟨h.rep.upd (who:=who) (st:=st) t l2 (fun k a=> ?_) (fun k a f n C k9 l1=> ?_) (fun k l1 a f n C k9=> ?_) w y z hw hs hp A,h.hap.frame t (i _ (.inr rfl)) (fun id f n=> ?_) fun id d=> ?_⟩,fun id d=>i id (.inl d)⟩
 ·rcases g k a with f|f;·rw[f];exact h.rep.ne k a
  ·omega
 ·rcases g k a with bOW|bOW;·exact bOW
  ·omega
 ·refine e _ (q k a) (h.rep.ne k a) fun j D l he=> ?_;have:=h.rep.names.inj k j a l he;omega
 ·exact e id f (fun he=>n (.inr (.inl he))) fun k _ a he=>n (.inr (.inr ⟨k,a,he⟩))
 ·rcases d with d|rfl|⟨k,a,rfl⟩
  ·have:=h.rep.x id (.inl d);exact⟨by omega,.inl (.inl d)⟩
  ·exact⟨by omega,.inl (.inr (.inl rfl))⟩
  ·have:=l2.lt k a;rcases g k a with bOW|bOW;·exact⟨this,.inl (.inr (.inr ⟨k,a,bOW⟩))⟩
   ·exact⟨this,.inr bOW.2⟩
def VK(H:aA)(F:Nat->Prop)(r' r:List D1):Prop:=r'.length=r.length/\ ∀(j:Nat) (a:D1),r'[j]?=some a->∃d,r[j]?=some d/\Frz H F a d
section
variable{H:aA}{F:Nat -> Prop}{σ:Nat -> Nat}{nh:Nat}
theorem LH:VK H F [] []:=⟨rfl,fun j d h=>by simp at h⟩
theorem fO{x y:D1}{xs ys:List D1}(h:Frz H F x y)(b:VK H F xs ys):VK H F (x::xs) (y::ys):=by
 refine⟨by simp[b.1],fun j d a=> ?_⟩
 match j with
 |0=>simp at a;subst a;exact⟨y,rfl,h⟩
 |j+1=>exact b.2 j d (by simpa using a)
theorem amO{r:List D1}(h: ∀x∈r,x.dQ=true):VK H F r r:=⟨rfl,fun j d a=>⟨d,a,.same d (h d (s3 a))⟩⟩
theorem A8{r' r:List D1}(h:VK H F r' r):CvL H F σ nh r' r:=⟨h.1,fun i x y b c=>by
 obtain⟨d,a,e⟩:=h.2 i x b
 rw[c] at a;cases a
 exact .frz e⟩
theorem QM{rows:List (List D1)}{n id off len cap:Nat}{o:bA}(g:F id)(k:H id=some o)(l:o.n=n)(hl:len=rows.length)(hlen:off+len<=o.rows.length)(a:len<=cap)
 (hr: ∀i r',rows[i]?=some r'->r'.length=n/\ ∃r,o.rows[off+i]?=some r/\VK H F r' r):Frz H F (.isl rows) (.osl n id off len cap):=by
 subst hl
 refine .frz rows n id off cap o (fun i j=>((o.rows[off+i]?.getD [])[j]?).getD .dead) g k l hlen a (fun i r' h=>(hr i r' h).1) (fun i j r' c e f=> ?_) (fun i j r' c e f=> ?_)
 ·obtain⟨_,r,b,k9⟩:=hr i r' e;obtain⟨d,l1,_⟩:=k9.2 j c f;exact⟨r,b,by rw[b];simp[l1]⟩
 ·obtain⟨_,r,b,k9⟩:=hr i r' e;obtain⟨d,l1,bOW⟩:=k9.2 j c f;rw[b];simpa [l1] using bOW
theorem tZ.frz{n id off len cap:Nat}{R:List (List D1)}(h:tZ H n id off len cap R)(hi:alR n R)(a:F id):Frz H F (.isl R) (.osl n id off len cap):=by
 obtain⟨m,rows,b,c,d,k9,l1,bOW⟩:=h.ex;refine QM a b rfl k9 d l1 fun i r' hr=>⟨(hi r' (s3 hr)).1,r',?_,amO fun x e=>(hi r' (s3 hr)).2 x e⟩
 subst c;rw[s5] at hr;exact hr
theorem ZX{x:Value}:Frz H F (.v x) (.v x):=.same _ rfl
theorem CX.VI{a no:Nat}{p:fR}{r:List D1}(h:CX H a no p r)(b:F a)(c:F no):VK H F (cD p) r:=by obtain⟨f,g,i,rfl,d,e⟩:=h.ex;exact fO ZX (fO (d.frz (aG bF _) b) (fO (e.frz (aG yK _) c) (fO ZX LH)))
theorem LJ.VI{a b:Nat}{v:nY}{r:List D1}(h:LJ H a b v r)(c:F a)(d:F b):VK H F (gF v) r:=by obtain⟨g,i,o,j,rfl,e,f⟩:=h.ex;exact fO (e.frz (aG yK _) c) (fO (f.frz (aG dZ _) d) (fO ZX LH))
theorem getD_some{α:Type}[Inhabited α]{l:List α}{k:Nat}{x:α}(h:l[k]?=some x):l.getD k default=x/\k<l.length:=by refine⟨by simp[List.getD,h],(m3.1 h).1⟩
theorem abY.VI{nm:Nat->Nat}{s:CSt}{cells:List D1}(h:abY H nm s cells)(a: ∀k,k<19->F (nm k))(hp:s.bM.length=3)(hs:s.dD.length=4):VK H F (eI s) cells:=by
 obtain⟨⟨wc,hc,q,vc,t,rfl,f,g,j,l,n⟩,⟨m,rows,bO8,bO9,bPL⟩,u,c,bPM,bPR,bPS⟩:=h;refine fO (f.frz (aG bF _) (a _ (by omega))) (fO (g.frz (aG bF _) (a _ (by omega))) (fO ?_ (fO ?_ (fO (j.frz (aG dZ _) (a _ (by omega))) LH))));·refine QM (a _ (by omega)) bO8 rfl (by simp[hp]) (by simp;omega) l fun i r' hr=> ?_;rw[p0,m4] at hr;obtain⟨p,hr,rfl⟩:=hr;obtain⟨d,o⟩:=getD_some hr;obtain⟨r,e,b⟩:=bPL i (by omega);rw[show aF s i=p from d] at b;exact⟨rfl,r,by rw[Y4];exact e,b.VI (a _ (by omega)) (a _ (by omega))⟩
 ·refine QM (a _ (by omega)) bPM rfl (by simp[hs]) (by simp;omega) n fun i r' hr=> ?_;rw[p0,m4] at hr;obtain⟨p,hr,rfl⟩:=hr;obtain⟨d,o⟩:=getD_some hr;obtain⟨r,e,b⟩:=bPS i (by omega);rw[show aL s i=p from d] at b;exact⟨rfl,r,by rw[Y4];exact e,b.VI (a _ (by omega)) (a _ (by omega))⟩
theorem alY{r' r:List D1}{n id:Nat}{o:bA}(c:F id)(f:H id=some o)(g:o.n=n)(hr:o.rows[0]?=some r)(h:VK H F r' r):Frz H F (.fQ r') (.ptr n id 0 0):=
 .ptr r' n id 0 0 o r (fun j=>(r[j]?).getD .dead) c f g hr (fun j d a=>by obtain⟨e,b,_⟩:=h.2 j d a;rw[Y4];simp[b]) (fun j d a=>by obtain⟨e,b,i⟩:=h.2 j d a;simpa [b] using i)
theorem Rep.ar5{X:Nat->Prop}{nx i0:Nat}{nm:Nat->Nat}{s:CSt}(h:Rep X H nx i0 nm s)(hp:s.bM.length=3)(hs:s.dD.length=4):CvD H (fun _=>True) id 0 (.one (.c (.fQ (eI s)))) (.one (.c (.ptr 5 i0 0 0))):=by obtain⟨cells,a,b⟩:=h.st;exact .frz (alY trivial a rfl rfl (b.VI (fun _ _=>trivial) hp hs))
end
variable{f:CSt->Nat->Option Mic}
theorem GZ{l:List Nat}(h:f s k=none):vE c f s (k::l)=vE c f s l:=by rw[vE,h]
theorem NH{l:List Nat}(h:f s k=some m):vE c f s (k::l)=m::vE c f (aR c s m) l:=by rw[vE,h]
theorem ap4(h:k<3):[0,1,2].drop k=k::[0,1,2].drop (k+1):=by
 obtain rfl|rfl|rfl:k=0\/k=1\/k=2:=by omega
 all_goals rfl
theorem apX(h:k<4):[0,1,2,3].drop k=k::[0,1,2,3].drop (k+1):=by
 obtain rfl|rfl|rfl|rfl:k=0\/k=1\/k=2\/k=3:=by omega
 all_goals rfl
def vU(c:Cfg)(f:CSt->Nat->Option Mic)(l:List Nat)(s:CSt)(es:List Ev)(S:CSt)(E:List Ev):Prop:=dR c s (vE c f s l)=S/\es++iP c s (vE c f s l)=E
theorem vU.none{c:Cfg}{f:CSt->Nat->Option Mic}{s S:CSt}{es E:List Ev}{k:Nat}{l:List Nat}(hl:vU c f (k::l) s es S E)(h:f s k=none):vU c f l s es S E:=by unfold vU at hl;rw[GZ h] at hl;exact hl
theorem vU.some{c:Cfg}{f:CSt->Nat->Option Mic}{s S:CSt}{es E:List Ev}{k:Nat}{l:List Nat}{m:Mic}(hl:vU c f (k::l) s es S E)(h:f s k=some m):vU c f l (aR c s m) (es++y0 s m) S E:=by unfold vU at hl;rw[NH h] at hl;refine⟨hl.1,?_⟩;rw[C0];exact hl.2
theorem vU.nil{S:CSt}{es E:List Ev}(hl:vU c f [] s es S E):s=S/\es=E:=by refine⟨hl.1,?_⟩;have:=hl.2;rw[vE,iP,bq6] at this;exact this
theorem agJ(h:i.ready.getD k default=false):vT i s k=none:=by unfold vT;rw[if_neg (by rw[h];decide)]
theorem bkW{j:Nat}(a:1<=j)(b:j<5):j=1\/j=2\/j=3\/j=4:=by omega
theorem acZ(h: ∀j,1<=j->j<5->NN s k (pQ s k j)=false):vT i s k=none:=by
 unfold vT;split;·simp[List.find?_cons,h 1 (by omega) (by omega),h 2 (by omega) (by omega),h 3 (by omega) (by omega),h 4 (by omega) (by omega)]
 ·rfl
theorem acB{j:Nat}(hr:i.ready.getD k default=true)(c:1<=j)(d:j<=4)(h: ∀b,1<=b->b<j->NN s k (pQ s k b)=false)(a:NN s k (pQ s k j)=true):vT i s k=some (.tell k (pQ s k j)):=by
 unfold vT;rw[if_pos hr];rcases bkW c (by omega) with rfl|rfl|rfl|rfl;·simp[List.find?_cons,a]
 ·simp[List.find?_cons,a,h 1 (by omega) (by omega)]
 ·simp[List.find?_cons,a,h 1 (by omega) (by omega),h 2 (by omega) (by omega)]
 ·simp[List.find?_cons,a,h 1 (by omega) (by omega),h 2 (by omega) (by omega),h 3 (by omega) (by omega)]
def LV(c:Cfg)(l:List Nat)(s:CSt)(u:List Bool)(S:CSt):Prop:=dR c s (oP c s u l)=S
theorem LV.none{c:Cfg}{s S:CSt}{u:List Bool}{k:Nat}{l:List Nat}(hl:LV c (k::l) s u S)(h:AO c s u k=none):LV c l s u S:=by unfold LV at hl;rw[oP,h] at hl;exact hl
theorem LV.some{c:Cfg}{s S:CSt}{u:List Bool}{k who:Nat}{l:List Nat}(hl:LV c (k::l) s u S)(h:AO c s u k=some who):LV c l (aR c s (.adm who k)) (u.set who true) S:=by unfold LV at hl;rw[oP,h] at hl;exact hl
theorem anA(h: ¬(aL s st).pipe.length<2):AO c s u st=none:=if_neg h
theorem ah0(h: ∀j,1<=j->j<4->KE c s u st (sM s st j)=false):AO c s u st=none:=by
 unfold AO;split;·simp[List.find?_cons,h 1 (by omega) (by omega),h 2 (by omega) (by omega),h 3 (by omega) (by omega)]
 ·rfl
theorem ahR{j:Nat}(hr:(aL s st).pipe.length<2)(d:1<=j)(e:j<=3)(h: ∀a,1<=a->a<j->KE c s u st (sM s st a)=false)(b:KE c s u st (sM s st j)=true):AO c s u st=some (sM s st j):=by
 unfold AO;rw[if_pos hr];obtain rfl|rfl|rfl:j=1\/j=2\/j=3:=by omega
 ·simp[List.find?_cons,b]
 ·simp[List.find?_cons,b,h 1 (by omega) (by omega)]
 ·simp[List.find?_cons,b,h 1 (by omega) (by omega),h 2 (by omega) (by omega)]
theorem IW{p:Job->Bool}: ∀{A B:List Job},(∀a∈A,p a=false)->(∀b∈B,p b=true)->(A++B).findIdx p=A.length
 | [],[],_,_=>rfl
 | [],b::B,_,hB=>by rw[List.nil_append,List.findIdx_cons,hB b (by simp)];rfl
 |a::A,B,c,hB=>by rw[List.cons_append,List.findIdx_cons,c a (by simp)];simp only[cond_false,List.length_cons];rw[IW (fun x d=>c x (bq9 _ d)) hB]
theorem abS{A B:List Job}{x:Job}(c: ∀a∈A,uL x a=false)(hB: ∀b∈B,uL x b=true):BM (A++B) x=A++x::B:=by
 unfold BM;rw[IW c hB,List.take_left',List.drop_left'];·rfl
 ·rfl
def A5(l:List Job)(k:Nat):List Job:=jX (l.take k)
theorem ahI{l:List Job}(a:k<=l.length):(A5 l k).length=k:=by unfold A5;rw[(fH _).length_eq,CG];omega
theorem ac8{l:List Job}(a:k<l.length):A5 l (k+1)=BM (A5 l k) (l.getD k default):=by unfold A5 jX;rw[nK a,List.foldl_append];rfl
theorem ah3{l:List Job}:A5 l 1=l.take 1:=by
 cases l with
 |nil=>rfl
 |cons x l=>rfl
theorem aiE{l:List Job}:A5 l l.length=jX l:=by unfold A5;rw[bq4]
def MS(S:List Job)(x:Job)(j:Nat):List Job:=S.take j++x::S.drop j
theorem amF{S:List Job}{x:Job}{j:Nat}(_:j<=S.length):(MS S x j).length=S.length+1:=by unfold MS;simp;omega
end Go.AM
namespace Go.Proofs.YtlncecohbakleaaGreat
open Go Go.AM
attribute [local irreducible] aM wv aB vd wvH
section
variable{H:aA}{nx:Nat}{K:bNX}
theorem bjH{c:Cfg}{s:CSt}{i:CIn}{k:Nat}(hs:COk c s)(N:k<3)(hr:i.ready.getD k default=true){I:D}(o:CvD H (fun _=>True) id 0 (boR (eI s)) I)(h: ∀r,(fun r=>(vT i s k=none/\r=boP (-1))\/ ∃st:Nat,st<4/\vT i s k=some (.tell k st)/\r=boP st) r->K r H nx):bNW bgR [I,boP k] H nx K:=by
 refine aB.pure (args0:=[boR (eI s),boP k]) (R:=fun r=>(vT i s k=none/\r=boP (-1))\/ ∃st:Nat,st<4/\vT i s k=some (.tell k st)/\r=boP st) ?_ rfl (aI ⟨o,aE rfl,trivial⟩) (h);clear h;refine aN.mk Tryz.func120 (by kernel_rfl) biQ rfl fun Q J=> ?_;unfold bgX;have l:=hs.pl;have m:=hs.sl;obtain⟨y,z⟩:=(hs.port k N).last;obtain⟨p,hp⟩: ∃p,s.bM.getD k default=p:=⟨_,rfl⟩
 have q:aF s k=p:=hp;rw[q] at y z;repeat' first|apply bn1<;>(simp only[go_sem])|fail
 refine aM.gP (β:=Nat) (fun j=>en [(5,boP j),(2,.one (.c (.ptr 5 0 0 0))),(1,boP k)]) (fun j H1 _=>H1 0=some ⟨5,1,[eI s]⟩/\1<=j/\j<=5/\ ∀a,1<=a->a<j->NN s k (pQ s k a)=false) (fun j=>5-j) 1 ⟨noF,_,by repeat' first|exact bo2|refine xqI rfl rfl ?_|refine xqP (by omega) rfl rfl ?_|fail,aK,rfl,by omega,by omega,fun a n A=>by omega⟩ ?_;rintro j H1 O L ⟨bqC,B,P,hinv⟩ bpQ t;by_cases C:j<=4
 ·obtain⟨st,e⟩: ∃st,st=pQ s k j:=⟨_,rfl⟩
  have M:st=((p.last+(j:Int))%4).toNat:=by rw[e,<-q];rfl
  have u:st<4:=by omega
  have f:(p.last+(j:Int)).tmod 4=(st:Int):=by rw[brF (by omega)];omega
  obtain⟨v,w⟩: ∃v,s.dD.getD st default=v:=⟨_,rfl⟩
  have g:aL s st=v:=w;by_cases o:v.done.length=0
  ·have hlen:(0<(v.done.length:Int))=False:=eq_false (by omega);repeat' first|apply bn1<;>(simp only[go_sem,bqC,l,m,hp,w,f,hlen];try simp (disch:=omega) only[Iw])|apply bn2 (by omega)|refine⟨by omega,?_⟩|fail
   exact t _ _ _ (j+1) noF _ (by omega) (by omega) (by repeat' first|exact bo2|refine xqI rfl rfl ?_|refine xqP (by omega) rfl rfl ?_|fail) aK ⟨bqC,by omega,by omega,fun a n A=>by
    by_cases E:a<j
    ·exact hinv a n E
    ·have:a=j:=(by omega);subst this;rw[<-e];exact decide_eq_false fun hc=>by rw[g] at hc;omega⟩
  have hlen:(0<(v.done.length:Int))=True:=eq_true (by omega);obtain⟨d,x⟩: ∃d,v.done.getD 0 default=d:=⟨_,rfl⟩
  by_cases b:d.who=k
  ·have F:(d.who=(k:Int))=True:=eq_true b;repeat' first|apply bn1<;>(simp only[go_sem,bqC,l,m,hp,w,f,hlen,x,F];try simp (disch:=omega) only[Iw])|apply bn2 (by omega)|refine⟨by omega,?_⟩|fail
   refine aZ J _ rfl rfl (.inr ⟨st,u,?_,rfl⟩);rw[e];exact acB hr B C hinv (by rw[<-e];exact decide_eq_true ⟨by rw[g];omega,by rw[g,x];exact b⟩)
  ·have G:(d.who=(k:Int))=False:=eq_false b;repeat' first|apply bn1<;>(simp only[go_sem,bqC,l,m,hp,w,f,hlen,x,G];try simp (disch:=omega) only[Iw])|apply bn2 (by omega)|refine⟨by omega,?_⟩|fail
   exact t _ _ _ (j+1) noF _ (by omega) (by omega) (by repeat' first|exact bo2|refine xqI rfl rfl ?_|refine xqP (by omega) rfl rfl ?_|fail) aK ⟨bqC,by omega,by omega,fun a n A=>by
    by_cases E:a<j
    ·exact hinv a n E
    ·have:a=j:=(by omega);subst this;rw[<-e];exact decide_eq_false fun hc=>b (by rw[<-x,<-g];exact hc.2)⟩
 ·repeat' first|apply bn1<;>(simp only[go_sem])|apply bn3 (by omega)|fail
  exact aZ J _ rfl rfl (.inl ⟨acZ fun a n A=>hinv a n (by omega),rfl⟩)
theorem bgY{c:Cfg}{s:CSt}{st:Nat}(hs:COk c s)(l:st<4){i:D}(a:CvD H (fun _=>True) id 0 (boR (eI s)) i)(h:K (dB (decide (0<(aL s st).pipe.length/\(bI s st).left=0/\(aL s st).done.length<2))) H nx):bNW bgN [i,boP st] H nx K:=by
 refine aB.pure (args0:=[boR (eI s),boP st]) (R:=fun m=>m=dB (decide (0<(aL s st).pipe.length/\(bI s st).left=0/\(aL s st).done.length<2))) ?_ rfl (aI ⟨a,aE rfl,trivial⟩) (fun r hr=>hr▸h);clear h;refine aN.mk Tryz.func122 (by kernel_rfl) biF rfl fun Q b=> ?_;unfold bgU;have f:=hs.sl;obtain⟨v,j⟩: ∃v,s.dD.getD st default=v:=⟨_,rfl⟩
 have g:aL s st=v:=j;obtain⟨d,k⟩: ∃d,v.pipe.getD 0 default=d:=⟨_,rfl⟩
 have e:(0<(aL s st).pipe.length/\(bI s st).left=0/\(aL s st).done.length<2)↔(0<v.pipe.length/\d.left=0/\v.done.length<2):=by unfold bI;rw[g,k]
 repeat' first| (first|apply bn1|refine bpL (fun h=> ?_) fun h=> ?_)<;>(simp only[go_sem,f,j,k])|refine⟨by omega,?_⟩|fail
 all_goals first|exact aZ b _ rfl rfl (pD (by rw[e];omega))|exact aZ b _ rfl rfl (j7 (by rw[e];omega))|exact aZ b _ rfl rfl (q9 (by rw[e];omega))
theorem bhT{c:Cfg}{s:CSt}{k:Nat}(i:aQ c)(hs:COk c s)(l:k<3){d1:D}(a:CvD H (fun _=>True) id 0 (boR (eI s)) d1)(h:K (dB (decide ((aF s k).queue.length<2/\(aF s k).next<(c.cP.getD k default).length))) H nx):bNW bgM [boR (cU c),d1,boP k] H nx K:=by
 refine aB.pure (args0:=[boR (cU c),boR (eI s),boP k]) (R:=fun j=>j=dB (decide ((aF s k).queue.length<2/\(aF s k).next<(c.cP.getD k default).length))) ?_ rfl (aI ⟨aE rfl,a,aE rfl,trivial⟩) (fun r hr=>hr▸h);clear h;refine aN.mk Tryz.func125 (by kernel_rfl) biE rfl fun Q b=> ?_;unfold bgV;have d:=hs.pl;have f:=(hC i).1;obtain⟨p,hp⟩: ∃p,s.bM.getD k default=p:=⟨_,rfl⟩
 have g:aF s k=p:=hp;have e:((aF s k).queue.length<2/\(aF s k).next<(c.cP.getD k default).length)↔(p.queue.length<2/\p.next<(c.cP.getD k default).length):=by rw[g]
 repeat' first| (first|apply bn1|refine bpL (fun h=> ?_) fun h=> ?_)<;>(simp only[go_sem,d,hp,f])|refine⟨by omega,?_⟩|fail
 all_goals first|exact aZ b _ rfl rfl (pD (by rw[e];omega))|exact aZ b _ rfl rfl (j7 (by rw[e];omega))|exact aZ b _ rfl rfl (q9 (by rw[e];omega))
end
end Go.Proofs.YtlncecohbakleaaGreat
