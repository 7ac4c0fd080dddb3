/- Texts laid together by a program: rules, contracts and the walk that leads to the law. -/
import Derived.Test.YtlncecohbakleaaGreatPB4
import Derived.Test.YtlncecohbakleaaGreatPB6
import Derived.Test.YtlncecohbakleaaGreatPB5
set_option linter.unusedVariables false
set_option linter.unusedSimpArgs false
set_option linter.unusedSectionVars false
set_option maxRecDepth 100000
set_option maxHeartbeats 8000000
namespace Go.AM
variable{k:Nat}
theorem Dk{α:Type}[Inhabited α]{l:List α}(h:k<l.length):l.Perm (l.getD k default::K9 l k):=by
 have e:l=l.take k++l.getD k default::l.drop (k+1):=by
  have:l.getD k default=l[k]:=by simp[List.getD,h]
  rw[this,<-alF h,alR]
 conv=>lhs;rw[e]
 exact amG
theorem Zo{α:Type}{l:List α}:(K9 l k).Sublist l:=by unfold K9;have h:=(List.Sublist.refl (l.take k)).append (anY l (Nat.le_succ k));rwa [alR] at h
theorem tr{α:Type}[Inhabited α]{l:List α}(h:k<l.length):(K9 l k).length+1=l.length:=by have:=(Dk h).length_eq;simp at this;omega
theorem dn{α:Type}[Inhabited α]{p:α->Bool}{l:List α}(h:0<=bR p l):(bR p l).toNat<l.length/\p (l.getD (bR p l).toNat default)=true:=by
 have c:=ZY (p:=p) (l:=l);refine⟨by omega,?_⟩;unfold bR at*;split at h;·rename_i i hi;have:=amO.1 hi;obtain⟨a,b,_⟩:=this;simpa [List.getD,a] using b
 ·omega
variable{l:List eZ}
theorem qy{n:Int}(h: ∃j∈l,j.n=n):(bR (isC n) l).toNat<l.length/\(l.getD (bR (isC n) l).toNat default).n=n:=by obtain⟨j,a,b⟩:=h;have c:0<=bR (isC n) l:=eA.2 ⟨j,a,by simp[isC,b]⟩;obtain⟨d,e⟩:=dn c;exact⟨d,by simpa [isC] using e⟩
theorem Zi{n:Int}(h: ∃j∈l,j.n=n):(W1 l n).length+1=l.length:=tr (qy h).1
theorem abD{n:Int}(h: ∃j∈l,j.n=n){x:eZ}(a:x∈l)(b:x.n≠n):x∈W1 l n:=by
 obtain⟨c,d⟩:=qy h;have:=(Dk c).mem_iff.1 a;rcases akK.1 this with rfl|hm;·exact absurd d b
 ·exact hm
theorem uw{n:Int}:(W1 l n).Sublist l:=Zo
theorem uy{α:Type}[Inhabited α]{l:List α}{i:Nat}:(l.drop 1).getD i default=l.getD (i+1) default:=by
 cases l with
 |nil=>simp
 |cons x l=>simp
theorem Dc{α:Type}[Inhabited α]{l:List α}{x:α}{i:Nat}:(l++[x]).getD i default=if i=l.length then x else l.getD i default:=by
 simp only[List.getD,ak0];split;·rw[if_neg (by omega)]
 ·split;·rename_i h;subst h;simp
  ·rename_i a b;rw[alO (by simp;omega),alO (by omega)]
theorem Hv(h:l.Pairwise fun a b=>a.n<b.n){a b:eZ}(e:a∈l)(f:b∈l)(he:a.n=b.n):a=b:=by
 induction l with
 |nil=>simp at e
 |cons x l j=>
  rw[alD] at h;rcases akK.1 e with g|i
  ·rcases akK.1 f with c|d;·rw[g,c]
   ·have:=h.1 b d;rw[g] at he;omega
  ·rcases akK.1 f with c|d;·have:=h.1 a i;rw[c] at he;omega
   ·exact j h.2 i d
variable{c:Cfg}{st:Nat}
theorem il(a:bI c)(h:st<4):0<=c.lat.getD st default/\c.lat.getD st default<=3:=wg a.2.2.1 (by have:=a.2.1;omega)
variable{s:CSt}
theorem COk.Pu(h:COk c s)(hs:st<4)(a:0<(aU s st).done.length): ∃j∈(aL s (o8 s st).who.toNat).out,j.n=(o8 s st).n/\j.left=st:=((h.slv st hs).out _ (sx (bL a))).2
theorem rP.GD{s':CSt}(h:rP c s st)(he:aU s' st=aU s st)(e: ∀x∈gL (aU s st),∀j∈(aL s x.1.toNat).out,j.n=x.2->j.left=st->j∈(aL s' x.1.toNat).out):rP c s' st:=by refine⟨by rw[he];exact h.pl,by rw[he];exact h.dl,by rw[he];exact h.last,by rw[he];exact h.inc,fun x a=> ?_,by rw[he];exact h.rsp,by rw[he];exact h.left⟩;rw[he] at a;obtain⟨f,j,g,b,d⟩:=h.out x a;exact⟨f,j,e x a j g b d,b,d⟩
variable{who:Nat}{p:cJ}
theorem gV.tell(h:gV c who p){n:Int}(hs:st<4):gV c who {p with out:=W1 p.out n,last:=st}:=by have hm: ∀j∈W1 p.out n,j∈p.out:=fun j d=>uw.subset d;exact⟨h.next,h.ql,alJ uw.length_le h.ol,by dsimp only;omega,h.queue,fun j d=>h.out j (hm j d),h.Gq.sublist uw,fun a e b f=>h.Rs a (hm a e) b (hm b f)⟩
theorem gV.adm(h:gV c who p)(l:0<p.queue.length)(s:p.out.length<4)(m:iR c.map (bO c who (p.queue.getD 0 default))=st)
 (k: ∀j∈p.out,(bO c who j.n).id=(bO c who (p.queue.getD 0 default)).id->j.left=st):gV c who {p with queue:=p.queue.drop 1,out:=p.out++[⟨who,p.queue.getD 0 default,st⟩]}:=by
 have o:=h.queue 0 l
 have q:=h.next
 have r:=h.ql
 have hl:(p.queue.drop 1).length=p.queue.length-1:=by simp
 refine⟨q,by dsimp only;omega,by simp;omega,h.last,fun i hi=> ?_,fun j f=> ?_,?_,fun a e b d g=> ?_⟩
 ·dsimp only at hi ⊢;rw[uy,h.queue (i+1) (by omega)];omega
 ·dsimp only at f ⊢;rcases akL.1 f with f|f;·have:=h.out j f;exact⟨this.1,by omega,this.2.2⟩
  ·simp only[akT] at f;subst f;exact⟨rfl,by dsimp only;omega,m.symm⟩
 ·dsimp only;rw[amC];refine⟨h.Gq,by simp,fun a e b d=> ?_⟩;simp only[akT] at d;subst d;have:=(h.out a e).2.1;dsimp only;omega
 ·dsimp only at e d;rcases akL.1 e with e|e<;>rcases akL.1 d with d|d;·exact h.Rs a e b d g
  ·simp only[akT] at d;subst d;exact k a e g
  ·simp only[akT] at e;subst e;exact(k b d g.symm).symm
  ·simp only[akT] at e d;subst e;subst d;rfl
theorem gV.ask(h:gV c who p)(d:p.queue.length<2)(e:p.next<(c.b7.getD who default).length):gV c who {p with queue:=p.queue++[p.next],next:=p.next+1}:=by
 have f:=h.next;have a:=h.ql;refine⟨by dsimp only;omega,by simp;omega,h.ol,h.last,fun i hi=> ?_,fun j b=> ?_,h.Gq,h.Rs⟩
 ·simp only[akG,List.length_singleton] at hi ⊢;rw[Dc];split;·omega
  ·rw[h.queue i (by omega)];omega
 ·have:=h.out j b;refine⟨this.1,?_,this.2.2⟩;simp only[akG,List.length_singleton];omega
variable{m:Mic}
theorem Zm(a:bI c)(h:COk c s)(b:ck c s m):rU c (dH (bS c s m)):=by
 rw[Pj a h b];have hw:=Fh h b
 cases m with
 |tick st=>exact h.st
 |adm who st=>exact h.st
 |tell who st=>exact TV a h.st (hw ⟨3,who,(o8 s st).n⟩ (akT.2 rfl))
 |work st=>exact TV a h.st (hw ⟨2,(dZ s st).who,(dZ s st).n⟩ (akT.2 rfl))
 |ask who=>exact TV a h.st (hw ⟨1,who,(aL s who).next⟩ (akT.2 rfl))
theorem Jg:(bS c s m).bE.length=s.bE.length/\(bS c s m).bM.length=s.bM.length:=by cases m<;>simp[bS]
theorem Wr(h:COk c s)(b:ck c s m): ∀k,k<3->gV c k (aL (bS c s m) k):=by
 have i:=h.pl;intro k j;have hp:=h.port k j
 cases m with
 |tick st=>exact hp
 |work st=>exact hp
 |tell who st=>
  obtain⟨f,a,d,g⟩:=b;rw[cH (s:=s) (s':=bS c s (.tell who st)) rfl (by omega)];split;·rename_i e;subst e;exact hp.tell a
  ·exact hp
 |adm who st=>
  obtain⟨f,a,d,g,l,n,o⟩:=b;rw[cH (s:=s) (s':=bS c s (.adm who st)) rfl (by omega)];split;·rename_i e;subst e;exact hp.adm g l n o
  ·exact hp
 |ask who=>
  obtain⟨f,a,d⟩:=b;rw[cH (s:=s) (s':=bS c s (.ask who)) rfl (by omega)];split;·rename_i e;subst e;exact hp.ask a d
  ·exact hp
theorem aeB(H:bI c)(h:COk c s)(y:ck c s m): ∀k,k<4->rP c (bS c s m) k:=by
 have L:=h.pl;have M:=h.sl;intro k N;have f:=h.slv k N
 cases m with
 |ask who=>
  obtain⟨F,u,q⟩:=y;refine f.GD rfl fun x o j g _ _=> ?_;rw[cH (s:=s) (s':=bS c s (.ask who)) rfl (by omega)];split;·rename_i e;rw[e] at g;exact g
  ·exact g
 |tick st=>
  obtain⟨u,q,z⟩:=y;have d:=dF (s:=s) (s':=bS c s (.tick st)) rfl (by omega:st<s.bM.length) k;by_cases e:k=st
  ·subst e;rw[if_pos rfl] at d;have O:=f.left 0 q
   have l:gL (aU (bS c s (.tick k)) k)=gL (aU s k):=by
    rw[d];unfold gL;dsimp only;congr 1;conv=>rhs;rw[lV q]
    conv=>lhs;rw[lV q]
    rfl
   refine⟨by rw[d];simpa using f.pl,by rw[d];exact f.dl,by rw[d];exact f.last,by rw[l];exact f.inc,fun x o=> ?_,by rw[d];exact f.rsp,?_⟩;·rw[l] at o;exact f.out x o
   ·rw[d];simp only[akI];intro i hi;rw[G5 q];split;·rename_i e;subst e;dsimp only;unfold dZ;exact⟨by omega,fun hc=>absurd hc (by omega)⟩
    ·exact f.left i hi
  ·rw[if_neg e] at d;exact f.GD d fun x o j g _ _=>g
 |work st=>
  obtain⟨u,q,z,P⟩:=y;have d:=dF (s:=s) (s':=bS c s (.work st)) rfl (by omega:st<s.bM.length) k;by_cases e:k=st
  ·subst e;rw[if_pos rfl] at d
   have l:gL (aU (bS c s (.work k)) k)=gL (aU s k):=by
    rw[d];unfold gL;dsimp only;conv=>rhs;rw[lV q]
    simp[key,dZ]
   have hm:((dZ s k).who,(dZ s k).n)∈gL (aU s k):=km (bL q);obtain⟨A,v,B⟩:=h.vIn u hm;dsimp only at A v B;refine⟨by rw[d];have:=f.pl;simp;omega,by rw[d];simp;omega,by rw[d];exact f.last,by rw[l];exact f.inc,fun x o=> ?_,?_,?_⟩;·rw[l] at o;exact f.out x o
   ·rw[d];intro j g;rcases akL.1 g with g|g;·exact f.rsp j g
    ·simp only[akT] at g;subst g;have hp:=h.port (dZ s k).who.toNat (by omega);have C:rI c (dZ s k).who (dZ s k).n:=by have:=hp.asks (n:=(dZ s k).n) (by omega) v (by have:=hp.ql;omega);have Q:(((dZ s k).who.toNat:Nat):Int)=(dZ s k).who:=(by omega);rwa [Q] at this
     exact Qk h.atm.wr (MQ H C)
   ·rw[d];simp only[akS];intro i hi;rw[uy];have:=f.left (i+1) (by omega);rw[this.2 (by omega)];have:=il H u;exact⟨by omega,fun _=>rfl⟩
  ·rw[if_neg e] at d;exact f.GD d fun x o j g _ _=>g
 |adm who st=>
  obtain⟨F,u,q,z,P,Y,Z⟩:=y;have d:=dF (s:=s) (s':=bS c s (.adm who st)) rfl (by omega:st<s.bM.length) k;have G:=fun w=>cH (s:=s) (s':=bS c s (.adm who st)) rfl (by omega:who<s.bE.length) w
  have p: ∀w,∀j∈(aL s w).out,j∈(aL (bS c s (.adm who st)) w).out:=fun w j g=>by
   rw[G];split;·rename_i e;subst e;exact alI _ g
   ·exact g
  by_cases e:k=st
  ·subst e;rw[if_pos rfl] at d;have l:gL (aU (bS c s (.adm who k)) k)=gL (aU s k)++[((who:Int),(aL s who).queue.getD 0 default)]:=(by rw[d];unfold gL;simp);have R:=(h.port who F).queue 0 z;refine⟨by rw[d];simp;omega,by rw[d];exact f.dl,by rw[d];dsimp only;omega,?_,fun x o=> ?_,by rw[d];exact f.rsp,?_⟩;·rw[l,amC];refine⟨f.inc,by simp,fun a S b D I=> ?_⟩;simp only[akT] at D;subst D;dsimp only at I ⊢;have:=(h.vIn u S).2.2;have e:a.1.toNat=who:=(by omega);rw[e] at this;omega
   ·rw[l] at o;rcases akL.1 o with o|o;·obtain⟨A,j,v,B⟩:=f.out x o;exact⟨A,j,p _ j v,B⟩
    ·simp only[akT] at o;subst o;refine⟨by dsimp only;omega,⟨who,(aL s who).queue.getD 0 default,k⟩,?_,rfl,rfl⟩;rw[G,if_pos (by simp)];simp
   ·rw[d];simp only[akG,List.length_singleton];intro i hi;rw[Dc];have:=il H u;split;·exact⟨by dsimp only;omega,fun _=>rfl⟩
    ·exact f.left i (by omega)
  ·rw[if_neg e] at d;exact f.GD d fun x o j g _ _=>p _ j g
 |tell who st=>
  obtain⟨F,u,q,z⟩:=y;have T:(o8 s st).who=who:=z;have d:=dF (s:=s) (s':=bS c s (.tell who st)) rfl (by omega:st<s.bM.length) k;have G:=fun w=>cH (s:=s) (s':=bS c s (.tell who st)) rfl (by omega:who<s.bE.length) w;obtain⟨K,J,U,g3⟩:=h.Pu u q;have V:(o8 s st).who.toNat=who:=by omega
  rw[V] at J;have hex: ∃j∈(aL s who).out,j.n=(o8 s st).n:=⟨K,J,U⟩
  have p: ∀w,∀j∈(aL s w).out,(w=who->j.n≠(o8 s st).n)->j∈(aL (bS c s (.tell who st)) w).out:=fun w j g E=>by
   rw[G];split;·rename_i e;subst e;exact abD hex g (E rfl)
   ·exact g
  have r:gL (aU s st)=key (o8 s st)::(((aU s st).done.drop 1).map key++(aU s st).pipe.map fun j=>(j.who,j.n)):=by
   unfold gL;conv=>lhs;rw[lV q]
   rfl
  by_cases e:k=st
  ·subst e;rw[if_pos rfl] at d;have l:gL (aU (bS c s (.tell who k)) k)=((aU s k).done.drop 1).map key++(aU s k).pipe.map fun j=>(j.who,j.n):=by rw[d];rfl
   have t:=f.inc;rw[r,alD] at t;refine⟨by rw[d];exact f.pl,by rw[d];have:=f.dl;simp;omega,by rw[d];exact f.last,by rw[l];exact t.2,fun x o=> ?_,?_,by rw[d];exact f.left⟩;·rw[l] at o;obtain⟨A,j,v,B,W⟩:=f.out x (by rw[r];exact alL _ o);refine⟨A,j,p _ j v fun he X=> ?_,B,W⟩;have:=t.1 x o (by simp only[key];omega);simp only[key] at this;omega
   ·rw[d];exact fun j g=>f.rsp j (anM g)
  ·rw[if_neg e] at d;refine f.GD d fun x o j g X hl=>p _ j g fun he E=> ?_;subst he;have hp:=h.port x.1.toNat F;have hu:K=j:=(by exact Hv hp.Gq J g (by omega));subst hu;omega
theorem Hz{f g:Nat->Nat}(h:who<3)(a: ∀i,i≠who->f i=g i):f 0+f 1+f 2+g who=g 0+g 1+g 2+f who:=by
 have:who=0\/who=1\/who=2:=by omega
 rcases this with rfl|rfl|rfl;·have:=a 1 (by omega);have:=a 2 (by omega);omega
 ·have:=a 0 (by omega);have:=a 2 (by omega);omega
 ·have:=a 0 (by omega);have:=a 1 (by omega);omega
theorem Jd{f g:Nat->Nat}(h:st<4)(a: ∀i,i≠st->f i=g i):f 0+f 1+f 2+f 3+g st=g 0+g 1+g 2+g 3+f st:=by
 have:st=0\/st=1\/st=2\/st=3:=by omega
 rcases this with rfl|rfl|rfl|rfl;·have:=a 1 (by omega);have:=a 2 (by omega);have:=a 3 (by omega);omega
 ·have:=a 0 (by omega);have:=a 2 (by omega);have:=a 3 (by omega);omega
 ·have:=a 0 (by omega);have:=a 1 (by omega);have:=a 3 (by omega);omega
 ·have:=a 0 (by omega);have:=a 1 (by omega);have:=a 2 (by omega);omega
theorem Uu(h:COk c s)(j:ck c s m):(aL (bS c s m) 0).out.length+(aL (bS c s m) 1).out.length+(aL (bS c s m) 2).out.length=lO (bS c s m) 0+lO (bS c s m) 1+lO (bS c s m) 2+lO (bS c s m) 3:=by
 have q:=h.pl;have r:=h.sl;have hc:=h.count
 cases m with
 |ask who=>
  obtain⟨n,b,l⟩:=j;have d:=fun w=>cH (s:=s) (s':=bS c s (.ask who)) rfl (by omega:who<s.bE.length) w
  have: ∀w,(aL (bS c s (.ask who)) w).out=(aL s w).out:=fun w=>by
   rw[d];split;·rename_i e;subst e;rfl
   ·rfl
  rw[this,this,this];exact hc
 |tick st=>
  obtain⟨b,l,o⟩:=j;have a:=fun k=>dF (s:=s) (s':=bS c s (.tick st)) rfl (by omega:st<s.bM.length) k
  have: ∀k,lO (bS c s (.tick st)) k=lO s k:=fun k=>by
   unfold lO;rw[a];split;·rename_i e;subst e;simp
   ·rfl
  rw[this,this,this,this];exact hc
 |work st=>
  obtain⟨b,l,o,C⟩:=j;have a:=fun k=>dF (s:=s) (s':=bS c s (.work st)) rfl (by omega:st<s.bM.length) k
  have: ∀k,lO (bS c s (.work st)) k=lO s k:=fun k=>by
   unfold lO;rw[a];split;·rename_i e;subst e;simp;omega
   ·rfl
  rw[this,this,this,this];exact hc
 |adm who st=>
  obtain⟨n,b,l,o⟩:=j;have a:=fun k=>dF (s:=s) (s':=bS c s (.adm who st)) rfl (by omega:st<s.bM.length) k;have d:=fun w=>cH (s:=s) (s':=bS c s (.adm who st)) rfl (by omega:who<s.bE.length) w;have t:=Hz (f:=fun w=>(aL (bS c s (.adm who st)) w).out.length) (g:=fun w=>(aL s w).out.length) n fun i hi=>by rw[d,if_neg hi]
  have u:=Jd (f:=lO (bS c s (.adm who st))) (g:=lO s) b fun i hi=>by unfold lO;rw[a,if_neg hi]
  have v:(aL (bS c s (.adm who st)) who).out.length=(aL s who).out.length+1:=by rw[d,if_pos rfl];simp
  have x:lO (bS c s (.adm who st)) st=lO s st+1:=by unfold lO;rw[a,if_pos rfl];simp;omega
  omega
 |tell who st=>
  obtain⟨n,b,l,o⟩:=j;have y:(o8 s st).who=who:=o;have a:=fun k=>dF (s:=s) (s':=bS c s (.tell who st)) rfl (by omega:st<s.bM.length) k;have d:=fun w=>cH (s:=s) (s':=bS c s (.tell who st)) rfl (by omega:who<s.bE.length) w;obtain⟨z,p,A,D⟩:=h.Pu b l;have B:(o8 s st).who.toNat=who:=by omega
  rw[B] at p;have t:=Hz (f:=fun w=>(aL (bS c s (.tell who st)) w).out.length) (g:=fun w=>(aL s w).out.length) n fun i hi=>by rw[d,if_neg hi]
  have u:=Jd (f:=lO (bS c s (.tell who st))) (g:=lO s) b fun i hi=>by unfold lO;rw[a,if_neg hi]
  have v:(aL (bS c s (.tell who st)) who).out.length+1=(aL s who).out.length:=by rw[d,if_pos rfl];exact Zi ⟨z,p,A⟩
  have x:lO (bS c s (.tell who st)) st+1=lO s st:=by unfold lO;rw[a,if_pos rfl];simp;omega
  omega
theorem ES(b:bI c)(h:COk c s)(a:ck c s m):COk c (bS c s m):=⟨(Zm b h a).atm,by rw[Jg.1];exact h.pl,by rw[Jg.2];exact h.sl,Wr h a,aeB b h a,Uu h a,Zm b h a⟩
def KE(c:Cfg):CSt->List Mic->Prop
 |_,[]=>True
 |s,m::l=>ck c s m/\KE c (bS c s m) l
def mU(c:Cfg)(s:CSt)(l:List Mic):CSt:=l.foldl (bS c) s
def jV(c:Cfg):CSt->List Mic->List Ev
 |_,[]=>[]
 |s,m::l=>JE s m++jV c (bS c s m) l
theorem BB{a b:List Mic}:mU c s (a++b)=mU c (mU c s a) b:=by simp[mU]
theorem TQ{c:Cfg}: ∀{a b:List Mic} {s:CSt},KE c s (a++b)↔KE c s a/\KE c (mU c s a) b
 | [],b,s=>by simp[KE,mU]
 |m::a,b,s=>by have:=TQ (c:=c) (a:=a) (b:=b) (s:=bS c s m);simp only[List.cons_append,KE,this,and_assoc];rfl
theorem TF{c:Cfg}: ∀{a b:List Mic} {s:CSt},jV c s (a++b)=jV c s a++jV c (mU c s a) b
 | [],b,s=>by simp[jV,mU]
 |m::a,b,s=>by have:=TF (c:=c) (a:=a) (b:=b) (s:=bS c s m);simp only[List.cons_append,jV,this,akO];rfl
theorem OH{c:Cfg}(a:bI c): ∀{l:List Mic} {s:CSt},COk c s->KE c s l->COk c (mU c s l)/\dH (mU c s l)=runM c (dH s) (jV c s l)/\QR c (dH s) (jV c s l)
 | [],s,h,_=>⟨h,rfl,xI⟩
 |m::l,s,h,e=>by
  obtain⟨b,f⟩:=e;obtain⟨g,i,j⟩:=OH a (l:=l) (ES a h b) f;have d:=Pj a h b;refine⟨g,?_,?_⟩;·show dH (mU c (bS c s m) l)=_;rw[i,d];show _=runM c (dH s) (JE s m++jV c (bS c s m) l);rw[Hc]
  ·show QR c (dH s) (JE s m++jV c (bS c s m) l);rw[Da];refine⟨?_,by rw[<-d];exact j⟩;have hw:=Fh h b
   cases m with
   |tick st=>exact xI
   |adm who st=>exact xI
   |tell who st=>exact HG.2 ⟨hw ⟨3,who,(o8 s st).n⟩ (akT.2 rfl),xI⟩
   |work st=>exact HG.2 ⟨hw ⟨2,(dZ s st).who,(dZ s st).n⟩ (akT.2 rfl),xI⟩
   |ask who=>exact HG.2 ⟨hw ⟨1,who,(aL s who).next⟩ (akT.2 rfl),xI⟩
def KY(s:CSt)(who k:Nat):Nat:=(((aL s who).last+(k:Int))%4).toNat
def Ce(s:CSt)(who st:Nat):Bool:=decide (0<(aU s st).done.length/\((aU s st).done.getD 0 default).who=who)
def AB(i:CIn)(s:CSt)(who:Nat):Option Mic:=if i.ready.getD who default=true then (([1,2,3,4].map (KY s who)).find? (Ce s who)).map (.tell who) else none
def AA(i:CIn)(s:CSt)(st:Nat):Option Mic:=if i.iP.getD st default=true\/(aU s st).pipe.length=0 then none else if 0<(dZ s st).left then some (.tick st) else if (aU s st).done.length<2 then some (.work st) else none
def L6(s:CSt)(st k:Nat):Nat:=(((aU s st).last+(k:Int))%3).toNat
def Q1(c:Cfg)(s:CSt)(used:List Bool)(st who:Nat):Bool:= !(used.getD who default)&&decide (SF c s who st)
def XF(c:Cfg)(s:CSt)(used:List Bool)(st:Nat):Option Nat:=if (aU s st).pipe.length<2 then ([1,2,3].map (L6 s st)).find? (Q1 c s used st) else none
def xv(c:Cfg)(i:CIn)(s:CSt)(who:Nat):Option Mic:=if i.send.getD who default=true/\(aL s who).queue.length<2/\(aL s who).next<(c.b7.getD who default).length then some (.ask who) else none
def za(c:Cfg)(s:CSt):Option Mic->CSt
 |none=>s
 |some m=>bS c s m
def L4(c:Cfg)(f:CSt->Nat->Option Mic):CSt->List Nat->List Mic
 |_,[]=>[]
 |s,k::l=>match f s k with
  |none=>L4 c f s l
  |some m=>m::L4 c f (bS c s m) l
def xd(c:Cfg):CSt->List Bool->List Nat->List Mic
 |_,_,[]=>[]
 |s,u,st::l=>match XF c s u st with
  |none=>xd c s u l
  |some who=>.adm who st::xd c (bS c s (.adm who st)) (u.set who true) l
def V0(c:Cfg)(i:CIn)(s:CSt):List Mic:=L4 c (AB i) s [0,1,2]
def PL(c:Cfg)(i:CIn)(s:CSt):List Mic:=L4 c (AA i) s [0,1,2,3]
def Nn(c:Cfg)(s:CSt):List Mic:=xd c s [false,false,false] [0,1,2,3]
def yt(c:Cfg)(i:CIn)(s:CSt):List Mic:=L4 c (xv c i) s [0,1,2]
def QY(c:Cfg)(i:CIn)(s:CSt):CSt:=mU c s (V0 c i s)
def XH(c:Cfg)(i:CIn)(s:CSt):CSt:=mU c (QY c i s) (PL c i (QY c i s))
def X6(c:Cfg)(i:CIn)(s:CSt):CSt:=mU c (XH c i s) (Nn c (XH c i s))
def T5(c:Cfg)(i:CIn)(s:CSt):CSt:=mU c (X6 c i s) (yt c i (X6 c i s))
def Sy(c:Cfg)(i:CIn)(s:CSt):List Mic:=V0 c i s++PL c i (QY c i s)++Nn c (XH c i s)++yt c i (X6 c i s)
def qu(c:Cfg)(i:CIn)(s:CSt):List Ev:=jV c s (Sy c i s)
variable{i:CIn}
theorem Qi:T5 c i s=mU c s (Sy c i s):=by unfold Sy T5 X6 XH QY;simp only[BB]
theorem ZJ{c:Cfg}(a:bI c){f:CSt->Nat->Option Mic}: ∀{l:List Nat} {s:CSt},COk c s->(∀s k m,COk c s->k∈l->f s k=some m->ck c s m)->KE c s (L4 c f s l)
 | [],s,_,_=>trivial
 |k::l,s,h,b=>by
  unfold L4;split;·exact ZJ a h fun s k m hs d hm=>b s k m hs (alL _ d) hm
  ·rename_i m hm;have e:=b s k m h (by simp) hm;exact⟨e,ZJ a (ES a h e) fun s k m hs d hm=>b s k m hs (alL _ d) hm⟩
theorem YU(_:COk c s)(hw:who<3)(hm:AB i s who=some m):ck c s m:=by
 unfold AB at hm;split at hm;·rw[akH] at hm;obtain⟨st,a,rfl⟩:=hm;have b:=List.find?_some a;have d:=an0 a;obtain⟨k,_,rfl⟩:=akJ.1 d;obtain⟨e,f⟩:=of_decide_eq_true b;exact⟨hw,by unfold KY;omega,e,f⟩
 ·cases hm
theorem S7(_:COk c s)(hw:st<4)(hm:AA i s st=some m):ck c s m:=by
 unfold AA at hm;split at hm;·cases hm
 ·rename_i d;split at hm;·rename_i a;cases hm;exact⟨hw,by omega,a⟩
  ·rename_i a;split at hm;·rename_i b;cases hm;exact⟨hw,by omega,a,b⟩
   ·cases hm
variable{u:List Bool}
theorem Ge(hs:st<4)(hm:XF c s u st=some who):ck c s (.adm who st):=by
 unfold XF at hm;split at hm;·rename_i b;have a:=List.find?_some hm;have d:=an0 hm;obtain⟨k,_,rfl⟩:=akJ.1 d;unfold Q1 at a;rw[ak8] at a;exact⟨by unfold L6;omega,hs,b,of_decide_eq_true a.2⟩
 ·cases hm
theorem Ep(_:COk c s)(hw:who<3)(hm:xv c i s who=some m):ck c s m:=by
 unfold xv at hm;split at hm;·rename_i h;cases hm;exact⟨hw,h.2.1,h.2.2⟩
 ·cases hm
theorem Gh{c:Cfg}(a:bI c): ∀{l:List Nat} {s:CSt} {u:List Bool},COk c s->(∀k∈l,k<4)->KE c s (xd c s u l)
 | [],s,u,_,_=>trivial
 |k::l,s,u,h,hl=>by
  unfold xd;split;·exact Gh a h fun k b=>hl k (alL _ b)
  ·rename_i who hm;have d:=Ge (hl k (by simp)) hm;exact⟨d,Gh a (ES a h d) fun k b=>hl k (alL _ b)⟩
theorem ud(h:k∈[0,1,2]):k<3:=by simp at h;omega
theorem tk(h:k∈[0,1,2,3]):k<4:=by simp at h;omega
theorem Hr(a:bI c)(h:COk c s):KE c s (V0 c i s):=ZJ a h fun s k m hs b hm=>YU hs (ud b) hm
theorem Hw(a:bI c)(h:COk c s):KE c s (PL c i s):=ZJ a h fun s k m hs b hm=>S7 hs (tk b) hm
theorem Px(a:bI c)(h:COk c s):KE c s (Nn c s):=Gh a h fun k b=>tk b
theorem acU(a:bI c)(h:COk c s):KE c s (yt c i s):=ZJ a h fun s k m hs b hm=>Ep hs (ud b) hm
theorem ra(a:bI c)(h:COk c s):COk c (QY c i s):=(OH a h (Hr a h)).1
theorem sb(a:bI c)(h:COk c s):COk c (XH c i s):=(OH a (ra a h) (Hw a (ra a h))).1
theorem Pz(a:bI c)(h:COk c s):COk c (X6 c i s):=(OH a (sb a h) (Px a (sb a h))).1
theorem Gj(a:bI c)(h:COk c s):KE c s (Sy c i s):=by
 unfold Sy;rw[TQ,TQ,TQ];refine⟨⟨⟨Hr a h,Hw a (ra a h)⟩,?_⟩,?_⟩;·rw[BB];exact Px a (sb a h)
 ·rw[BB,BB];exact acU a (Pz a h)
theorem adH(a:bI c)(h:COk c s):COk c (T5 c i s):=by rw[Qi];exact(OH a h (Gj a h)).1
theorem adL(a:bI c)(h:COk c s):dH (T5 c i s)=runM c (dH s) (qu c i s):=by rw[Qi];exact(OH a h (Gj a h)).2.1
theorem Vb(a:bI c)(h:COk c s):QR c (dH s) (qu c i s):=(OH a h (Gj a h)).2.2
def kk(c:Cfg)(s:CSt)(l:List CIn):CSt:=l.foldl (fun s i=>T5 c i s) s
def uA(c:Cfg):CSt->List CIn->List Ev
 |_,[]=>[]
 |s,i::l=>qu c i s++uA c (T5 c i s) l
theorem aeE{c:Cfg}(a:bI c): ∀{l:List CIn} {s:CSt},COk c s->COk c (kk c s l)/\dH (kk c s l)=runM c (dH s) (uA c s l)/\QR c (dH s) (uA c s l)
 | [],s,h=>⟨h,rfl,xI⟩
 |i::l,s,h=>by
  obtain⟨d,e,f⟩:=aeE a (l:=l) (adH a (i:=i) h);have b:=adL a (i:=i) h;refine⟨d,?_,?_⟩;·show dH (kk c (T5 c i s) l)=runM c (dH s) (qu c i s++uA c (T5 c i s) l);rw[e,b,Hc]
  ·show QR c (dH s) (qu c i s++uA c (T5 c i s) l);rw[Da];exact⟨Vb a h,by rw[<-b];exact f⟩
theorem Uj{l:List CIn}:kk c s (i::l)=kk c (T5 c i s) l:=rfl
theorem abL{a b:List CIn}:kk c s (a++b)=kk c (kk c s a) b:=by simp[kk]
def eCJ(j:eZ):List D1:=[cI j.who,cI j.n,cI j.left]
variable{j:eZ}
theorem adP:(eCJ j).length=3:=rfl
theorem Vv:(eCJ j).take 1=[cI j.who]:=rfl
theorem Ry:(eCJ j).drop 1=[cI j.n,cI j.left]:=rfl
theorem Uk:(eCJ j).take 2=[cI j.who,cI j.n]:=rfl
theorem Vy:(eCJ j).drop 2=[cI j.left]:=rfl
theorem Sf:(eCJ j).take 3=eCJ j:=rfl
theorem Sx:(eCJ j).drop 3=[]:=rfl
variable{cs:List D1}
theorem aaP:kK cs (k+1) (eCJ j)=kK cs (k+1) [cI j.who,cI j.n,cI j.left]:=rfl
theorem E0(j:eZ):(eCJ j).length=3/\(eCJ j).all D1.fV=true:=⟨rfl,rfl⟩
attribute [go_sem] adP Vv Ry Uk Vy Sf Sx aaP
def bV(p:cJ):List D1:=[cI p.next,.isl (p.queue.map aG),.isl (p.out.map eCJ),cI p.last]
theorem Vp:(bV p).length=4:=rfl
theorem Gw:(bV p).take 1=[cI p.next]:=rfl
theorem Ip:(bV p).drop 1=[.isl (p.queue.map aG),.isl (p.out.map eCJ),cI p.last]:=rfl
theorem Jm:(bV p).take 2=[cI p.next,.isl (p.queue.map aG)]:=rfl
theorem Ja:(bV p).drop 2=[.isl (p.out.map eCJ),cI p.last]:=rfl
theorem Ho:(bV p).take 3=[cI p.next,.isl (p.queue.map aG),.isl (p.out.map eCJ)]:=rfl
theorem Ih:(bV p).drop 3=[cI p.last]:=rfl
theorem Ix:(bV p).take 4=bV p:=rfl
theorem Ju:(bV p).drop 4=[]:=rfl
theorem Lv:kK cs (k+1) (bV p)=kK cs (k+1) [cI p.next,.isl (p.queue.map aG),.isl (p.out.map eCJ),cI p.last]:=rfl
theorem MP(p:cJ):(bV p).length=4/\(bV p).all D1.fV=true:=⟨rfl,rfl⟩
attribute [go_sem] Vp Gw Ip Jm Ja Ho Ih Ix Ju Lv
def eV(v:lR):List D1:=[.isl (v.pipe.map eCJ),.isl (v.done.map aP),cI v.last]
variable{v:lR}
theorem Xi:(eV v).length=3:=rfl
theorem Ly:(eV v).take 1=[.isl (v.pipe.map eCJ)]:=rfl
theorem Ld:(eV v).drop 1=[.isl (v.done.map aP),cI v.last]:=rfl
theorem Lk:(eV v).take 2=[.isl (v.pipe.map eCJ),.isl (v.done.map aP)]:=rfl
theorem Kg:(eV v).drop 2=[cI v.last]:=rfl
theorem Om:(eV v).take 3=eV v:=rfl
theorem Lm:(eV v).drop 3=[]:=rfl
theorem Vk:kK cs (k+1) (eV v)=kK cs (k+1) [.isl (v.pipe.map eCJ),.isl (v.done.map aP),cI v.last]:=rfl
theorem TH(v:lR):(eV v).length=3/\(eV v).all D1.fV=true:=⟨rfl,rfl⟩
attribute [go_sem] Xi Ly Ld Lk Kg Om Lm Vk
def dY(s:CSt):List D1:=[.isl (s.words.map aG),.isl (s.holds.map aG),.isl (s.bE.map bV),.isl (s.bM.map eV),.isl (s.told.map aP)]
theorem aaS:(dY s).length=5:=rfl
theorem Kj:(dY s).take 1=[.isl (s.words.map aG)]:=rfl
theorem Lj:(dY s).drop 1=[.isl (s.holds.map aG),.isl (s.bE.map bV),.isl (s.bM.map eV),.isl (s.told.map aP)]:=rfl
theorem La:(dY s).take 2=[.isl (s.words.map aG),.isl (s.holds.map aG)]:=rfl
theorem Nb:(dY s).drop 2=[.isl (s.bE.map bV),.isl (s.bM.map eV),.isl (s.told.map aP)]:=rfl
theorem Ol:(dY s).take 3=[.isl (s.words.map aG),.isl (s.holds.map aG),.isl (s.bE.map bV)]:=rfl
theorem Nk:(dY s).drop 3=[.isl (s.bM.map eV),.isl (s.told.map aP)]:=rfl
theorem Kh:(dY s).take 4=[.isl (s.words.map aG),.isl (s.holds.map aG),.isl (s.bE.map bV),.isl (s.bM.map eV)]:=rfl
theorem Mu:(dY s).drop 4=[.isl (s.told.map aP)]:=rfl
theorem Kk:(dY s).take 5=dY s:=rfl
theorem Lg:(dY s).drop 5=[]:=rfl
theorem Si:kK cs (k+1) (dY s)=kK cs (k+1) [.isl (s.words.map aG),.isl (s.holds.map aG),.isl (s.bE.map bV),.isl (s.bM.map eV),.isl (s.told.map aP)]:=rfl
attribute [go_sem] aaS Kj Lj La Nb Ol Nk Kh Mu Kk Lg Si
def d8(b:Bool):List D1:=[cB b]
theorem Vl{b:Bool}:(d8 b).length=1:=rfl
theorem Jk{b:Bool}:(d8 b).take 1=[cB b]:=rfl
theorem Hn{b:Bool}:(d8 b).drop 1=[]:=rfl
theorem Nw{b:Bool}:kK cs (k+1) (d8 b)=kK cs (k+1) [cB b]:=rfl
attribute [go_sem] Vl Jk Hn Nw
def eIn(i:CIn):List D1:=[.isl (i.ready.map d8),.isl (i.iP.map d8),.isl (i.send.map d8)]
theorem ab1:(eIn i).length=3:=rfl
theorem Uo:(eIn i).take 1=[.isl (i.ready.map d8)]:=rfl
theorem Tz:(eIn i).drop 1=[.isl (i.iP.map d8),.isl (i.send.map d8)]:=rfl
theorem Rh:(eIn i).take 2=[.isl (i.ready.map d8),.isl (i.iP.map d8)]:=rfl
theorem Td:(eIn i).drop 2=[.isl (i.send.map d8)]:=rfl
theorem Tb:(eIn i).take 3=eIn i:=rfl
theorem Tv:(eIn i).drop 3=[]:=rfl
theorem Wf:kK cs (k+1) (eIn i)=kK cs (k+1) [.isl (i.ready.map d8),.isl (i.iP.map d8),.isl (i.send.map d8)]:=rfl
attribute [go_sem] ab1 Uo Tz Rh Td Tb Tv Wf
structure nN(H:aA)(n id off len cap:Nat)(R:List (List D1)):Prop where
 ex: ∃m rows,H id=some ⟨n,m,rows⟩/\rows.drop off=R/\off+len<=rows.length/\len=R.length/\len<=cap/\off+cap<=m
def Cp(a no:Nat)(p:cJ)(b c d:Nat):List D1:=[cI p.next,.osl 1 a b p.queue.length c,.osl 3 no 0 p.out.length d,cI p.last]
def Gm(a b:Nat)(v:lR)(c d do_ e:Nat):List D1:=[.osl 3 a c v.pipe.length d,.osl 5 b do_ v.done.length e,cI v.last]
structure IU(H:aA)(nq no:Nat)(p:cJ)(r:List D1):Prop where
 ex: ∃qo qc oc,r=Cp nq no p qo qc oc/\nN H 1 nq qo p.queue.length qc (p.queue.map aG)/\nN H 3 no 0 p.out.length oc (p.out.map eCJ)
structure SK(H:aA)(np nd:Nat)(v:lR)(r:List D1):Prop where
 ex: ∃po pc do_ dc,r=Gm np nd v po pc do_ dc/\nN H 3 np po v.pipe.length pc (v.pipe.map eCJ)/\nN H 5 nd do_ v.done.length dc (v.done.map aP)
def kh(nm:Nat->Nat)(s:CSt)(wc hc a vc b:Nat):List D1:=[.osl 1 (nm 0) 0 s.words.length wc,.osl 1 (nm 1) 0 s.holds.length hc,.osl 4 (nm 2) 0 3 a,.osl 3 (nm 3) 0 4 vc,.osl 5 (nm 4) 0 s.told.length b]
structure Ej(H:aA)(nm:Nat->Nat)(s:CSt)(cells:List D1):Prop where
 ex: ∃wc hc pc vc tc,cells=kh nm s wc hc pc vc tc/\nN H 1 (nm 0) 0 s.words.length wc (s.words.map aG)/\nN H 1 (nm 1) 0 s.holds.length hc (s.holds.map aG)/\nN H 5 (nm 4) 0 s.told.length tc (s.told.map aP)/\
  3<=pc/\4<=vc
 bE: ∃m rows,H (nm 2)=some ⟨4,m,rows⟩/\rows.length=3/\ ∀k,k<3->∃r,rows[k]?=some r/\IU H (nm (5+k)) (nm (8+k)) (aL s k) r
 bM: ∃m rows,H (nm 3)=some ⟨3,m,rows⟩/\rows.length=4/\ ∀k,k<4->∃r,rows[k]?=some r/\SK H (nm (11+k)) (nm (15+k)) (aU s k) r
structure Names(X:Nat->Prop)(nx:Nat)(nm:Nat->Nat):Prop where
 inj: ∀j k,j<19->k<19->nm j=nm k->j=k
 lt: ∀k,k<19->nm k<nx
 av: ∀k,k<19->¬X (nm k)
structure Rep(X:Nat->Prop)(H:aA)(nx i0:Nat)(nm:Nat->Nat)(s:CSt):Prop where
 st: ∃cells,H i0=some ⟨5,1,[cells]⟩/\Ej H nm s cells
 names:Names X nx nm
 ne: ∀k,k<19->nm k≠i0
 i0:i0<nx/\ ¬X i0
 x: ∀id,X id->id<nx
def ae3(Y:Nat->Prop)(H:aA)(nx i1:Nat)(es:List Ev)(d:D1):Prop:=(es=[]/\d= .osl 0 0 0 0 0)\/ ∃ev cap,d= .osl 3 ev 0 es.length cap/\nN H 3 ev 0 es.length cap (es.map eEv)/\ev<nx/\ ¬Y ev/\ev≠i1
structure Rk(Y:Nat->Prop)(H:aA)(nx i1:Nat)(es:List Ev):Prop where
 ex: ∃d a b c e,H i1=some ⟨5,1,[[d,cI a,cI b,cI c,cI e]]⟩/\ae3 Y H nx i1 es d
 i1:i1<nx/\ ¬Y i1
 y: ∀id,Y id->id<nx
variable{H:aA}
theorem aA.aB{a i:Nat}{o:bQ}(h:i≠a):H.set a o i=H i:=if_neg h
theorem aA.aI{a:Nat}{o:bQ}:H.set a o a=some o:=if_pos rfl
theorem aA.gK{a i:Nat}(h:i≠a):H.del a i=H i:=if_neg h
def cU(x:Nat):List Nat->Prop
 | []=>True
 |y::l=>((x=y)=False/\(y=x)=False)/\cU x l
def bH(nx:Nat):List Nat->Prop
 | []=>True
 |x::l=>((∀k,(x=nx+k)=False)/\(∀k,(nx+k=x)=False)/\(x=nx)=False/\(nx=x)=False)/\cU x l/\bH nx l
theorem afC{x:Nat}: ∀{l:List Nat},x∉l->cU x l
 | [],_=>trivial
 |y::l,h=>by rw[akK,not_or] at h;exact⟨⟨eq_false h.1,eq_false (Ne.symm h.1)⟩,afC h.2⟩
theorem apart{nx:Nat}: ∀{l:List Nat},l.Nodup->(∀x∈l,x<nx)->bH nx l
 | [],_,_=>trivial
 |x::l,h,hl=>by rw[alG] at h;have b:=hl x (by simp);exact⟨⟨fun k=>eq_false (by omega),fun k=>eq_false (by omega),eq_false (by omega),eq_false (by omega)⟩,afC h.1,apart h.2 fun y a=>hl y (alL _ a)⟩
theorem Names.list{X:Nat->Prop}{nx:Nat}{nm:Nat->Nat}(h:Names X nx nm): ∀{l:List Nat},l.Nodup->(∀k∈l,k<19)->(l.map nm).Nodup
 | [],_,_=>List.Pairwise.nil
 |k::l,b,hl=>by rw[alG] at b;rw[akP,alG];refine⟨fun hm=> ?_,h.list b.2 fun j a=>hl j (alL _ a)⟩;obtain⟨j,a,he⟩:=akJ.1 hm;exact b.1 (h.inj j k (hl j (alL _ a)) (hl k (by simp)) he▸a)
theorem Rep.apart{X:Nat->Prop}{H:aA}{nx nx' i0:Nat}{nm:Nat->Nat}{s:CSt}(h:Rep X H nx i0 nm s)(ext l:List Nat)(c:nx<=nx')(he:ext.Nodup)(d: ∀x∈ext,X x)(m:l.Nodup)(hl: ∀k∈l,k<19):bH nx' (ext++i0::l.map nm):=by
 refine AM.apart (alS.2 ⟨he,alG.2 ⟨fun hm=> ?_,h.names.list m hl⟩,fun a i b f g=> ?_⟩) fun x c=> ?_;·obtain⟨j,e,he⟩:=akJ.1 hm;exact h.ne j (hl j e) he
 ·subst g;rcases akK.1 f with rfl|f;·exact h.i0.2 (d _ i)
  ·obtain⟨j,e,rfl⟩:=akJ.1 f;exact h.names.av j (hl j e) (d _ i)
 ·rcases akL.1 c with c|c;·have:=h.x x (d x c);omega
  ·rcases akK.1 c with rfl|c;·have:=h.i0.1;omega
   ·obtain⟨j,e,rfl⟩:=akJ.1 c;have:=h.names.lt j (hl j e);omega
theorem nN.frame{H H':aA}{n id off len cap:Nat}{R:List (List D1)}(h:nN H n id off len cap R)(he:H' id=H id):nN H' n id off len cap R:=by obtain⟨m,rows,a,b⟩:=h.ex;exact⟨m,rows,by rw[he,a],b⟩
theorem IU.frame{H H':aA}{a no:Nat}{p:cJ}{r:List D1}(h:IU H a no p r)(b:H' a=H a)(c:H' no=H no):IU H' a no p r:=by obtain⟨d,f,g,e,i,j⟩:=h.ex;exact⟨d,f,g,e,i.frame b,j.frame c⟩
theorem SK.frame{H H':aA}{a b:Nat}{v:lR}{r:List D1}(h:SK H a b v r)(c:H' a=H a)(d:H' b=H b):SK H' a b v r:=by obtain⟨f,g,do_,i,e,j,k⟩:=h.ex;exact⟨f,g,do_,i,e,j.frame c,k.frame d⟩
theorem Rep.upd{X:Nat->Prop}{H H':aA}{nx nx' i0:Nat}{nm b:Nat->Nat}{s s':CSt}{who st:Nat}(h:Rep X H nx i0 nm s)(P:nx<=nx')(E:Names X nx' b)(q: ∀k,k<19->b k≠i0)
 (j: ∀k,k<19->k≠4->k≠5+who->k≠8+who->k≠11+st->k≠15+st->b k=nm k) (f: ∀k,5<=k->k<19->k≠5+who->k≠8+who->k≠11+st->k≠15+st->H' (nm k)=H (nm k))
 (F: ∃wc hc n vc o,H' i0=some ⟨5,1,[kh b s' wc hc n vc o]⟩/\nN H' 1 (b 0) 0 s'.words.length wc (s'.words.map aG)/\nN H' 1 (b 1) 0 s'.holds.length hc (s'.holds.map aG)/\nN H' 5 (b 4) 0 s'.told.length o (s'.told.map aP)/\3<=n/\4<=vc)
 (G: ∃m rows m0 a,H (nm 2)=some ⟨4,m0,a⟩/\H' (nm 2)=some ⟨4,m,rows⟩/\rows.length=3/\(∀k,k<3->k≠who->rows[k]?=a[k]?)/\(who<3->∃r,rows[who]?=some r/\IU H' (b (5+who)) (b (8+who)) (aL s' who) r))
 (I: ∃m rows m0 a,H (nm 3)=some ⟨3,m0,a⟩/\H' (nm 3)=some ⟨3,m,rows⟩/\rows.length=4/\(∀k,k<4->k≠st->rows[k]?=a[k]?)/\(st<4->∃r,rows[st]?=some r/\SK H' (b (11+st)) (b (15+st)) (aU s' st) r))
 (hw:who<3\/who=14) (hs:st<4\/st=8) (hp: ∀k,k<3->k≠who->aL s' k=aL s k) (J: ∀k,k<4->k≠st->aU s' k=aU s k):Rep X H' nx' i0 b s':=by
 obtain⟨⟨cells,K,hex,g,i⟩,p,D,t,L⟩:=h
 refine⟨?_,E,q,⟨by omega,t.2⟩,fun id u=>by have:=L id u;omega⟩
 obtain⟨wc,hc,n,vc,o,M,N⟩:=F
 refine⟨_,M,⟨wc,hc,n,vc,o,rfl,N⟩,?_,?_⟩
 ·obtain⟨m,rows,m0,a,v,w,x,y,z⟩:=G;obtain⟨m1,d,l,O,A⟩:=g;rw[v] at l;obtain⟨_,rfl,rfl⟩:4=4/\m0=m1/\a=d:=by simpa using l
  refine⟨m,rows,by rw[j 2 (by omega) (by omega) (by omega) (by omega) (by omega) (by omega)];exact w,x,fun k c=> ?_⟩;by_cases e:k=who;·subst e;exact z c
  ·obtain⟨r,B,C⟩:=A k c;refine⟨r,by rw[y k c e];exact B,?_⟩;rw[hp k c e,j (5+k) (by omega) (by omega) (by omega) (by omega) (by omega) (by omega),j (8+k) (by omega) (by omega) (by omega) (by omega) (by omega) (by omega)];exact C.frame (f _ (by omega) (by omega) (by omega) (by omega) (by omega) (by omega)) (f _ (by omega) (by omega) (by omega) (by omega) (by omega) (by omega))
 ·obtain⟨m,rows,m0,a,v,w,x,y,z⟩:=I;obtain⟨m1,d,l,O,A⟩:=i;rw[v] at l;obtain⟨_,rfl,rfl⟩:3=3/\m0=m1/\a=d:=by simpa using l
  refine⟨m,rows,by rw[j 3 (by omega) (by omega) (by omega) (by omega) (by omega) (by omega)];exact w,x,fun k c=> ?_⟩;by_cases e:k=st;·subst e;exact z c
  ·obtain⟨r,B,C⟩:=A k c;refine⟨r,by rw[y k c e];exact B,?_⟩;rw[J k c e,j (11+k) (by omega) (by omega) (by omega) (by omega) (by omega) (by omega),j (15+k) (by omega) (by omega) (by omega) (by omega) (by omega) (by omega)];exact C.frame (f _ (by omega) (by omega) (by omega) (by omega) (by omega) (by omega)) (f _ (by omega) (by omega) (by omega) (by omega) (by omega) (by omega))
theorem Rep.frame{X o:Nat->Prop}{H H':aA}{nx nx' i0:Nat}{nm:Nat->Nat}{s:CSt}(h:Rep X H nx i0 nm s)(I:nx<=nx')(p:H' i0=H i0)(a: ∀k,k<19->H' (nm k)=H (nm k))(f: ∀id,o id->id<nx'/\id≠i0/\ ∀k,k<19->id≠nm k):Rep o H' nx' i0 nm s:=by
 obtain⟨⟨cells,g,⟨wc,hc,q,vc,t,u,v,w,x,y⟩,⟨m,rows,z,A,B⟩,⟨C,c,D,E,F⟩⟩,b,e,G,_⟩:=h
 refine⟨⟨cells,by rw[p];exact g,⟨wc,hc,q,vc,t,u,v.frame (a _ (by omega)),w.frame (a _ (by omega)),x.frame (a _ (by omega)),y⟩,⟨m,rows,by rw[a 2 (by omega)];exact z,A,fun k d=> ?_⟩,⟨C,c,by rw[a 3 (by omega)];exact D,E,fun k d=> ?_⟩⟩,
  ⟨b.inj,fun k d=>by have:=b.lt k d;omega,fun k d i=>(f _ i).2.2 k d rfl⟩,e,⟨by omega,fun i=>(f _ i).2.1 rfl⟩,fun id j=>(f id j).1⟩
 ·obtain⟨r,l,n⟩:=B k d;exact⟨r,l,n.frame (a _ (by omega)) (a _ (by omega))⟩
 ·obtain⟨r,l,n⟩:=F k d;exact⟨r,l,n.frame (a _ (by omega)) (a _ (by omega))⟩
def put(nm:Nat->Nat)(k v:Nat):Nat->Nat:=fun j=>if j=k then v else nm j
variable{nm:Nat->Nat}
theorem kQ{v:Nat}:put nm k v k=v:=if_pos rfl
theorem dG{v j:Nat}(h:j≠k):put nm k v j=nm j:=if_neg h
theorem Names.mono{X:Nat->Prop}{nx nx':Nat}(h:Names X nx nm)(b:nx<=nx'):Names X nx' nm:=⟨h.inj,fun k a=>by have:=h.lt k a;omega,h.av⟩
theorem Names.put{X:Nat->Prop}{nx nx':Nat}{nm:Nat->Nat}{k v:Nat}(h:Names X nx nm)(f:nx<=v)(g:v<nx')(e: ¬X v):Names X nx' (put nm k v):=by
 refine⟨fun i j hi d he=> ?_,fun j d=> ?_,fun j d=> ?_⟩;·have a:=h.lt i hi;have b:=h.lt j d;have c:=h.inj i j hi d;unfold AM.put at he;split at he<;>split at he<;>omega
 ·have:=h.lt j d;unfold AM.put;split<;>omega
 ·unfold AM.put;split;·exact e
  ·exact h.av j d
structure qW(X:Nat->Prop)(H:aA)(nx i0 i1:Nat)(nm:Nat->Nat)(s:CSt)(es:List Ev):Prop where
 rep:Rep (fun id=>X id\/id=i1) H nx i0 nm s
 hap:Rk (fun id=>X id\/id=i0\/ ∃k,k<19/\id=nm k) H nx i1 es
theorem Rk.frame{Y f:Nat->Prop}{H H':aA}{nx nx' i1:Nat}{es:List Ev}(h:Rk Y H nx i1 es)(v:nx<=nx')(j:H' i1=H i1)(g: ∀id,id<nx->¬Y id->H' id=H id)(k: ∀id,f id->id<nx'/\(Y id\/nx<=id)):Rk f H' nx' i1 es:=by
 obtain⟨⟨d,a,b,c,e,p,i⟩,l,w⟩:=h
 have m: ∀id,id<nx->¬Y id->¬f id:=fun id j q r=>by
  rcases(k id r).2 with h|h;·exact q h
  ·omega
 refine⟨⟨d,a,b,c,e,by rw[j];exact p,?_⟩,⟨by omega,m _ l.1 l.2⟩,fun id h=>(k id h).1⟩;rcases i with i|⟨ev,cap,s,t,n,o,u⟩
 ·exact .inl i
 ·exact .inr ⟨ev,cap,s,t.frame (g _ n o),by omega,m _ n o,u⟩
theorem qW.next{X n:Nat->Prop}{H2:aA}{nx f i0 i1:Nat}{es:List Ev}(h:qW X H nx i0 i1 nm s es)(o:nx<=f)(d: ∀id,id<nx->¬X id->H2 id=H id)(p: ∀id,n id->id<f/\(X id\/nx<=id)):qW n H2 f i0 i1 nm s es:=by
 have e:=h.rep.i0;have l:=h.hap.i1;have g:=h.rep.names.av;have i:=h.rep.names.lt;refine⟨h.rep.frame o (d i0 e.1 fun j=>e.2 (.inl j)) (fun k b=>d _ (i k b) fun j=>g k b (.inl j)) fun id a=> ?_,h.hap.frame o (d i1 l.1 fun j=>l.2 (.inl j)) (fun id q r=>d id q fun j=>r (.inl j)) fun id a=> ?_⟩
 ·rcases a with a|rfl
  ·obtain⟨m,c⟩:=p id a;refine⟨m,?_,fun k b=> ?_⟩
   ·rintro rfl;rcases c with c|c;·exact e.2 (.inl c)
    ·omega
   ·rintro rfl;have:=i k b;rcases c with c|c;·exact g k b (.inl c)
    ·omega
  ·refine⟨by omega,fun he=>e.2 (.inr he.symm),fun k b he=>g k b (.inr he.symm)⟩
 ·rcases a with a|rfl|⟨k,b,rfl⟩
  ·obtain⟨m,c⟩:=p id a;exact⟨m,c.imp .inl fun h=>h⟩
  ·exact⟨by omega,.inl (.inr (.inl rfl))⟩
  ·have:=i k b;exact⟨by omega,.inl (.inr (.inr ⟨k,b,rfl⟩))⟩
theorem qW.mono{X:Nat->Prop}{nx a i0 i1:Nat}{es:List Ev}(h:qW X H nx i0 i1 nm s es)(c:nx<=a):qW X H a i0 i1 nm s es:=h.next c (fun _ _ _=>rfl) fun id b=>⟨by have:=h.rep.x id (.inl b);omega,.inl b⟩
theorem Rep.get{X:Nat->Prop}{nx i0:Nat}(h:Rep X H nx i0 nm s):
 ∃wc hc a vc d mp b l c,H i0=some ⟨5,1,[[.osl 1 (nm 0) 0 s.words.length wc,.osl 1 (nm 1) 0 s.holds.length hc,.osl 4 (nm 2) 0 3 a,.osl 3 (nm 3) 0 4 vc,.osl 5 (nm 4) 0 s.told.length d]]⟩/\H (nm 2)=some ⟨4,mp,b⟩/\H (nm 3)=some ⟨3,l,c⟩/\
  nN H 1 (nm 0) 0 s.words.length wc (s.words.map aG)/\nN H 1 (nm 1) 0 s.holds.length hc (s.holds.map aG)/\nN H 5 (nm 4) 0 s.told.length d (s.told.map aP)/\3<=a/\4<=vc/\b.length=3/\c.length=4/\
  (∀k,k<3->∃e f g,b[k]?=some [cI (aL s k).next,.osl 1 (nm (5+k)) e (aL s k).queue.length f,.osl 3 (nm (8+k)) 0 (aL s k).out.length g,cI (aL s k).last]/\nN H 1 (nm (5+k)) e (aL s k).queue.length f ((aL s k).queue.map aG)/\nN H 3 (nm (8+k)) 0 (aL s k).out.length g ((aL s k).out.map eCJ))/\
  ∀k,k<4->∃i a do_ j,c[k]?=some [.osl 3 (nm (11+k)) i (aU s k).pipe.length a,.osl 5 (nm (15+k)) do_ (aU s k).done.length j,cI (aU s k).last]/\nN H 3 (nm (11+k)) i (aU s k).pipe.length a ((aU s k).pipe.map eCJ)/\nN H 5 (nm (15+k)) do_ (aU s k).done.length j ((aU s k).done.map aP):=by
 obtain⟨cells,m,⟨wc,hc,a,vc,d,rfl,q,t,u,v,w⟩,⟨mp,b,x,y,z⟩,⟨l,c,A,B,C⟩⟩:=h.st
 refine⟨wc,hc,a,vc,d,mp,b,l,c,m,x,A,q,t,u,v,w,y,B,fun k n=> ?_,fun k n=> ?_⟩
 ·obtain⟨r,o,⟨e,f,g,rfl,p⟩⟩:=z k n;exact⟨e,f,g,o,p⟩
 ·obtain⟨r,o,⟨i,a,do_,j,rfl,p⟩⟩:=C k n;exact⟨i,a,do_,j,o,p⟩
theorem qW.upd{X:Nat->Prop}{H H':aA}{nx nx' i0 i1:Nat}{nm:Nat->Nat}{s:CSt}{es:List Ev}(h:qW X H nx i0 i1 nm s es)(who st:Nat)(b:Nat->Nat)(s':CSt)(u:nx<=nx')(v:Names (fun id=>X id\/id=i1) nx' b)
 (i: ∀k,k<19->b k=nm k\/((k=4\/k=5+who\/k=8+who\/k=11+st\/k=15+st)/\nx<=b k))
 (e: ∀id,id<nx->id≠i0->(∀k,k<5\/k=5+who\/k=8+who\/k=11+st\/k=15+st->k<19->id≠nm k)->H' id=H id)
 (z: ∃wc hc w vc y,H' i0=some ⟨5,1,[kh b s' wc hc w vc y]⟩/\nN H' 1 (b 0) 0 s'.words.length wc (s'.words.map aG)/\nN H' 1 (b 1) 0 s'.holds.length hc (s'.holds.map aG)/\nN H' 5 (b 4) 0 s'.told.length y (s'.told.map aP)/\3<=w/\4<=vc)
 (A: ∃m rows m0 c,H (nm 2)=some ⟨4,m0,c⟩/\H' (nm 2)=some ⟨4,m,rows⟩/\rows.length=3/\(∀k,k<3->k≠who->rows[k]?=c[k]?)/\(who<3->∃r,rows[who]?=some r/\IU H' (b (5+who)) (b (8+who)) (aL s' who) r))
 (B: ∃m rows m0 c,H (nm 3)=some ⟨3,m0,c⟩/\H' (nm 3)=some ⟨3,m,rows⟩/\rows.length=4/\(∀k,k<4->k≠st->rows[k]?=c[k]?)/\(st<4->∃r,rows[st]?=some r/\SK H' (b (11+st)) (b (15+st)) (aU s' st) r))
 (hw:who<3\/who=14) (hs:st<4\/st=8) (hp: ∀k,k<3->k≠who->aL s' k=aL s k) (C: ∀k,k<4->k≠st->aU s' k=aU s k):qW X H' nx' i0 i1 b s' es/\ ∀id,X id->H' id=H id:=by
 have p:=h.rep.names.av
 have q:=h.rep.i0
 have D:=h.hap.i1
 have t:=h.rep.names.lt
 have l: ∀id,X id\/id=i1->H' id=H id:=fun id d=>e id (h.rep.x id d) (fun he=>q.2 (he▸d)) fun k _ i he=>p k i (he▸d)
 refine⟨⟨h.rep.upd (who:=who) (st:=st) u v (fun k a=> ?_) (fun k a f o E F G=> ?_) (fun k G a f o E F=> ?_) z A B hw hs hp C,h.hap.frame u (l _ (.inr rfl)) (fun id f o=> ?_) fun id d=> ?_⟩,fun id d=>l id (.inl d)⟩
 ·rcases i k a with f|f;·rw[f];exact h.rep.ne k a
  ·omega
 ·rcases i k a with g|g;·exact g
  ·omega
 ·refine e _ (t k a) (h.rep.ne k a) fun j I n he=> ?_;have:=h.rep.names.inj k j a n he;omega
 ·exact e id f (fun he=>o (.inr (.inl he))) fun k _ a he=>o (.inr (.inr ⟨k,a,he⟩))
 ·rcases d with d|rfl|⟨k,a,rfl⟩
  ·have:=h.rep.x id (.inl d);exact⟨by omega,.inl (.inl d)⟩
  ·exact⟨by omega,.inl (.inr (.inl rfl))⟩
  ·have:=v.lt k a;rcases i k a with g|g;·exact⟨this,.inl (.inr (.inr ⟨k,a,g⟩))⟩
   ·exact⟨this,.inr g.2⟩
def yw(H:aA)(F:Nat->Prop)(r' r:List D1):Prop:=r'.length=r.length/\ ∀(j:Nat) (a:D1),r'[j]?=some a->∃d,r[j]?=some d/\Frz H F a d
section
variable{H:aA}{F:Nat -> Prop}{σ:Nat -> Nat}{nh:Nat}
theorem ax:yw H F [] []:=⟨rfl,fun j d h=>by simp at h⟩
theorem iD{x y:D1}{xs ys:List D1}(h:Frz H F x y)(b:yw H F xs ys):yw H F (x::xs) (y::ys):=by
 refine⟨by simp[b.1],fun j d a=> ?_⟩
 match j with
 |0=>simp at a;subst a;exact⟨y,rfl,h⟩
 |j+1=>exact b.2 j d (by simpa using a)
theorem Zb{r:List D1}(h: ∀x∈r,x.fV=true):yw H F r r:=⟨rfl,fun j d a=>⟨d,a,.same d (h d (akF a))⟩⟩
theorem Im{r' r:List D1}(h:yw H F r' r):CvL H F σ nh r' r:=⟨h.1,fun i x y b c=>by
 obtain⟨d,a,e⟩:=h.2 i x b
 rw[c] at a;cases a
 exact .frz e⟩
theorem yj{rows:List (List D1)}{n id off len cap:Nat}{o:bQ}(l:F id)(m:H id=some o)(p:o.n=n)(hl:len=rows.length)(hlen:off+len<=o.rows.length)(a:len<=cap)
 (hr: ∀i r',rows[i]?=some r'->r'.length=n/\ ∃r,o.rows[off+i]?=some r/\yw H F r' r):Frz H F (.isl rows) (.osl n id off len cap):=by
 subst hl
 refine .frz rows n id off cap o (fun i j=>((o.rows[off+i]?.getD [])[j]?).getD .dead) l m p hlen a (fun i r' h=>(hr i r' h).1) (fun i j r' c e f=> ?_) (fun i j r' c e f=> ?_)
 ·obtain⟨_,r,b,g⟩:=hr i r' e;obtain⟨d,k,_⟩:=g.2 j c f;exact⟨r,b,by rw[b];simp[k]⟩
 ·obtain⟨_,r,b,g⟩:=hr i r' e;obtain⟨d,k,q⟩:=g.2 j c f;rw[b];simpa [k] using q
theorem nN.frz{n id off len cap:Nat}{R:List (List D1)}(h:nN H n id off len cap R)(hi:Gs n R)(a:F id):Frz H F (.isl R) (.osl n id off len cap):=by
 obtain⟨m,rows,b,c,d,e,f,j⟩:=h.ex;refine yj a b rfl e d f fun i r' hr=>⟨(hi r' (akF hr)).1,r',?_,Zb fun x g=>(hi r' (akF hr)).2 x g⟩
 subst c;rw[akY] at hr;exact hr
theorem Hp{x:Value}:Frz H F (.v x) (.v x):=.same _ rfl
theorem IU.So{a no:Nat}{p:cJ}{r:List D1}(h:IU H a no p r)(b:F a)(c:F no):yw H F (bV p) r:=by obtain⟨f,g,i,rfl,d,e⟩:=h.ex;exact iD Hp (iD (d.frz (aW bG _) b) (iD (e.frz (aW E0 _) c) (iD Hp ax)))
theorem SK.So{a b:Nat}{v:lR}{r:List D1}(h:SK H a b v r)(c:F a)(d:F b):yw H F (eV v) r:=by obtain⟨g,i,o,j,rfl,e,f⟩:=h.ex;exact iD (e.frz (aW E0 _) c) (iD (f.frz (aW dE _) d) (iD Hp ax))
theorem getD_some{α:Type}[Inhabited α]{l:List α}{k:Nat}{x:α}(h:l[k]?=some x):l.getD k default=x/\k<l.length:=by refine⟨by simp[List.getD,h],(akE.1 h).1⟩
theorem Ej.So{nm:Nat->Nat}{s:CSt}{cells:List D1}(h:Ej H nm s cells)(a: ∀k,k<19->F (nm k))(hp:s.bE.length=3)(hs:s.bM.length=4):yw H F (dY s) cells:=by
 obtain⟨⟨wc,hc,w,vc,x,rfl,f,g,j,l,n⟩,⟨m,rows,o,y,q⟩,z,c,t,A,u⟩:=h;refine iD (f.frz (aW bG _) (a _ (by omega))) (iD (g.frz (aW bG _) (a _ (by omega))) (iD ?_ (iD ?_ (iD (j.frz (aW dE _) (a _ (by omega))) ax))));·refine yj (a _ (by omega)) o rfl (by simp[hp]) (by simp;omega) l fun i r' hr=> ?_;rw[akN,akH] at hr;obtain⟨p,hr,rfl⟩:=hr;obtain⟨d,v⟩:=getD_some hr;obtain⟨r,e,b⟩:=q i (by omega);rw[show aL s i=p from d] at b;exact⟨rfl,r,by rw[al4];exact e,b.So (a _ (by omega)) (a _ (by omega))⟩
 ·refine yj (a _ (by omega)) t rfl (by simp[hs]) (by simp;omega) n fun i r' hr=> ?_;rw[akN,akH] at hr;obtain⟨p,hr,rfl⟩:=hr;obtain⟨d,v⟩:=getD_some hr;obtain⟨r,e,b⟩:=u i (by omega);rw[show aU s i=p from d] at b;exact⟨rfl,r,by rw[al4];exact e,b.So (a _ (by omega)) (a _ (by omega))⟩
theorem Yz{r' r:List D1}{n id:Nat}{o:bQ}(c:F id)(f:H id=some o)(g:o.n=n)(hr:o.rows[0]?=some r)(h:yw H F r' r):Frz H F (.eT r') (.ptr n id 0 0):=
 .ptr r' n id 0 0 o r (fun j=>(r[j]?).getD .dead) c f g hr (fun j d a=>by obtain⟨e,b,_⟩:=h.2 j d a;rw[al4];simp[b]) (fun j d a=>by obtain⟨e,b,i⟩:=h.2 j d a;simpa [b] using i)
theorem Rep.tn{X:Nat->Prop}{nx i0:Nat}{nm:Nat->Nat}{s:CSt}(h:Rep X H nx i0 nm s)(hp:s.bE.length=3)(hs:s.bM.length=4):CvD H (fun _=>True) id 0 (.one (.c (.eT (dY s)))) (.one (.c (.ptr 5 i0 0 0))):=by obtain⟨cells,a,b⟩:=h.st;exact .frz (Yz trivial a rfl rfl (b.So (fun _ _=>trivial) hp hs))
end
variable{f:CSt->Nat->Option Mic}
theorem Dd{l:List Nat}(h:f s k=none):L4 c f s (k::l)=L4 c f s l:=by rw[L4,h]
theorem Cm{l:List Nat}(h:f s k=some m):L4 c f s (k::l)=m::L4 c f (bS c s m) l:=by rw[L4,h]
theorem Pq(h:k<3):[0,1,2].drop k=k::[0,1,2].drop (k+1):=by
 obtain rfl|rfl|rfl:k=0\/k=1\/k=2:=by omega
 all_goals rfl
theorem Qo(h:k<4):[0,1,2,3].drop k=k::[0,1,2,3].drop (k+1):=by
 obtain rfl|rfl|rfl|rfl:k=0\/k=1\/k=2\/k=3:=by omega
 all_goals rfl
def FL(c:Cfg)(f:CSt->Nat->Option Mic)(l:List Nat)(s:CSt)(es:List Ev)(S:CSt)(E:List Ev):Prop:=mU c s (L4 c f s l)=S/\es++jV c s (L4 c f s l)=E
theorem FL.none{c:Cfg}{f:CSt->Nat->Option Mic}{s S:CSt}{es E:List Ev}{k:Nat}{l:List Nat}(hl:FL c f (k::l) s es S E)(h:f s k=none):FL c f l s es S E:=by unfold FL at hl;rw[Dd h] at hl;exact hl
theorem FL.some{c:Cfg}{f:CSt->Nat->Option Mic}{s S:CSt}{es E:List Ev}{k:Nat}{l:List Nat}{m:Mic}(hl:FL c f (k::l) s es S E)(h:f s k=some m):FL c f l (bS c s m) (es++JE s m) S E:=by unfold FL at hl;rw[Cm h] at hl;refine⟨hl.1,?_⟩;rw[akO];exact hl.2
theorem FL.nil{S:CSt}{es E:List Ev}(hl:FL c f [] s es S E):s=S/\es=E:=by refine⟨hl.1,?_⟩;have:=hl.2;rw[L4,jV,alE] at this;exact this
theorem Cy(h:i.ready.getD k default=false):AB i s k=none:=by unfold AB;rw[if_neg (by rw[h];decide)]
theorem at4{j:Nat}(a:1<=j)(b:j<5):j=1\/j=2\/j=3\/j=4:=by omega
theorem xj(h: ∀j,1<=j->j<5->Ce s k (KY s k j)=false):AB i s k=none:=by
 unfold AB;split;·simp[List.find?_cons,h 1 (by omega) (by omega),h 2 (by omega) (by omega),h 3 (by omega) (by omega),h 4 (by omega) (by omega)]
 ·rfl
theorem xc{j:Nat}(hr:i.ready.getD k default=true)(c:1<=j)(d:j<=4)(h: ∀b,1<=b->b<j->Ce s k (KY s k b)=false)(a:Ce s k (KY s k j)=true):AB i s k=some (.tell k (KY s k j)):=by
 unfold AB;rw[if_pos hr];rcases at4 c (by omega) with rfl|rfl|rfl|rfl;·simp[List.find?_cons,a]
 ·simp[List.find?_cons,a,h 1 (by omega) (by omega)]
 ·simp[List.find?_cons,a,h 1 (by omega) (by omega),h 2 (by omega) (by omega)]
 ·simp[List.find?_cons,a,h 1 (by omega) (by omega),h 2 (by omega) (by omega),h 3 (by omega) (by omega)]
def ND(c:Cfg)(l:List Nat)(s:CSt)(u:List Bool)(S:CSt):Prop:=mU c s (xd c s u l)=S
theorem ND.none{c:Cfg}{s S:CSt}{u:List Bool}{k:Nat}{l:List Nat}(hl:ND c (k::l) s u S)(h:XF c s u k=none):ND c l s u S:=by unfold ND at hl;rw[xd,h] at hl;exact hl
theorem ND.some{c:Cfg}{s S:CSt}{u:List Bool}{k who:Nat}{l:List Nat}(hl:ND c (k::l) s u S)(h:XF c s u k=some who):ND c l (bS c s (.adm who k)) (u.set who true) S:=by unfold ND at hl;rw[xd,h] at hl;exact hl
theorem Hh(h: ¬(aU s st).pipe.length<2):XF c s u st=none:=if_neg h
theorem Cc(h: ∀j,1<=j->j<4->Q1 c s u st (L6 s st j)=false):XF c s u st=none:=by
 unfold XF;split;·simp[List.find?_cons,h 1 (by omega) (by omega),h 2 (by omega) (by omega),h 3 (by omega) (by omega)]
 ·rfl
theorem Cw{j:Nat}(hr:(aU s st).pipe.length<2)(d:1<=j)(e:j<=3)(h: ∀a,1<=a->a<j->Q1 c s u st (L6 s st a)=false)(b:Q1 c s u st (L6 s st j)=true):XF c s u st=some (L6 s st j):=by
 unfold XF;rw[if_pos hr];obtain rfl|rfl|rfl:j=1\/j=2\/j=3:=by omega
 ·simp[List.find?_cons,b]
 ·simp[List.find?_cons,b,h 1 (by omega) (by omega)]
 ·simp[List.find?_cons,b,h 1 (by omega) (by omega),h 2 (by omega) (by omega)]
theorem U9{p:Job->Bool}: ∀{A B:List Job},(∀a∈A,p a=false)->(∀b∈B,p b=true)->(A++B).findIdx p=A.length
 | [],[],_,_=>rfl
 | [],b::B,_,hB=>by rw[List.nil_append,List.findIdx_cons,hB b (by simp)];rfl
 |a::A,B,c,hB=>by rw[List.cons_append,List.findIdx_cons,c a (by simp)];simp only[cond_false,List.length_cons];rw[U9 (fun x d=>c x (alL _ d)) hB]
theorem Kb{A B:List Job}{x:Job}(c: ∀a∈A,fP x a=false)(hB: ∀b∈B,fP x b=true):wP (A++B) x=A++x::B:=by
 unfold wP;rw[U9 c hB,List.take_left',List.drop_left'];·rfl
 ·rfl
def PB(l:List Job)(k:Nat):List Job:=cR (l.take k)
theorem Rg{l:List Job}(a:k<=l.length):(PB l k).length=k:=by unfold PB;rw[(iT _).length_eq,ak1];omega
theorem Lu{l:List Job}(a:k<l.length):PB l (k+1)=wP (PB l k) (l.getD k default):=by unfold PB cR;rw[eY a,List.foldl_append];rfl
theorem Rf{l:List Job}:PB l 1=l.take 1:=by
 cases l with
 |nil=>rfl
 |cons x l=>rfl
theorem Vs{l:List Job}:PB l l.length=cR l:=by unfold PB;rw[alU]
def fl(S:List Job)(x:Job)(j:Nat):List Job:=S.take j++x::S.drop j
theorem Yx{S:List Job}{x:Job}{j:Nat}(_:j<=S.length):(fl S x j).length=S.length+1:=by unfold fl;simp;omega
end Go.AM
namespace Go.Proofs.YtlncecohbakleaaGreat
open Go Go.AM
attribute [local irreducible] aH wv aC vd wvH
section
variable{H:aA}{nx:Nat}{K:an4}
theorem zq{c:Cfg}{s:CSt}{i:CIn}{k:Nat}(hs:COk c s)(O:k<3)(hr:i.ready.getD k default=true){J:D}(o:CvD H (fun _=>True) id 0 (dA (dY s)) J)(h: ∀r,(fun r=>(AB i s k=none/\r=dI (-1))\/ ∃st:Nat,st<4/\AB i s k=some (.tell k st)/\r=dI st) r->K r H nx):an3 LI [J,dI k] H nx K:=by
 refine aC.pure (args0:=[dA (dY s),dI k]) (R:=fun r=>(AB i s k=none/\r=dI (-1))\/ ∃st:Nat,st<4/\AB i s k=some (.tell k st)/\r=dI st) ?_ rfl (aE ⟨o,aD rfl,trivial⟩) (h);clear h;refine aM.mk Tryz.func120 (by kernel_rfl) wq rfl fun Q L=> ?_;unfold zY;have l:=hs.pl;have m:=hs.sl;obtain⟨z,A⟩:=(hs.port k O).last;obtain⟨p,hp⟩: ∃p,s.bE.getD k default=p:=⟨_,rfl⟩
 have q:aL s k=p:=hp;rw[q] at z A;repeat' first|apply vI<;>(simp only[go_sem])|fail
 refine aH.cE (β:=Nat) (fun j=>en [(5,dI j),(2,.one (.c (.ptr 5 0 0 0))),(1,dI k)]) (fun j H1 _=>H1 0=some ⟨5,1,[dY s]⟩/\1<=j/\j<=5/\ ∀a,1<=a->a<j->Ce s k (KY s k a)=false) (fun j=>5-j) 1 ⟨noF,_,by repeat' first|exact C1|refine xqI rfl rfl ?_|refine xqP (by omega) rfl rfl ?_|fail,aF,rfl,by omega,by omega,fun a n B=>by omega⟩ ?_;rintro j H1 P M ⟨t,C,S,hinv⟩ T u;by_cases E:j<=4
 ·obtain⟨st,e⟩: ∃st,st=KY s k j:=⟨_,rfl⟩
  have N:st=((p.last+(j:Int))%4).toNat:=by rw[e,<-q];rfl
  have w:st<4:=by omega
  have f:(p.last+(j:Int)).tmod 4=(st:Int):=by rw[alQ (by omega)];omega
  obtain⟨v,x⟩: ∃v,s.bM.getD st default=v:=⟨_,rfl⟩
  have g:aU s st=v:=x;by_cases o:v.done.length=0
  ·have hlen:(0<(v.done.length:Int))=False:=eq_false (by omega);repeat' first|apply vI<;>(simp only[go_sem,t,l,m,hp,x,f,hlen];try simp (disch:=omega) only[Iw])|apply vT (by omega)|refine⟨by omega,?_⟩|fail
   exact u _ _ _ (j+1) noF _ (by omega) (by omega) (by repeat' first|exact C1|refine xqI rfl rfl ?_|refine xqP (by omega) rfl rfl ?_|fail) aF ⟨t,by omega,by omega,fun a n B=>by
    by_cases F:a<j
    ·exact hinv a n F
    ·have:a=j:=(by omega);subst this;rw[<-e];exact decide_eq_false fun hc=>by rw[g] at hc;omega⟩
  have hlen:(0<(v.done.length:Int))=True:=eq_true (by omega);obtain⟨d,y⟩: ∃d,v.done.getD 0 default=d:=⟨_,rfl⟩
  by_cases b:d.who=k
  ·have G:(d.who=(k:Int))=True:=eq_true b;repeat' first|apply vI<;>(simp only[go_sem,t,l,m,hp,x,f,hlen,y,G];try simp (disch:=omega) only[Iw])|apply vT (by omega)|refine⟨by omega,?_⟩|fail
   refine aJ L _ rfl rfl (.inr ⟨st,w,?_,rfl⟩);rw[e];exact xc hr C E hinv (by rw[<-e];exact decide_eq_true ⟨by rw[g];omega,by rw[g,y];exact b⟩)
  ·have I:(d.who=(k:Int))=False:=eq_false b;repeat' first|apply vI<;>(simp only[go_sem,t,l,m,hp,x,f,hlen,y,I];try simp (disch:=omega) only[Iw])|apply vT (by omega)|refine⟨by omega,?_⟩|fail
   exact u _ _ _ (j+1) noF _ (by omega) (by omega) (by repeat' first|exact C1|refine xqI rfl rfl ?_|refine xqP (by omega) rfl rfl ?_|fail) aF ⟨t,by omega,by omega,fun a n B=>by
    by_cases F:a<j
    ·exact hinv a n F
    ·have:a=j:=(by omega);subst this;rw[<-e];exact decide_eq_false fun hc=>b (by rw[<-y,<-g];exact hc.2)⟩
 ·repeat' first|apply vI<;>(simp only[go_sem])|apply vF (by omega)|fail
  exact aJ L _ rfl rfl (.inl ⟨xj fun a n B=>hinv a n (by omega),rfl⟩)
theorem HU{c:Cfg}{s:CSt}{st:Nat}(hs:COk c s)(l:st<4){i:D}(a:CvD H (fun _=>True) id 0 (dA (dY s)) i)(h:K (dB (decide (0<(aU s st).pipe.length/\(dZ s st).left=0/\(aU s st).done.length<2))) H nx):an3 HK [i,dI st] H nx K:=by
 refine aC.pure (args0:=[dA (dY s),dI st]) (R:=fun m=>m=dB (decide (0<(aU s st).pipe.length/\(dZ s st).left=0/\(aU s st).done.length<2))) ?_ rfl (aE ⟨a,aD rfl,trivial⟩) (fun r hr=>hr▸h);clear h;refine aM.mk Tryz.func122 (by kernel_rfl) og rfl fun Q b=> ?_;unfold vP;have f:=hs.sl;obtain⟨v,j⟩: ∃v,s.bM.getD st default=v:=⟨_,rfl⟩
 have g:aU s st=v:=j;obtain⟨d,k⟩: ∃d,v.pipe.getD 0 default=d:=⟨_,rfl⟩
 have e:(0<(aU s st).pipe.length/\(dZ s st).left=0/\(aU s st).done.length<2)↔(0<v.pipe.length/\d.left=0/\v.done.length<2):=by unfold dZ;rw[g,k]
 repeat' first| (first|apply vI|refine Y6 (fun h=> ?_) fun h=> ?_)<;>(simp only[go_sem,f,j,k])|refine⟨by omega,?_⟩|fail
 all_goals first|exact aJ b _ rfl rfl (rL (by rw[e];omega))|exact aJ b _ rfl rfl (j9 (by rw[e];omega))|exact aJ b _ rfl rfl (uE (by rw[e];omega))
theorem SS{c:Cfg}{s:CSt}{k:Nat}(i:bI c)(hs:COk c s)(l:k<3){d1:D}(a:CvD H (fun _=>True) id 0 (dA (dY s)) d1)(h:K (dB (decide ((aL s k).queue.length<2/\(aL s k).next<(c.b7.getD k default).length))) H nx):an3 IT [dA (cD c),d1,dI k] H nx K:=by
 refine aC.pure (args0:=[dA (cD c),dA (dY s),dI k]) (R:=fun j=>j=dB (decide ((aL s k).queue.length<2/\(aL s k).next<(c.b7.getD k default).length))) ?_ rfl (aE ⟨aD rfl,a,aD rfl,trivial⟩) (fun r hr=>hr▸h);clear h;refine aM.mk Tryz.func125 (by kernel_rfl) oj rfl fun Q b=> ?_;unfold vL;have d:=hs.pl;have f:=(eN i).1;obtain⟨p,hp⟩: ∃p,s.bE.getD k default=p:=⟨_,rfl⟩
 have g:aL s k=p:=hp;have e:((aL s k).queue.length<2/\(aL s k).next<(c.b7.getD k default).length)↔(p.queue.length<2/\p.next<(c.b7.getD k default).length):=by rw[g]
 repeat' first| (first|apply vI|refine Y6 (fun h=> ?_) fun h=> ?_)<;>(simp only[go_sem,d,hp,f])|refine⟨by omega,?_⟩|fail
 all_goals first|exact aJ b _ rfl rfl (rL (by rw[e];omega))|exact aJ b _ rfl rfl (j9 (by rw[e];omega))|exact aJ b _ rfl rfl (uE (by rw[e];omega))
end
end Go.Proofs.YtlncecohbakleaaGreat
