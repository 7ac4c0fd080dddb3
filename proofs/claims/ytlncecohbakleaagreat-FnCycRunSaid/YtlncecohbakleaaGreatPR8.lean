/- Rules and contracts. -/
import Derived.Test.YtlncecohbakleaaGreatPR4
import Derived.Test.YtlncecohbakleaaGreatPR6
import Derived.Test.YtlncecohbakleaaGreatPR5
set_option linter.unusedVariables false
set_option linter.unusedSimpArgs false
set_option maxRecDepth 100000
set_option maxHeartbeats 8000000
namespace Go.AM
variable{k:Nat}
theorem qu{α:Type}[Inhabited α]{l:List α}(h:k<l.length):l.Perm (l.getD k default::HG l k):=by
 have e:l=l.take k++l.getD k default::l.drop (k+1):=by
  have:l.getD k default=l[k]:=by simp[List.getD,h]
  rw[this,<-acR h,acU]
 conv=>lhs;rw[e]
 exact adO
theorem Qy{α:Type}{l:List α}:(HG l k).Sublist l:=by unfold HG;have h:=(List.Sublist.refl (l.take k)).append (ae6 l (Nat.le_succ k));rwa [acU] at h
theorem dt{α:Type}[Inhabited α]{l:List α}(h:k<l.length):(HG l k).length+1=l.length:=by have:=(qu h).length_eq;simp at this;omega
theorem TK{α:Type}[Inhabited α]{p:α->Bool}{l:List α}(h:0<=bP p l):(bP p l).toNat<l.length/\p (l.getD (bP p l).toNat default)=true:=by
 have c:=S1 (p:=p) (l:=l);refine⟨by omega,?_⟩;unfold bP at*;split at h;·rename_i i hi;have:=adW.1 hi;obtain⟨a,b,_⟩:=this;simpa [List.getD,a] using b
 ·omega
variable{l:List gD}
theorem XO{n:Int}(h: ∃j∈l,j.n=n):(bP (isC n) l).toNat<l.length/\(l.getD (bP (isC n) l).toNat default).n=n:=by obtain⟨j,a,b⟩:=h;have c:0<=bP (isC n) l:=cU.2 ⟨j,a,by simp[isC,b]⟩;obtain⟨d,e⟩:=TK c;exact⟨d,by simpa [isC] using e⟩
theorem Mw{n:Int}(h: ∃j∈l,j.n=n):(QX l n).length+1=l.length:=dt (XO h).1
theorem Nb{n:Int}(h: ∃j∈l,j.n=n){x:gD}(a:x∈l)(b:x.n≠n):x∈QX l n:=by
 obtain⟨c,d⟩:=XO h;have:=(qu c).mem_iff.1 a;rcases abQ.1 this with rfl|hm;·exact absurd d b
 ·exact hm
theorem X4{n:Int}:(QX l n).Sublist l:=Qy
theorem Z3{α:Type}[Inhabited α]{l:List α}{i:Nat}:(l.drop 1).getD i default=l.getD (i+1) default:=by
 cases l with
 |nil=>simp
 |cons x l=>simp
theorem oy{α:Type}[Inhabited α]{l:List α}{x:α}{i:Nat}:(l++[x]).getD i default=if i=l.length then x else l.getD i default:=by
 simp only[List.getD,ab7];split;·rw[if_neg (by omega)]
 ·split;·rename_i h;subst h;simp
  ·rename_i a b;rw[adT (by simp;omega),adT (by omega)]
theorem Ac(h:l.Pairwise fun a b=>a.n<b.n){a b:gD}(e:a∈l)(f:b∈l)(he:a.n=b.n):a=b:=by
 induction l with
 |nil=>simp at e
 |cons x l j=>
  rw[acN] at h;rcases abQ.1 e with g|i
  ·rcases abQ.1 f with c|d;·rw[g,c]
   ·have:=h.1 b d;rw[g] at he;omega
  ·rcases abQ.1 f with c|d;·have:=h.1 a i;rw[c] at he;omega
   ·exact j h.2 i d
variable{c:Cfg}{st:Nat}
theorem UO(a:bH c)(h:st<4):0<=c.lat.getD st default/\c.lat.getD st default<=3:=fu a.2.2.1 (by have:=a.2.1;omega)
variable{s:CSt}
theorem COk.Gr(h:COk c s)(hs:st<4)(a:0<(aS s st).done.length): ∃j∈(aL s (nC s st).who.toNat).out,j.n=(nC s st).n/\j.left=st:=((h.slv st hs).out _ (ZB (bT a))).2
theorem pE.DL{s':CSt}(h:pE c s st)(he:aS s' st=aS s st)(e: ∀x∈gM (aS s st),∀j∈(aL s x.1.toNat).out,j.n=x.2->j.left=st->j∈(aL s' x.1.toNat).out):pE c s' st:=by refine⟨by rw[he];exact h.pl,by rw[he];exact h.dl,by rw[he];exact h.last,by rw[he];exact h.inc,fun x a=> ?_,by rw[he];exact h.rsp,by rw[he];exact h.left⟩;rw[he] at a;obtain⟨f,j,g,b,d⟩:=h.out x a;exact⟨f,j,e x a j g b d,b,d⟩
variable{who:Nat}{p:eT}
theorem iA.tell(h:iA c who p){n:Int}(hs:st<4):iA c who {p with out:=QX p.out n,last:=st}:=by have hm: ∀j∈QX p.out n,j∈p.out:=fun j d=>X4.subset d;exact⟨h.next,h.ql,acQ X4.length_le h.ol,by dsimp only;omega,h.queue,fun j d=>h.out j (hm j d),h.zu.sublist X4,fun a e b f=>h.Kb a (hm a e) b (hm b f)⟩
theorem iA.adm(h:iA c who p)(l:0<p.queue.length)(s:p.out.length<4)(m:iV c.map (bQ c who (p.queue.getD 0 default))=st)
 (k: ∀j∈p.out,(bQ c who j.n).id=(bQ c who (p.queue.getD 0 default)).id->j.left=st):iA c who {p with queue:=p.queue.drop 1,out:=p.out++[⟨who,p.queue.getD 0 default,st⟩]}:=by
 have o:=h.queue 0 l
 have q:=h.next
 have r:=h.ql
 have hl:(p.queue.drop 1).length=p.queue.length-1:=by simp
 refine⟨q,by dsimp only;omega,by simp;omega,h.last,fun i hi=> ?_,fun j f=> ?_,?_,fun a e b d g=> ?_⟩
 ·dsimp only at hi ⊢;rw[Z3,h.queue (i+1) (by omega)];omega
 ·dsimp only at f ⊢;rcases abS.1 f with f|f;·have:=h.out j f;exact⟨this.1,by omega,this.2.2⟩
  ·simp only[ab2] at f;subst f;exact⟨rfl,by dsimp only;omega,m.symm⟩
 ·dsimp only;rw[adJ];refine⟨h.zu,by simp,fun a e b d=> ?_⟩;simp only[ab2] at d;subst d;have:=(h.out a e).2.1;dsimp only;omega
 ·dsimp only at e d;rcases abS.1 e with e|e<;>rcases abS.1 d with d|d;·exact h.Kb a e b d g
  ·simp only[ab2] at d;subst d;exact k a e g
  ·simp only[ab2] at e;subst e;exact(k b d g.symm).symm
  ·simp only[ab2] at e d;subst e;subst d;rfl
theorem iA.ask(h:iA c who p)(d:p.queue.length<2)(e:p.next<(c.cN.getD who default).length):iA c who {p with queue:=p.queue++[p.next],next:=p.next+1}:=by
 have f:=h.next;have a:=h.ql;refine⟨by dsimp only;omega,by simp;omega,h.ol,h.last,fun i hi=> ?_,fun j b=> ?_,h.zu,h.Kb⟩
 ·simp only[abL,List.length_singleton] at hi ⊢;rw[oy];split;·omega
  ·rw[h.queue i (by omega)];omega
 ·have:=h.out j b;refine⟨this.1,?_,this.2.2⟩;simp only[abL,List.length_singleton];omega
variable{m:Mic}
theorem Mg(a:bH c)(h:COk c s)(b:R9 c s m):oD c (dN (bS c s m)):=by
 rw[Fx a h b];have hw:=ua h b
 cases m with
 |tick st=>exact h.st
 |adm who st=>exact h.st
 |tell who st=>exact OJ a h.st (hw ⟨3,who,(nC s st).n⟩ (ab2.2 rfl))
 |work st=>exact OJ a h.st (hw ⟨2,(eA s st).who,(eA s st).n⟩ (ab2.2 rfl))
 |ask who=>exact OJ a h.st (hw ⟨1,who,(aL s who).next⟩ (ab2.2 rfl))
theorem Aa:(bS c s m).bC.length=s.bC.length/\(bS c s m).bN.length=s.bN.length:=by cases m<;>simp[bS]
theorem Nn(h:COk c s)(b:R9 c s m): ∀k,k<3->iA c k (aL (bS c s m) k):=by
 have i:=h.pl;intro k j;have hp:=h.port k j
 cases m with
 |tick st=>exact hp
 |work st=>exact hp
 |tell who st=>
  obtain⟨f,a,d,g⟩:=b;rw[cH (s:=s) (s':=bS c s (.tell who st)) rfl (by omega)];split;·rename_i e;subst e;exact hp.tell a
  ·exact hp
 |adm who st=>
  obtain⟨f,a,d,g,l,n,o⟩:=b;rw[cH (s:=s) (s':=bS c s (.adm who st)) rfl (by omega)];split;·rename_i e;subst e;exact hp.adm g l n o
  ·exact hp
 |ask who=>
  obtain⟨f,a,d⟩:=b;rw[cH (s:=s) (s':=bS c s (.ask who)) rfl (by omega)];split;·rename_i e;subst e;exact hp.ask a d
  ·exact hp
theorem Uo(H:bH c)(h:COk c s)(y:R9 c s m): ∀k,k<4->pE c (bS c s m) k:=by
 have L:=h.pl;have M:=h.sl;intro k N;have f:=h.slv k N
 cases m with
 |ask who=>
  obtain⟨F,u,q⟩:=y;refine f.DL rfl fun x o j g _ _=> ?_;rw[cH (s:=s) (s':=bS c s (.ask who)) rfl (by omega)];split;·rename_i e;rw[e] at g;exact g
  ·exact g
 |tick st=>
  obtain⟨u,q,z⟩:=y;have d:=cY (s:=s) (s':=bS c s (.tick st)) rfl (by omega:st<s.bN.length) k;by_cases e:k=st
  ·subst e;rw[if_pos rfl] at d;have O:=f.left 0 q
   have l:gM (aS (bS c s (.tick k)) k)=gM (aS s k):=by
    rw[d];unfold gM;dsimp only;congr 1;conv=>rhs;rw[lB q]
    conv=>lhs;rw[lB q]
    rfl
   refine⟨by rw[d];simpa using f.pl,by rw[d];exact f.dl,by rw[d];exact f.last,by rw[l];exact f.inc,fun x o=> ?_,by rw[d];exact f.rsp,?_⟩;·rw[l] at o;exact f.out x o
   ·rw[d];simp only[ab0];intro i hi;rw[DU q];split;·rename_i e;subst e;dsimp only;unfold eA;exact⟨by omega,fun hc=>absurd hc (by omega)⟩
    ·exact f.left i hi
  ·rw[if_neg e] at d;exact f.DL d fun x o j g _ _=>g
 |work st=>
  obtain⟨u,q,z,P⟩:=y;have d:=cY (s:=s) (s':=bS c s (.work st)) rfl (by omega:st<s.bN.length) k;by_cases e:k=st
  ·subst e;rw[if_pos rfl] at d
   have l:gM (aS (bS c s (.work k)) k)=gM (aS s k):=by
    rw[d];unfold gM;dsimp only;conv=>rhs;rw[lB q]
    simp[key,eA]
   have hm:((eA s k).who,(eA s k).n)∈gM (aS s k):=UU (bT q);obtain⟨A,v,B⟩:=h.vIn u hm;dsimp only at A v B;refine⟨by rw[d];have:=f.pl;simp;omega,by rw[d];simp;omega,by rw[d];exact f.last,by rw[l];exact f.inc,fun x o=> ?_,?_,?_⟩;·rw[l] at o;exact f.out x o
   ·rw[d];intro j g;rcases abS.1 g with g|g;·exact f.rsp j g
    ·simp only[ab2] at g;subst g;have hp:=h.port (eA s k).who.toNat (by omega);have C:pA c (eA s k).who (eA s k).n:=by have:=hp.asks (n:=(eA s k).n) (by omega) v (by have:=hp.ql;omega);have Q:(((eA s k).who.toNat:Nat):Int)=(eA s k).who:=(by omega);rwa [Q] at this
     exact Gh h.atm.wr (H7 H C)
   ·rw[d];simp only[ab1];intro i hi;rw[Z3];have:=f.left (i+1) (by omega);rw[this.2 (by omega)];have:=UO H u;exact⟨by omega,fun _=>rfl⟩
  ·rw[if_neg e] at d;exact f.DL d fun x o j g _ _=>g
 |adm who st=>
  obtain⟨F,u,q,z,P,Y,Z⟩:=y;have d:=cY (s:=s) (s':=bS c s (.adm who st)) rfl (by omega:st<s.bN.length) k;have G:=fun w=>cH (s:=s) (s':=bS c s (.adm who st)) rfl (by omega:who<s.bC.length) w
  have p: ∀w,∀j∈(aL s w).out,j∈(aL (bS c s (.adm who st)) w).out:=fun w j g=>by
   rw[G];split;·rename_i e;subst e;exact acP _ g
   ·exact g
  by_cases e:k=st
  ·subst e;rw[if_pos rfl] at d;have l:gM (aS (bS c s (.adm who k)) k)=gM (aS s k)++[((who:Int),(aL s who).queue.getD 0 default)]:=(by rw[d];unfold gM;simp);have R:=(h.port who F).queue 0 z;refine⟨by rw[d];simp;omega,by rw[d];exact f.dl,by rw[d];dsimp only;omega,?_,fun x o=> ?_,by rw[d];exact f.rsp,?_⟩;·rw[l,adJ];refine⟨f.inc,by simp,fun a S b D I=> ?_⟩;simp only[ab2] at D;subst D;dsimp only at I ⊢;have:=(h.vIn u S).2.2;have e:a.1.toNat=who:=(by omega);rw[e] at this;omega
   ·rw[l] at o;rcases abS.1 o with o|o;·obtain⟨A,j,v,B⟩:=f.out x o;exact⟨A,j,p _ j v,B⟩
    ·simp only[ab2] at o;subst o;refine⟨by dsimp only;omega,⟨who,(aL s who).queue.getD 0 default,k⟩,?_,rfl,rfl⟩;rw[G,if_pos (by simp)];simp
   ·rw[d];simp only[abL,List.length_singleton];intro i hi;rw[oy];have:=UO H u;split;·exact⟨by dsimp only;omega,fun _=>rfl⟩
    ·exact f.left i (by omega)
  ·rw[if_neg e] at d;exact f.DL d fun x o j g _ _=>p _ j g
 |tell who st=>
  obtain⟨F,u,q,z⟩:=y;have T:(nC s st).who=who:=z;have d:=cY (s:=s) (s':=bS c s (.tell who st)) rfl (by omega:st<s.bN.length) k;have G:=fun w=>cH (s:=s) (s':=bS c s (.tell who st)) rfl (by omega:who<s.bC.length) w;obtain⟨K,J,U,g3⟩:=h.Gr u q;have V:(nC s st).who.toNat=who:=by omega
  rw[V] at J;have hex: ∃j∈(aL s who).out,j.n=(nC s st).n:=⟨K,J,U⟩
  have p: ∀w,∀j∈(aL s w).out,(w=who->j.n≠(nC s st).n)->j∈(aL (bS c s (.tell who st)) w).out:=fun w j g E=>by
   rw[G];split;·rename_i e;subst e;exact Nb hex g (E rfl)
   ·exact g
  have r:gM (aS s st)=key (nC s st)::(((aS s st).done.drop 1).map key++(aS s st).pipe.map fun j=>(j.who,j.n)):=by
   unfold gM;conv=>lhs;rw[lB q]
   rfl
  by_cases e:k=st
  ·subst e;rw[if_pos rfl] at d;have l:gM (aS (bS c s (.tell who k)) k)=((aS s k).done.drop 1).map key++(aS s k).pipe.map fun j=>(j.who,j.n):=by rw[d];rfl
   have t:=f.inc;rw[r,acN] at t;refine⟨by rw[d];exact f.pl,by rw[d];have:=f.dl;simp;omega,by rw[d];exact f.last,by rw[l];exact t.2,fun x o=> ?_,?_,by rw[d];exact f.left⟩;·rw[l] at o;obtain⟨A,j,v,B,W⟩:=f.out x (by rw[r];exact acL _ o);refine⟨A,j,p _ j v fun he X=> ?_,B,W⟩;have:=t.1 x o (by simp only[key];omega);simp only[key] at this;omega
   ·rw[d];exact fun j g=>f.rsp j (ad0 g)
  ·rw[if_neg e] at d;refine f.DL d fun x o j g X hl=>p _ j g fun he E=> ?_;subst he;have hp:=h.port x.1.toNat F;have hu:K=j:=(by exact Ac hp.zu J g (by omega));subst hu;omega
theorem vy{f g:Nat->Nat}(h:who<3)(a: ∀i,i≠who->f i=g i):f 0+f 1+f 2+g who=g 0+g 1+g 2+f who:=by
 have:who=0\/who=1\/who=2:=by omega
 rcases this with rfl|rfl|rfl;·have:=a 1 (by omega);have:=a 2 (by omega);omega
 ·have:=a 0 (by omega);have:=a 2 (by omega);omega
 ·have:=a 0 (by omega);have:=a 1 (by omega);omega
theorem xe{f g:Nat->Nat}(h:st<4)(a: ∀i,i≠st->f i=g i):f 0+f 1+f 2+f 3+g st=g 0+g 1+g 2+g 3+f st:=by
 have:st=0\/st=1\/st=2\/st=3:=by omega
 rcases this with rfl|rfl|rfl|rfl;·have:=a 1 (by omega);have:=a 2 (by omega);have:=a 3 (by omega);omega
 ·have:=a 0 (by omega);have:=a 2 (by omega);have:=a 3 (by omega);omega
 ·have:=a 0 (by omega);have:=a 1 (by omega);have:=a 3 (by omega);omega
 ·have:=a 0 (by omega);have:=a 1 (by omega);have:=a 2 (by omega);omega
theorem Ij(h:COk c s)(j:R9 c s m):(aL (bS c s m) 0).out.length+(aL (bS c s m) 1).out.length+(aL (bS c s m) 2).out.length=kY (bS c s m) 0+kY (bS c s m) 1+kY (bS c s m) 2+kY (bS c s m) 3:=by
 have q:=h.pl;have r:=h.sl;have hc:=h.count
 cases m with
 |ask who=>
  obtain⟨n,b,l⟩:=j;have d:=fun w=>cH (s:=s) (s':=bS c s (.ask who)) rfl (by omega:who<s.bC.length) w
  have: ∀w,(aL (bS c s (.ask who)) w).out=(aL s w).out:=fun w=>by
   rw[d];split;·rename_i e;subst e;rfl
   ·rfl
  rw[this,this,this];exact hc
 |tick st=>
  obtain⟨b,l,o⟩:=j;have a:=fun k=>cY (s:=s) (s':=bS c s (.tick st)) rfl (by omega:st<s.bN.length) k
  have: ∀k,kY (bS c s (.tick st)) k=kY s k:=fun k=>by
   unfold kY;rw[a];split;·rename_i e;subst e;simp
   ·rfl
  rw[this,this,this,this];exact hc
 |work st=>
  obtain⟨b,l,o,C⟩:=j;have a:=fun k=>cY (s:=s) (s':=bS c s (.work st)) rfl (by omega:st<s.bN.length) k
  have: ∀k,kY (bS c s (.work st)) k=kY s k:=fun k=>by
   unfold kY;rw[a];split;·rename_i e;subst e;simp;omega
   ·rfl
  rw[this,this,this,this];exact hc
 |adm who st=>
  obtain⟨n,b,l,o⟩:=j;have a:=fun k=>cY (s:=s) (s':=bS c s (.adm who st)) rfl (by omega:st<s.bN.length) k;have d:=fun w=>cH (s:=s) (s':=bS c s (.adm who st)) rfl (by omega:who<s.bC.length) w;have t:=vy (f:=fun w=>(aL (bS c s (.adm who st)) w).out.length) (g:=fun w=>(aL s w).out.length) n fun i hi=>by rw[d,if_neg hi]
  have u:=xe (f:=kY (bS c s (.adm who st))) (g:=kY s) b fun i hi=>by unfold kY;rw[a,if_neg hi]
  have v:(aL (bS c s (.adm who st)) who).out.length=(aL s who).out.length+1:=by rw[d,if_pos rfl];simp
  have x:kY (bS c s (.adm who st)) st=kY s st+1:=by unfold kY;rw[a,if_pos rfl];simp;omega
  omega
 |tell who st=>
  obtain⟨n,b,l,o⟩:=j;have y:(nC s st).who=who:=o;have a:=fun k=>cY (s:=s) (s':=bS c s (.tell who st)) rfl (by omega:st<s.bN.length) k;have d:=fun w=>cH (s:=s) (s':=bS c s (.tell who st)) rfl (by omega:who<s.bC.length) w;obtain⟨z,p,A,D⟩:=h.Gr b l;have B:(nC s st).who.toNat=who:=by omega
  rw[B] at p;have t:=vy (f:=fun w=>(aL (bS c s (.tell who st)) w).out.length) (g:=fun w=>(aL s w).out.length) n fun i hi=>by rw[d,if_neg hi]
  have u:=xe (f:=kY (bS c s (.tell who st))) (g:=kY s) b fun i hi=>by unfold kY;rw[a,if_neg hi]
  have v:(aL (bS c s (.tell who st)) who).out.length+1=(aL s who).out.length:=by rw[d,if_pos rfl];exact Mw ⟨z,p,A⟩
  have x:kY (bS c s (.tell who st)) st+1=kY s st:=by unfold kY;rw[a,if_pos rfl];simp;omega
  omega
theorem BV(b:bH c)(h:COk c s)(a:R9 c s m):COk c (bS c s m):=⟨(Mg b h a).atm,by rw[Aa.1];exact h.pl,by rw[Aa.2];exact h.sl,Nn h a,Uo b h a,Ij h a,Mg b h a⟩
def FK(c:Cfg):CSt->List Mic->Prop
 |_,[]=>True
 |s,m::l=>R9 c s m/\FK c (bS c s m) l
def lQ(c:Cfg)(s:CSt)(l:List Mic):CSt:=l.foldl (bS c) s
def gV(c:Cfg):CSt->List Mic->List Ev
 |_,[]=>[]
 |s,m::l=>BQ s m++gV c (bS c s m) l
theorem yS{a b:List Mic}:lQ c s (a++b)=lQ c (lQ c s a) b:=by simp[lQ]
theorem OG{c:Cfg}: ∀{a b:List Mic} {s:CSt},FK c s (a++b)↔FK c s a/\FK c (lQ c s a) b
 | [],b,s=>by simp[FK,lQ]
 |m::a,b,s=>by have:=OG (c:=c) (a:=a) (b:=b) (s:=bS c s m);simp only[List.cons_append,FK,this,and_assoc];rfl
theorem OE{c:Cfg}: ∀{a b:List Mic} {s:CSt},gV c s (a++b)=gV c s a++gV c (lQ c s a) b
 | [],b,s=>by simp[gV,lQ]
 |m::a,b,s=>by have:=OE (c:=c) (a:=a) (b:=b) (s:=bS c s m);simp only[List.cons_append,gV,this,abY];rfl
theorem JL{c:Cfg}(a:bH c): ∀{l:List Mic} {s:CSt},COk c s->FK c s l->COk c (lQ c s l)/\dN (lQ c s l)=runM c (dN s) (gV c s l)/\NK c (dN s) (gV c s l)
 | [],s,h,_=>⟨h,rfl,tX⟩
 |m::l,s,h,e=>by
  obtain⟨b,f⟩:=e;obtain⟨g,i,j⟩:=JL a (l:=l) (BV a h b) f;have d:=Fx a h b;refine⟨g,?_,?_⟩;·show dN (lQ c (bS c s m) l)=_;rw[i,d];show _=runM c (dN s) (BQ s m++gV c (bS c s m) l);rw[yo]
  ·show NK c (dN s) (BQ s m++gV c (bS c s m) l);rw[qe];refine⟨?_,by rw[<-d];exact j⟩;have hw:=ua h b
   cases m with
   |tick st=>exact tX
   |adm who st=>exact tX
   |tell who st=>exact EA.2 ⟨hw ⟨3,who,(nC s st).n⟩ (ab2.2 rfl),tX⟩
   |work st=>exact EA.2 ⟨hw ⟨2,(eA s st).who,(eA s st).n⟩ (ab2.2 rfl),tX⟩
   |ask who=>exact EA.2 ⟨hw ⟨1,who,(aL s who).next⟩ (ab2.2 rfl),tX⟩
def GS(s:CSt)(who k:Nat):Nat:=(((aL s who).last+(k:Int))%4).toNat
def qp(s:CSt)(who st:Nat):Bool:=decide (0<(aS s st).done.length/\((aS s st).done.getD 0 default).who=who)
def pJ(i:CIn)(s:CSt)(who:Nat):Option Mic:=if i.ready.getD who default=true then (([1,2,3,4].map (GS s who)).find? (qp s who)).map (.tell who) else none
def lZ(i:CIn)(s:CSt)(st:Nat):Option Mic:=if i.mW.getD st default=true\/(aS s st).pipe.length=0 then none else if 0<(eA s st).left then some (.tick st) else if (aS s st).done.length<2 then some (.work st) else none
def H9(s:CSt)(st k:Nat):Nat:=(((aS s st).last+(k:Int))%3).toNat
def MA(c:Cfg)(s:CSt)(used:List Bool)(st who:Nat):Bool:= !(used.getD who default)&&decide (NM c s who st)
def QV(c:Cfg)(s:CSt)(used:List Bool)(st:Nat):Option Nat:=if (aS s st).pipe.length<2 then ([1,2,3].map (H9 s st)).find? (MA c s used st) else none
def MP(c:Cfg)(i:CIn)(s:CSt)(who:Nat):Option Mic:=if i.send.getD who default=true/\(aL s who).queue.length<2/\(aL s who).next<(c.cN.getD who default).length then some (.ask who) else none
def SG(c:Cfg)(s:CSt):Option Mic->CSt
 |none=>s
 |some m=>bS c s m
def DG(c:Cfg)(f:CSt->Nat->Option Mic):CSt->List Nat->List Mic
 |_,[]=>[]
 |s,k::l=>match f s k with
  |none=>DG c f s l
  |some m=>m::DG c f (bS c s m) l
def YP(c:Cfg):CSt->List Bool->List Nat->List Mic
 |_,_,[]=>[]
 |s,u,st::l=>match QV c s u st with
  |none=>YP c s u l
  |some who=>.adm who st::YP c (bS c s (.adm who st)) (u.set who true) l
def LZ(c:Cfg)(i:CIn)(s:CSt):List Mic:=DG c (pJ i) s [0,1,2]
def FJ(c:Cfg)(i:CIn)(s:CSt):List Mic:=DG c (lZ i) s [0,1,2,3]
def Cs(c:Cfg)(s:CSt):List Mic:=YP c s [false,false,false] [0,1,2,3]
def WA(c:Cfg)(i:CIn)(s:CSt):List Mic:=DG c (MP c i) s [0,1,2]
def D9(c:Cfg)(i:CIn)(s:CSt):CSt:=lQ c s (LZ c i s)
def MB(c:Cfg)(i:CIn)(s:CSt):CSt:=lQ c (D9 c i s) (FJ c i (D9 c i s))
def JI(c:Cfg)(i:CIn)(s:CSt):CSt:=lQ c (MB c i s) (Cs c (MB c i s))
def yR(c:Cfg)(i:CIn)(s:CSt):CSt:=lQ c (JI c i s) (WA c i (JI c i s))
def Gz(c:Cfg)(i:CIn)(s:CSt):List Mic:=LZ c i s++FJ c i (D9 c i s)++Cs c (MB c i s)++WA c i (JI c i s)
def E9(c:Cfg)(i:CIn)(s:CSt):List Ev:=gV c s (Gz c i s)
variable{i:CIn}
theorem Gi:yR c i s=lQ c s (Gz c i s):=by unfold Gz yR JI MB D9;simp only[yS]
theorem TL{c:Cfg}(a:bH c){f:CSt->Nat->Option Mic}: ∀{l:List Nat} {s:CSt},COk c s->(∀s k m,COk c s->k∈l->f s k=some m->R9 c s m)->FK c s (DG c f s l)
 | [],s,_,_=>trivial
 |k::l,s,h,b=>by
  unfold DG;split;·exact TL a h fun s k m hs d hm=>b s k m hs (acL _ d) hm
  ·rename_i m hm;have e:=b s k m h (by simp) hm;exact⟨e,TL a (BV a h e) fun s k m hs d hm=>b s k m hs (acL _ d) hm⟩
theorem HR(_:COk c s)(hw:who<3)(hm:pJ i s who=some m):R9 c s m:=by
 unfold pJ at hm;split at hm;·rw[abR] at hm;obtain⟨st,a,rfl⟩:=hm;have b:=List.find?_some a;have d:=ae8 a;obtain⟨k,_,rfl⟩:=abP.1 d;obtain⟨e,f⟩:=of_decide_eq_true b;exact⟨hw,by unfold GS;omega,e,f⟩
 ·cases hm
theorem HS(_:COk c s)(hw:st<4)(hm:lZ i s st=some m):R9 c s m:=by
 unfold lZ at hm;split at hm;·cases hm
 ·rename_i d;split at hm;·rename_i a;cases hm;exact⟨hw,by omega,a⟩
  ·rename_i a;split at hm;·rename_i b;cases hm;exact⟨hw,by omega,a,b⟩
   ·cases hm
variable{u:List Bool}
theorem sm(hs:st<4)(hm:QV c s u st=some who):R9 c s (.adm who st):=by
 unfold QV at hm;split at hm;·rename_i b;have a:=List.find?_some hm;have d:=ae8 hm;obtain⟨k,_,rfl⟩:=abP.1 d;unfold MA at a;rw[acF] at a;exact⟨by unfold H9;omega,hs,b,of_decide_eq_true a.2⟩
 ·cases hm
theorem sc(_:COk c s)(hw:who<3)(hm:MP c i s who=some m):R9 c s m:=by
 unfold MP at hm;split at hm;·rename_i h;cases hm;exact⟨hw,h.2.1,h.2.2⟩
 ·cases hm
theorem sa{c:Cfg}(a:bH c): ∀{l:List Nat} {s:CSt} {u:List Bool},COk c s->(∀k∈l,k<4)->FK c s (YP c s u l)
 | [],s,u,_,_=>trivial
 |k::l,s,u,h,hl=>by
  unfold YP;split;·exact sa a h fun k b=>hl k (acL _ b)
  ·rename_i who hm;have d:=sm (hl k (by simp)) hm;exact⟨d,sa a (BV a h d) fun k b=>hl k (acL _ b)⟩
theorem QW(h:k∈[0,1,2]):k<3:=by simp at h;omega
theorem bq(h:k∈[0,1,2,3]):k<4:=by simp at h;omega
theorem wu(a:bH c)(h:COk c s):FK c s (LZ c i s):=TL a h fun s k m hs b hm=>HR hs (QW b) hm
theorem zi(a:bH c)(h:COk c s):FK c s (FJ c i s):=TL a h fun s k m hs b hm=>HS hs (bq b) hm
theorem Gk(a:bH c)(h:COk c s):FK c s (Cs c s):=sa a h fun k b=>bq b
theorem Th(a:bH c)(h:COk c s):FK c s (WA c i s):=TL a h fun s k m hs b hm=>sc hs (QW b) hm
theorem XL(a:bH c)(h:COk c s):COk c (D9 c i s):=(JL a h (wu a h)).1
theorem XY(a:bH c)(h:COk c s):COk c (MB c i s):=(JL a (XL a h) (zi a (XL a h))).1
theorem Gg(a:bH c)(h:COk c s):COk c (JI c i s):=(JL a (XY a h) (Gk a (XY a h))).1
theorem uw(a:bH c)(h:COk c s):FK c s (Gz c i s):=by
 unfold Gz;rw[OG,OG,OG];refine⟨⟨⟨wu a h,zi a (XL a h)⟩,?_⟩,?_⟩;·rw[yS];exact Gk a (XY a h)
 ·rw[yS,yS];exact Th a (Gg a h)
theorem vw(a:bH c)(h:COk c s):COk c (yR c i s):=by rw[Gi];exact(JL a h (uw a h)).1
theorem Vb(a:bH c)(h:COk c s):dN (yR c i s)=runM c (dN s) (E9 c i s):=by rw[Gi];exact(JL a h (uw a h)).2.1
theorem Hg(a:bH c)(h:COk c s):NK c (dN s) (E9 c i s):=(JL a h (uw a h)).2.2
def uC(c:Cfg)(s:CSt)(l:List CIn):CSt:=l.foldl (fun s i=>yR c i s) s
def eE(c:Cfg):CSt->List CIn->List Ev
 |_,[]=>[]
 |s,i::l=>E9 c i s++eE c (yR c i s) l
theorem FL{c:Cfg}(a:bH c): ∀{l:List CIn} {s:CSt},COk c s->COk c (uC c s l)/\dN (uC c s l)=runM c (dN s) (eE c s l)/\NK c (dN s) (eE c s l)
 | [],s,h=>⟨h,rfl,tX⟩
 |i::l,s,h=>by
  obtain⟨d,e,f⟩:=FL a (l:=l) (vw a (i:=i) h);have b:=Vb a (i:=i) h;refine⟨d,?_,?_⟩;·show dN (uC c (yR c i s) l)=runM c (dN s) (E9 c i s++eE c (yR c i s) l);rw[e,b,yo]
  ·show NK c (dN s) (E9 c i s++eE c (yR c i s) l);rw[qe];exact⟨Hg a h,by rw[<-b];exact f⟩
theorem Hd{l:List CIn}:uC c s (i::l)=uC c (yR c i s) l:=rfl
theorem xy{a b:List CIn}:uC c s (a++b)=uC c (uC c s a) b:=by simp[uC]
def Q7:CSt:=⟨List.replicate 64 0,List.replicate 6 (-1),List.replicate 3 ⟨0,[],[],3⟩,List.replicate 4 ⟨[],[],2⟩,[]⟩
theorem Ov:dN Q7=st0:=by rfl
theorem ow(a:k<3):aL Q7 k=⟨0,[],[],3⟩:=by
 have:k=0\/k=1\/k=2:=by omega
 rcases this with rfl|rfl|rfl<;>rfl
theorem za(a:k<4):aS Q7 k=⟨[],[],2⟩:=by
 have:k=0\/k=1\/k=2\/k=3:=by omega
 rcases this with rfl|rfl|rfl|rfl<;>rfl
theorem Ur(c:Cfg):COk c Q7:=by
 have b:oD c (dN Q7):=by rw[Ov];exact Xq c
 refine⟨b.atm,rfl,rfl,fun k d=> ?_,fun k d=> ?_,rfl,b⟩;·rw[ow d];exact⟨by simp,by simp,by simp,by decide,fun i hi=>by simp at hi,fun j e=>by simp at e,List.Pairwise.nil,fun a f=>by simp at f⟩
 ·refine⟨?_,?_,?_,?_,?_,?_,?_⟩<;>rw[za d];·simp
  ·simp
  ·decide
  ·exact List.Pairwise.nil
  ·intro x g;simp[gM] at g
  ·intro j e;simp at e
  ·intro i hi;simp at hi
def ze:CIn:=⟨[true,true,true],[false,false,false,false],[true,true,true]⟩
def eCJ(j:gD):List D1:=[cI j.who,cI j.n,cI j.left]
variable{j:gD}
theorem Tu:(eCJ j).length=3:=rfl
theorem Lt:(eCJ j).take 1=[cI j.who]:=rfl
theorem Gy:(eCJ j).drop 1=[cI j.n,cI j.left]:=rfl
theorem Hq:(eCJ j).take 2=[cI j.who,cI j.n]:=rfl
theorem Ip:(eCJ j).drop 2=[cI j.left]:=rfl
theorem Jf:(eCJ j).take 3=eCJ j:=rfl
theorem Jg:(eCJ j).drop 3=[]:=rfl
variable{cs:List D1}
theorem Po:j9 cs (k+1) (eCJ j)=j9 cs (k+1) [cI j.who,cI j.n,cI j.left]:=rfl
theorem B0(j:gD):(eCJ j).length=3/\(eCJ j).all D1.eS=true:=⟨rfl,rfl⟩
attribute [go_sem] Tu Lt Gy Hq Ip Jf Jg Po
def dD(p:eT):List D1:=[cI p.next,.isl (p.queue.map aH),.isl (p.out.map eCJ),cI p.last]
theorem Jb:(dD p).length=4:=rfl
theorem zq:(dD p).take 1=[cI p.next]:=rfl
theorem zf:(dD p).drop 1=[.isl (p.queue.map aH),.isl (p.out.map eCJ),cI p.last]:=rfl
theorem zc:(dD p).take 2=[cI p.next,.isl (p.queue.map aH)]:=rfl
theorem yn:(dD p).drop 2=[.isl (p.out.map eCJ),cI p.last]:=rfl
theorem zm:(dD p).take 3=[cI p.next,.isl (p.queue.map aH),.isl (p.out.map eCJ)]:=rfl
theorem wb:(dD p).drop 3=[cI p.last]:=rfl
theorem yf:(dD p).take 4=dD p:=rfl
theorem xw:(dD p).drop 4=[]:=rfl
theorem Ef:j9 cs (k+1) (dD p)=j9 cs (k+1) [cI p.next,.isl (p.queue.map aH),.isl (p.out.map eCJ),cI p.last]:=rfl
theorem IH(p:eT):(dD p).length=4/\(dD p).all D1.eS=true:=⟨rfl,rfl⟩
attribute [go_sem] Jb zq zf zc yn zm wb yf xw Ef
def i6(v:tG):List D1:=[.isl (v.pipe.map eCJ),.isl (v.done.map aT),cI v.last]
variable{v:tG}
theorem Oj:(i6 v).length=3:=rfl
theorem Dl:(i6 v).take 1=[.isl (v.pipe.map eCJ)]:=rfl
theorem Al:(i6 v).drop 1=[.isl (v.done.map aT),cI v.last]:=rfl
theorem Ar:(i6 v).take 2=[.isl (v.pipe.map eCJ),.isl (v.done.map aT)]:=rfl
theorem Bw:(i6 v).drop 2=[cI v.last]:=rfl
theorem Bs:(i6 v).take 3=i6 v:=rfl
theorem Bg:(i6 v).drop 3=[]:=rfl
theorem Jt:j9 cs (k+1) (i6 v)=j9 cs (k+1) [.isl (v.pipe.map eCJ),.isl (v.done.map aT),cI v.last]:=rfl
theorem OC(v:tG):(i6 v).length=3/\(i6 v).all D1.eS=true:=⟨rfl,rfl⟩
attribute [go_sem] Oj Dl Al Ar Bw Bs Bg Jt
def bK(s:CSt):List D1:=[.isl (s.words.map aH),.isl (s.holds.map aH),.isl (s.bC.map dD),.isl (s.bN.map i6),.isl (s.told.map aT)]
theorem Ng:(bK s).length=5:=rfl
theorem Ep:(bK s).take 1=[.isl (s.words.map aH)]:=rfl
theorem Dy:(bK s).drop 1=[.isl (s.holds.map aH),.isl (s.bC.map dD),.isl (s.bN.map i6),.isl (s.told.map aT)]:=rfl
theorem Bj:(bK s).take 2=[.isl (s.words.map aH),.isl (s.holds.map aH)]:=rfl
theorem Cz:(bK s).drop 2=[.isl (s.bC.map dD),.isl (s.bN.map i6),.isl (s.told.map aT)]:=rfl
theorem At:(bK s).take 3=[.isl (s.words.map aH),.isl (s.holds.map aH),.isl (s.bC.map dD)]:=rfl
theorem Em:(bK s).drop 3=[.isl (s.bN.map i6),.isl (s.told.map aT)]:=rfl
theorem Dc:(bK s).take 4=[.isl (s.words.map aH),.isl (s.holds.map aH),.isl (s.bC.map dD),.isl (s.bN.map i6)]:=rfl
theorem Ch:(bK s).drop 4=[.isl (s.told.map aT)]:=rfl
theorem Ey:(bK s).take 5=bK s:=rfl
theorem Bt:(bK s).drop 5=[]:=rfl
theorem Jc:j9 cs (k+1) (bK s)=j9 cs (k+1) [.isl (s.words.map aH),.isl (s.holds.map aH),.isl (s.bC.map dD),.isl (s.bN.map i6),.isl (s.told.map aT)]:=rfl
theorem Gp(s:CSt):(bK s).length=5/\(bK s).all D1.eS=true:=⟨rfl,rfl⟩
attribute [go_sem] Ng Ep Dy Bj Cz At Em Dc Ch Ey Bt Jc
def fE(b:Bool):List D1:=[cB b]
theorem Kt{b:Bool}:(fE b).length=1:=rfl
theorem yv{b:Bool}:(fE b).take 1=[cB b]:=rfl
theorem zt{b:Bool}:(fE b).drop 1=[]:=rfl
theorem Cj{b:Bool}:j9 cs (k+1) (fE b)=j9 cs (k+1) [cB b]:=rfl
theorem HJ(b:Bool):(fE b).length=1/\(fE b).all D1.eS=true:=⟨rfl,rfl⟩
attribute [go_sem] Kt yv zt Cj
def eIn(i:CIn):List D1:=[.isl (i.ready.map fE),.isl (i.mW.map fE),.isl (i.send.map fE)]
theorem Vj:(eIn i).length=3:=rfl
theorem Je:(eIn i).take 1=[.isl (i.ready.map fE)]:=rfl
theorem Hh:(eIn i).drop 1=[.isl (i.mW.map fE),.isl (i.send.map fE)]:=rfl
theorem Lc:(eIn i).take 2=[.isl (i.ready.map fE),.isl (i.mW.map fE)]:=rfl
theorem Lh:(eIn i).drop 2=[.isl (i.send.map fE)]:=rfl
theorem Lj:(eIn i).take 3=eIn i:=rfl
theorem Ha:(eIn i).drop 3=[]:=rfl
theorem Qk:j9 cs (k+1) (eIn i)=j9 cs (k+1) [.isl (i.ready.map fE),.isl (i.mW.map fE),.isl (i.send.map fE)]:=rfl
theorem Bc(i:CIn):(eIn i).length=3/\(eIn i).all D1.eS=true:=⟨rfl,rfl⟩
attribute [go_sem] Vj Je Hh Lc Lh Lj Ha Qk
structure lW(H:aA)(n id off len cap:Nat)(R:List (List D1)):Prop where
 ex: ∃m rows,H id=some ⟨n,m,rows⟩/\rows.drop off=R/\off+len<=rows.length/\len=R.length/\len<=cap/\off+cap<=m
def VV(a no:Nat)(p:eT)(b c d:Nat):List D1:=[cI p.next,.osl 1 a b p.queue.length c,.osl 3 no 0 p.out.length d,cI p.last]
def ja(a b:Nat)(v:tG)(c d do_ e:Nat):List D1:=[.osl 3 a c v.pipe.length d,.osl 5 b do_ v.done.length e,cI v.last]
structure yQ(H:aA)(nq no:Nat)(p:eT)(r:List D1):Prop where
 ex: ∃qo qc oc,r=VV nq no p qo qc oc/\lW H 1 nq qo p.queue.length qc (p.queue.map aH)/\lW H 3 no 0 p.out.length oc (p.out.map eCJ)
structure IT(H:aA)(np nd:Nat)(v:tG)(r:List D1):Prop where
 ex: ∃po pc do_ dc,r=ja np nd v po pc do_ dc/\lW H 3 np po v.pipe.length pc (v.pipe.map eCJ)/\lW H 5 nd do_ v.done.length dc (v.done.map aT)
def F3(nm:Nat->Nat)(s:CSt)(wc hc a vc b:Nat):List D1:=[.osl 1 (nm 0) 0 s.words.length wc,.osl 1 (nm 1) 0 s.holds.length hc,.osl 4 (nm 2) 0 3 a,.osl 3 (nm 3) 0 4 vc,.osl 5 (nm 4) 0 s.told.length b]
structure BA(H:aA)(nm:Nat->Nat)(s:CSt)(cells:List D1):Prop where
 ex: ∃wc hc pc vc tc,cells=F3 nm s wc hc pc vc tc/\lW H 1 (nm 0) 0 s.words.length wc (s.words.map aH)/\lW H 1 (nm 1) 0 s.holds.length hc (s.holds.map aH)/\lW H 5 (nm 4) 0 s.told.length tc (s.told.map aT)/\
  3<=pc/\4<=vc
 bC: ∃m rows,H (nm 2)=some ⟨4,m,rows⟩/\rows.length=3/\ ∀k,k<3->∃r,rows[k]?=some r/\yQ H (nm (5+k)) (nm (8+k)) (aL s k) r
 bN: ∃m rows,H (nm 3)=some ⟨3,m,rows⟩/\rows.length=4/\ ∀k,k<4->∃r,rows[k]?=some r/\IT H (nm (11+k)) (nm (15+k)) (aS s k) r
structure Names(X:Nat->Prop)(nx:Nat)(nm:Nat->Nat):Prop where
 inj: ∀j k,j<19->k<19->nm j=nm k->j=k
 lt: ∀k,k<19->nm k<nx
 av: ∀k,k<19->¬X (nm k)
structure Rep(X:Nat->Prop)(H:aA)(nx i0:Nat)(nm:Nat->Nat)(s:CSt):Prop where
 st: ∃cells,H i0=some ⟨5,1,[cells]⟩/\BA H nm s cells
 names:Names X nx nm
 ne: ∀k,k<19->nm k≠i0
 i0:i0<nx/\ ¬X i0
 x: ∀id,X id->id<nx
def Wc(Y:Nat->Prop)(H:aA)(nx i1:Nat)(es:List Ev)(d:D1):Prop:=(es=[]/\d= .osl 0 0 0 0 0)\/ ∃ev cap,d= .osl 3 ev 0 es.length cap/\lW H 3 ev 0 es.length cap (es.map eEv)/\ev<nx/\ ¬Y ev/\ev≠i1
structure Hu(Y:Nat->Prop)(H:aA)(nx i1:Nat)(es:List Ev):Prop where
 ex: ∃d a b c e,H i1=some ⟨5,1,[[d,cI a,cI b,cI c,cI e]]⟩/\Wc Y H nx i1 es d
 i1:i1<nx/\ ¬Y i1
 y: ∀id,Y id->id<nx
variable{H:aA}
theorem aA.aB{a i:Nat}{o:bM}(h:i≠a):H.set a o i=H i:=if_neg h
theorem aA.aI{a:Nat}{o:bM}:H.set a o a=some o:=if_pos rfl
theorem aA.cC{a i:Nat}(h:i≠a):H.del a i=H i:=if_neg h
def bG(x:Nat):List Nat->Prop
 | []=>True
 |y::l=>((x=y)=False/\(y=x)=False)/\bG x l
def aO(nx:Nat):List Nat->Prop
 | []=>True
 |x::l=>((∀k,(x=nx+k)=False)/\(∀k,(nx+k=x)=False)/\(x=nx)=False/\(nx=x)=False)/\bG x l/\aO nx l
theorem Vx{x:Nat}: ∀{l:List Nat},x∉l->bG x l
 | [],_=>trivial
 |y::l,h=>by rw[abQ,not_or] at h;exact⟨⟨eq_false h.1,eq_false (Ne.symm h.1)⟩,Vx h.2⟩
theorem apart{nx:Nat}: ∀{l:List Nat},l.Nodup->(∀x∈l,x<nx)->aO nx l
 | [],_,_=>trivial
 |x::l,h,hl=>by rw[acO] at h;have b:=hl x (by simp);exact⟨⟨fun k=>eq_false (by omega),fun k=>eq_false (by omega),eq_false (by omega),eq_false (by omega)⟩,Vx h.1,apart h.2 fun y a=>hl y (acL _ a)⟩
theorem Names.list{X:Nat->Prop}{nx:Nat}{nm:Nat->Nat}(h:Names X nx nm): ∀{l:List Nat},l.Nodup->(∀k∈l,k<19)->(l.map nm).Nodup
 | [],_,_=>List.Pairwise.nil
 |k::l,b,hl=>by rw[acO] at b;rw[abZ,acO];refine⟨fun hm=> ?_,h.list b.2 fun j a=>hl j (acL _ a)⟩;obtain⟨j,a,he⟩:=abP.1 hm;exact b.1 (h.inj j k (hl j (acL _ a)) (hl k (by simp)) he▸a)
theorem Rep.apart{X:Nat->Prop}{H:aA}{nx nx' i0:Nat}{nm:Nat->Nat}{s:CSt}(h:Rep X H nx i0 nm s)(ext l:List Nat)(c:nx<=nx')(he:ext.Nodup)(d: ∀x∈ext,X x)(m:l.Nodup)(hl: ∀k∈l,k<19):aO nx' (ext++i0::l.map nm):=by
 refine AM.apart (ac1.2 ⟨he,acO.2 ⟨fun hm=> ?_,h.names.list m hl⟩,fun a i b f g=> ?_⟩) fun x c=> ?_;·obtain⟨j,e,he⟩:=abP.1 hm;exact h.ne j (hl j e) he
 ·subst g;rcases abQ.1 f with rfl|f;·exact h.i0.2 (d _ i)
  ·obtain⟨j,e,rfl⟩:=abP.1 f;exact h.names.av j (hl j e) (d _ i)
 ·rcases abS.1 c with c|c;·have:=h.x x (d x c);omega
  ·rcases abQ.1 c with rfl|c;·have:=h.i0.1;omega
   ·obtain⟨j,e,rfl⟩:=abP.1 c;have:=h.names.lt j (hl j e);omega
theorem lW.frame{H H':aA}{n id off len cap:Nat}{R:List (List D1)}(h:lW H n id off len cap R)(he:H' id=H id):lW H' n id off len cap R:=by obtain⟨m,rows,a,b⟩:=h.ex;exact⟨m,rows,by rw[he,a],b⟩
theorem yQ.frame{H H':aA}{a no:Nat}{p:eT}{r:List D1}(h:yQ H a no p r)(b:H' a=H a)(c:H' no=H no):yQ H' a no p r:=by obtain⟨d,f,g,e,i,j⟩:=h.ex;exact⟨d,f,g,e,i.frame b,j.frame c⟩
theorem IT.frame{H H':aA}{a b:Nat}{v:tG}{r:List D1}(h:IT H a b v r)(c:H' a=H a)(d:H' b=H b):IT H' a b v r:=by obtain⟨f,g,do_,i,e,j,k⟩:=h.ex;exact⟨f,g,do_,i,e,j.frame c,k.frame d⟩
theorem Rep.upd{X:Nat->Prop}{H H':aA}{nx nx' i0:Nat}{nm b:Nat->Nat}{s s':CSt}{who st:Nat}(h:Rep X H nx i0 nm s)(P:nx<=nx')(E:Names X nx' b)(q: ∀k,k<19->b k≠i0)
 (j: ∀k,k<19->k≠4->k≠5+who->k≠8+who->k≠11+st->k≠15+st->b k=nm k) (f: ∀k,5<=k->k<19->k≠5+who->k≠8+who->k≠11+st->k≠15+st->H' (nm k)=H (nm k))
 (F: ∃wc hc n vc o,H' i0=some ⟨5,1,[F3 b s' wc hc n vc o]⟩/\lW H' 1 (b 0) 0 s'.words.length wc (s'.words.map aH)/\lW H' 1 (b 1) 0 s'.holds.length hc (s'.holds.map aH)/\lW H' 5 (b 4) 0 s'.told.length o (s'.told.map aT)/\3<=n/\4<=vc)
 (G: ∃m rows m0 a,H (nm 2)=some ⟨4,m0,a⟩/\H' (nm 2)=some ⟨4,m,rows⟩/\rows.length=3/\(∀k,k<3->k≠who->rows[k]?=a[k]?)/\(who<3->∃r,rows[who]?=some r/\yQ H' (b (5+who)) (b (8+who)) (aL s' who) r))
 (I: ∃m rows m0 a,H (nm 3)=some ⟨3,m0,a⟩/\H' (nm 3)=some ⟨3,m,rows⟩/\rows.length=4/\(∀k,k<4->k≠st->rows[k]?=a[k]?)/\(st<4->∃r,rows[st]?=some r/\IT H' (b (11+st)) (b (15+st)) (aS s' st) r))
 (hw:who<3\/who=14) (hs:st<4\/st=8) (hp: ∀k,k<3->k≠who->aL s' k=aL s k) (J: ∀k,k<4->k≠st->aS s' k=aS s k):Rep X H' nx' i0 b s':=by
 obtain⟨⟨cells,K,hex,g,i⟩,p,D,t,L⟩:=h
 refine⟨?_,E,q,⟨by omega,t.2⟩,fun id u=>by have:=L id u;omega⟩
 obtain⟨wc,hc,n,vc,o,M,N⟩:=F
 refine⟨_,M,⟨wc,hc,n,vc,o,rfl,N⟩,?_,?_⟩
 ·obtain⟨m,rows,m0,a,v,w,x,y,z⟩:=G;obtain⟨m1,d,l,O,A⟩:=g;rw[v] at l;obtain⟨_,rfl,rfl⟩:4=4/\m0=m1/\a=d:=by simpa using l
  refine⟨m,rows,by rw[j 2 (by omega) (by omega) (by omega) (by omega) (by omega) (by omega)];exact w,x,fun k c=> ?_⟩;by_cases e:k=who;·subst e;exact z c
  ·obtain⟨r,B,C⟩:=A k c;refine⟨r,by rw[y k c e];exact B,?_⟩;rw[hp k c e,j (5+k) (by omega) (by omega) (by omega) (by omega) (by omega) (by omega),j (8+k) (by omega) (by omega) (by omega) (by omega) (by omega) (by omega)];exact C.frame (f _ (by omega) (by omega) (by omega) (by omega) (by omega) (by omega)) (f _ (by omega) (by omega) (by omega) (by omega) (by omega) (by omega))
 ·obtain⟨m,rows,m0,a,v,w,x,y,z⟩:=I;obtain⟨m1,d,l,O,A⟩:=i;rw[v] at l;obtain⟨_,rfl,rfl⟩:3=3/\m0=m1/\a=d:=by simpa using l
  refine⟨m,rows,by rw[j 3 (by omega) (by omega) (by omega) (by omega) (by omega) (by omega)];exact w,x,fun k c=> ?_⟩;by_cases e:k=st;·subst e;exact z c
  ·obtain⟨r,B,C⟩:=A k c;refine⟨r,by rw[y k c e];exact B,?_⟩;rw[J k c e,j (11+k) (by omega) (by omega) (by omega) (by omega) (by omega) (by omega),j (15+k) (by omega) (by omega) (by omega) (by omega) (by omega) (by omega)];exact C.frame (f _ (by omega) (by omega) (by omega) (by omega) (by omega) (by omega)) (f _ (by omega) (by omega) (by omega) (by omega) (by omega) (by omega))
theorem Rep.frame{X o:Nat->Prop}{H H':aA}{nx nx' i0:Nat}{nm:Nat->Nat}{s:CSt}(h:Rep X H nx i0 nm s)(I:nx<=nx')(p:H' i0=H i0)(a: ∀k,k<19->H' (nm k)=H (nm k))(f: ∀id,o id->id<nx'/\id≠i0/\ ∀k,k<19->id≠nm k):Rep o H' nx' i0 nm s:=by
 obtain⟨⟨cells,g,⟨wc,hc,q,vc,t,u,v,w,x,y⟩,⟨m,rows,z,A,B⟩,⟨C,c,D,E,F⟩⟩,b,e,G,_⟩:=h
 refine⟨⟨cells,by rw[p];exact g,⟨wc,hc,q,vc,t,u,v.frame (a _ (by omega)),w.frame (a _ (by omega)),x.frame (a _ (by omega)),y⟩,⟨m,rows,by rw[a 2 (by omega)];exact z,A,fun k d=> ?_⟩,⟨C,c,by rw[a 3 (by omega)];exact D,E,fun k d=> ?_⟩⟩,
  ⟨b.inj,fun k d=>by have:=b.lt k d;omega,fun k d i=>(f _ i).2.2 k d rfl⟩,e,⟨by omega,fun i=>(f _ i).2.1 rfl⟩,fun id j=>(f id j).1⟩
 ·obtain⟨r,l,n⟩:=B k d;exact⟨r,l,n.frame (a _ (by omega)) (a _ (by omega))⟩
 ·obtain⟨r,l,n⟩:=F k d;exact⟨r,l,n.frame (a _ (by omega)) (a _ (by omega))⟩
def put(nm:Nat->Nat)(k v:Nat):Nat->Nat:=fun j=>if j=k then v else nm j
variable{nm:Nat->Nat}
theorem fL{v:Nat}:put nm k v k=v:=if_pos rfl
theorem bV{v j:Nat}(h:j≠k):put nm k v j=nm j:=if_neg h
theorem Names.mono{X:Nat->Prop}{nx nx':Nat}(h:Names X nx nm)(b:nx<=nx'):Names X nx' nm:=⟨h.inj,fun k a=>by have:=h.lt k a;omega,h.av⟩
theorem Names.put{X:Nat->Prop}{nx nx':Nat}{nm:Nat->Nat}{k v:Nat}(h:Names X nx nm)(f:nx<=v)(g:v<nx')(e: ¬X v):Names X nx' (put nm k v):=by
 refine⟨fun i j hi d he=> ?_,fun j d=> ?_,fun j d=> ?_⟩;·have a:=h.lt i hi;have b:=h.lt j d;have c:=h.inj i j hi d;unfold AM.put at he;split at he<;>split at he<;>omega
 ·have:=h.lt j d;unfold AM.put;split<;>omega
 ·unfold AM.put;split;·exact e
  ·exact h.av j d
structure oR(X:Nat->Prop)(H:aA)(nx i0 i1:Nat)(nm:Nat->Nat)(s:CSt)(es:List Ev):Prop where
 rep:Rep (fun id=>X id\/id=i1) H nx i0 nm s
 hap:Hu (fun id=>X id\/id=i0\/ ∃k,k<19/\id=nm k) H nx i1 es
theorem Hu.frame{Y f:Nat->Prop}{H H':aA}{nx nx' i1:Nat}{es:List Ev}(h:Hu Y H nx i1 es)(v:nx<=nx')(j:H' i1=H i1)(g: ∀id,id<nx->¬Y id->H' id=H id)(k: ∀id,f id->id<nx'/\(Y id\/nx<=id)):Hu f H' nx' i1 es:=by
 obtain⟨⟨d,a,b,c,e,p,i⟩,l,w⟩:=h
 have m: ∀id,id<nx->¬Y id->¬f id:=fun id j q r=>by
  rcases(k id r).2 with h|h;·exact q h
  ·omega
 refine⟨⟨d,a,b,c,e,by rw[j];exact p,?_⟩,⟨by omega,m _ l.1 l.2⟩,fun id h=>(k id h).1⟩;rcases i with i|⟨ev,cap,s,t,n,o,u⟩
 ·exact .inl i
 ·exact .inr ⟨ev,cap,s,t.frame (g _ n o),by omega,m _ n o,u⟩
theorem oR.next{X n:Nat->Prop}{H2:aA}{nx f i0 i1:Nat}{es:List Ev}(h:oR X H nx i0 i1 nm s es)(o:nx<=f)(d: ∀id,id<nx->¬X id->H2 id=H id)(p: ∀id,n id->id<f/\(X id\/nx<=id)):oR n H2 f i0 i1 nm s es:=by
 have e:=h.rep.i0;have l:=h.hap.i1;have g:=h.rep.names.av;have i:=h.rep.names.lt;refine⟨h.rep.frame o (d i0 e.1 fun j=>e.2 (.inl j)) (fun k b=>d _ (i k b) fun j=>g k b (.inl j)) fun id a=> ?_,h.hap.frame o (d i1 l.1 fun j=>l.2 (.inl j)) (fun id q r=>d id q fun j=>r (.inl j)) fun id a=> ?_⟩
 ·rcases a with a|rfl
  ·obtain⟨m,c⟩:=p id a;refine⟨m,?_,fun k b=> ?_⟩
   ·rintro rfl;rcases c with c|c;·exact e.2 (.inl c)
    ·omega
   ·rintro rfl;have:=i k b;rcases c with c|c;·exact g k b (.inl c)
    ·omega
  ·refine⟨by omega,fun he=>e.2 (.inr he.symm),fun k b he=>g k b (.inr he.symm)⟩
 ·rcases a with a|rfl|⟨k,b,rfl⟩
  ·obtain⟨m,c⟩:=p id a;exact⟨m,c.imp .inl fun h=>h⟩
  ·exact⟨by omega,.inl (.inr (.inl rfl))⟩
  ·have:=i k b;exact⟨by omega,.inl (.inr (.inr ⟨k,b,rfl⟩))⟩
theorem oR.mono{X:Nat->Prop}{nx a i0 i1:Nat}{es:List Ev}(h:oR X H nx i0 i1 nm s es)(c:nx<=a):oR X H a i0 i1 nm s es:=h.next c (fun _ _ _=>rfl) fun id b=>⟨by have:=h.rep.x id (.inl b);omega,.inl b⟩
theorem Rep.get{X:Nat->Prop}{nx i0:Nat}(h:Rep X H nx i0 nm s):
 ∃wc hc a vc d mp b l c,H i0=some ⟨5,1,[[.osl 1 (nm 0) 0 s.words.length wc,.osl 1 (nm 1) 0 s.holds.length hc,.osl 4 (nm 2) 0 3 a,.osl 3 (nm 3) 0 4 vc,.osl 5 (nm 4) 0 s.told.length d]]⟩/\H (nm 2)=some ⟨4,mp,b⟩/\H (nm 3)=some ⟨3,l,c⟩/\
  lW H 1 (nm 0) 0 s.words.length wc (s.words.map aH)/\lW H 1 (nm 1) 0 s.holds.length hc (s.holds.map aH)/\lW H 5 (nm 4) 0 s.told.length d (s.told.map aT)/\3<=a/\4<=vc/\b.length=3/\c.length=4/\
  (∀k,k<3->∃e f g,b[k]?=some [cI (aL s k).next,.osl 1 (nm (5+k)) e (aL s k).queue.length f,.osl 3 (nm (8+k)) 0 (aL s k).out.length g,cI (aL s k).last]/\lW H 1 (nm (5+k)) e (aL s k).queue.length f ((aL s k).queue.map aH)/\lW H 3 (nm (8+k)) 0 (aL s k).out.length g ((aL s k).out.map eCJ))/\
  ∀k,k<4->∃i a do_ j,c[k]?=some [.osl 3 (nm (11+k)) i (aS s k).pipe.length a,.osl 5 (nm (15+k)) do_ (aS s k).done.length j,cI (aS s k).last]/\lW H 3 (nm (11+k)) i (aS s k).pipe.length a ((aS s k).pipe.map eCJ)/\lW H 5 (nm (15+k)) do_ (aS s k).done.length j ((aS s k).done.map aT):=by
 obtain⟨cells,m,⟨wc,hc,a,vc,d,rfl,q,t,u,v,w⟩,⟨mp,b,x,y,z⟩,⟨l,c,A,B,C⟩⟩:=h.st
 refine⟨wc,hc,a,vc,d,mp,b,l,c,m,x,A,q,t,u,v,w,y,B,fun k n=> ?_,fun k n=> ?_⟩
 ·obtain⟨r,o,⟨e,f,g,rfl,p⟩⟩:=z k n;exact⟨e,f,g,o,p⟩
 ·obtain⟨r,o,⟨i,a,do_,j,rfl,p⟩⟩:=C k n;exact⟨i,a,do_,j,o,p⟩
theorem oR.upd{X:Nat->Prop}{H H':aA}{nx nx' i0 i1:Nat}{nm:Nat->Nat}{s:CSt}{es:List Ev}(h:oR X H nx i0 i1 nm s es)(who st:Nat)(b:Nat->Nat)(s':CSt)(u:nx<=nx')(v:Names (fun id=>X id\/id=i1) nx' b)
 (i: ∀k,k<19->b k=nm k\/((k=4\/k=5+who\/k=8+who\/k=11+st\/k=15+st)/\nx<=b k))
 (e: ∀id,id<nx->id≠i0->(∀k,k<5\/k=5+who\/k=8+who\/k=11+st\/k=15+st->k<19->id≠nm k)->H' id=H id)
 (z: ∃wc hc w vc y,H' i0=some ⟨5,1,[F3 b s' wc hc w vc y]⟩/\lW H' 1 (b 0) 0 s'.words.length wc (s'.words.map aH)/\lW H' 1 (b 1) 0 s'.holds.length hc (s'.holds.map aH)/\lW H' 5 (b 4) 0 s'.told.length y (s'.told.map aT)/\3<=w/\4<=vc)
 (A: ∃m rows m0 c,H (nm 2)=some ⟨4,m0,c⟩/\H' (nm 2)=some ⟨4,m,rows⟩/\rows.length=3/\(∀k,k<3->k≠who->rows[k]?=c[k]?)/\(who<3->∃r,rows[who]?=some r/\yQ H' (b (5+who)) (b (8+who)) (aL s' who) r))
 (B: ∃m rows m0 c,H (nm 3)=some ⟨3,m0,c⟩/\H' (nm 3)=some ⟨3,m,rows⟩/\rows.length=4/\(∀k,k<4->k≠st->rows[k]?=c[k]?)/\(st<4->∃r,rows[st]?=some r/\IT H' (b (11+st)) (b (15+st)) (aS s' st) r))
 (hw:who<3\/who=14) (hs:st<4\/st=8) (hp: ∀k,k<3->k≠who->aL s' k=aL s k) (C: ∀k,k<4->k≠st->aS s' k=aS s k):oR X H' nx' i0 i1 b s' es/\ ∀id,X id->H' id=H id:=by
 have p:=h.rep.names.av
 have q:=h.rep.i0
 have D:=h.hap.i1
 have t:=h.rep.names.lt
 have l: ∀id,X id\/id=i1->H' id=H id:=fun id d=>e id (h.rep.x id d) (fun he=>q.2 (he▸d)) fun k _ i he=>p k i (he▸d)
 refine⟨⟨h.rep.upd (who:=who) (st:=st) u v (fun k a=> ?_) (fun k a f o E F G=> ?_) (fun k G a f o E F=> ?_) z A B hw hs hp C,h.hap.frame u (l _ (.inr rfl)) (fun id f o=> ?_) fun id d=> ?_⟩,fun id d=>l id (.inl d)⟩
 ·rcases i k a with f|f;·rw[f];exact h.rep.ne k a
  ·omega
 ·rcases i k a with g|g;·exact g
  ·omega
 ·refine e _ (t k a) (h.rep.ne k a) fun j I n he=> ?_;have:=h.rep.names.inj k j a n he;omega
 ·exact e id f (fun he=>o (.inr (.inl he))) fun k _ a he=>o (.inr (.inr ⟨k,a,he⟩))
 ·rcases d with d|rfl|⟨k,a,rfl⟩
  ·have:=h.rep.x id (.inl d);exact⟨by omega,.inl (.inl d)⟩
  ·exact⟨by omega,.inl (.inr (.inl rfl))⟩
  ·have:=v.lt k a;rcases i k a with g|g;·exact⟨this,.inl (.inr (.inr ⟨k,a,g⟩))⟩
   ·exact⟨this,.inr g.2⟩
def XZ(H:aA)(F:Nat->Prop)(r' r:List D1):Prop:=r'.length=r.length/\ ∀(j:Nat) (a:D1),r'[j]?=some a->∃d,r[j]?=some d/\Frz H F a d
section
variable{H:aA}{F:Nat -> Prop}{σ:Nat -> Nat}{nh:Nat}
theorem xC:XZ H F [] []:=⟨rfl,fun j d h=>by simp at h⟩
theorem bZ{x y:D1}{xs ys:List D1}(h:Frz H F x y)(b:XZ H F xs ys):XZ H F (x::xs) (y::ys):=by
 refine⟨by simp[b.1],fun j d a=> ?_⟩
 match j with
 |0=>simp at a;subst a;exact⟨y,rfl,h⟩
 |j+1=>exact b.2 j d (by simpa using a)
theorem ZD{r:List D1}(h: ∀x∈r,x.eS=true):XZ H F r r:=⟨rfl,fun j d a=>⟨d,a,.same d (h d (abV a))⟩⟩
theorem nM{r' r:List D1}(h:XZ H F r' r):CvL H F σ nh r' r:=⟨h.1,fun i x y b c=>by
 obtain⟨d,a,e⟩:=h.2 i x b
 rw[c] at a;cases a
 exact .frz e⟩
theorem IB{rows:List (List D1)}{n id off len cap:Nat}{o:bM}(l:F id)(m:H id=some o)(p:o.n=n)(hl:len=rows.length)(hlen:off+len<=o.rows.length)(a:len<=cap)
 (hr: ∀i r',rows[i]?=some r'->r'.length=n/\ ∃r,o.rows[off+i]?=some r/\XZ H F r' r):Frz H F (.isl rows) (.osl n id off len cap):=by
 subst hl
 refine .frz rows n id off cap o (fun i j=>((o.rows[off+i]?.getD [])[j]?).getD .dead) l m p hlen a (fun i r' h=>(hr i r' h).1) (fun i j r' c e f=> ?_) (fun i j r' c e f=> ?_)
 ·obtain⟨_,r,b,g⟩:=hr i r' e;obtain⟨d,k,_⟩:=g.2 j c f;exact⟨r,b,by rw[b];simp[k]⟩
 ·obtain⟨_,r,b,g⟩:=hr i r' e;obtain⟨d,k,q⟩:=g.2 j c f;rw[b];simpa [k] using q
theorem lW.frz{n id off len cap:Nat}{R:List (List D1)}(h:lW H n id off len cap R)(hi:su n R)(a:F id):Frz H F (.isl R) (.osl n id off len cap):=by
 obtain⟨m,rows,b,c,d,e,f,j⟩:=h.ex;refine IB a b rfl e d f fun i r' hr=>⟨(hi r' (abV hr)).1,r',?_,ZD fun x g=>(hi r' (abV hr)).2 x g⟩
 subst c;rw[ab4] at hr;exact hr
theorem wq{x:Value}:Frz H F (.v x) (.v x):=.same _ rfl
theorem yQ.OY{a no:Nat}{p:eT}{r:List D1}(h:yQ H a no p r)(b:F a)(c:F no):XZ H F (dD p) r:=by obtain⟨f,g,i,rfl,d,e⟩:=h.ex;exact bZ wq (bZ (d.frz (aN aV _) b) (bZ (e.frz (aN B0 _) c) (bZ wq xC)))
theorem IT.OY{a b:Nat}{v:tG}{r:List D1}(h:IT H a b v r)(c:F a)(d:F b):XZ H F (i6 v) r:=by obtain⟨g,i,o,j,rfl,e,f⟩:=h.ex;exact bZ (e.frz (aN B0 _) c) (bZ (f.frz (aN dQ _) d) (bZ wq xC))
theorem getD_some{α:Type}[Inhabited α]{l:List α}{k:Nat}{x:α}(h:l[k]?=some x):l.getD k default=x/\k<l.length:=by refine⟨by simp[List.getD,h],(abN.1 h).1⟩
theorem BA.OY{nm:Nat->Nat}{s:CSt}{cells:List D1}(h:BA H nm s cells)(a: ∀k,k<19->F (nm k))(hp:s.bC.length=3)(hs:s.bN.length=4):XZ H F (bK s) cells:=by
 obtain⟨⟨wc,hc,w,vc,x,rfl,f,g,j,l,n⟩,⟨m,rows,o,y,q⟩,z,c,t,A,u⟩:=h;refine bZ (f.frz (aN aV _) (a _ (by omega))) (bZ (g.frz (aN aV _) (a _ (by omega))) (bZ ?_ (bZ ?_ (bZ (j.frz (aN dQ _) (a _ (by omega))) xC))));·refine IB (a _ (by omega)) o rfl (by simp[hp]) (by simp;omega) l fun i r' hr=> ?_;rw[abW,abR] at hr;obtain⟨p,hr,rfl⟩:=hr;obtain⟨d,v⟩:=getD_some hr;obtain⟨r,e,b⟩:=q i (by omega);rw[show aL s i=p from d] at b;exact⟨rfl,r,by rw[acS];exact e,b.OY (a _ (by omega)) (a _ (by omega))⟩
 ·refine IB (a _ (by omega)) t rfl (by simp[hs]) (by simp;omega) n fun i r' hr=> ?_;rw[abW,abR] at hr;obtain⟨p,hr,rfl⟩:=hr;obtain⟨d,v⟩:=getD_some hr;obtain⟨r,e,b⟩:=u i (by omega);rw[show aS s i=p from d] at b;exact⟨rfl,r,by rw[acS];exact e,b.OY (a _ (by omega)) (a _ (by omega))⟩
theorem Rg{r' r:List D1}{n id:Nat}{o:bM}(c:F id)(f:H id=some o)(g:o.n=n)(hr:o.rows[0]?=some r)(h:XZ H F r' r):Frz H F (.fF r') (.ptr n id 0 0):=
 .ptr r' n id 0 0 o r (fun j=>(r[j]?).getD .dead) c f g hr (fun j d a=>by obtain⟨e,b,_⟩:=h.2 j d a;rw[acS];simp[b]) (fun j d a=>by obtain⟨e,b,i⟩:=h.2 j d a;simpa [b] using i)
theorem Rep.Q6{X:Nat->Prop}{nx i0:Nat}{nm:Nat->Nat}{s:CSt}(h:Rep X H nx i0 nm s)(hp:s.bC.length=3)(hs:s.bN.length=4):CvD H (fun _=>True) id 0 (.one (.c (.fF (bK s)))) (.one (.c (.ptr 5 i0 0 0))):=by obtain⟨cells,a,b⟩:=h.st;exact .frz (Rg trivial a rfl rfl (b.OY (fun _ _=>trivial) hp hs))
end
variable{f:CSt->Nat->Option Mic}
theorem N6{l:List Nat}(h:f s k=none):DG c f s (k::l)=DG c f s l:=by rw[DG,h]
theorem OH{l:List Nat}(h:f s k=some m):DG c f s (k::l)=m::DG c f (bS c s m) l:=by rw[DG,h]
theorem zg(h:k<3):[0,1,2].drop k=k::[0,1,2].drop (k+1):=by
 obtain rfl|rfl|rfl:k=0\/k=1\/k=2:=by omega
 all_goals rfl
theorem rz(h:k<4):[0,1,2,3].drop k=k::[0,1,2,3].drop (k+1):=by
 obtain rfl|rfl|rfl|rfl:k=0\/k=1\/k=2\/k=3:=by omega
 all_goals rfl
def B4(c:Cfg)(f:CSt->Nat->Option Mic)(l:List Nat)(s:CSt)(es:List Ev)(S:CSt)(E:List Ev):Prop:=lQ c s (DG c f s l)=S/\es++gV c s (DG c f s l)=E
theorem B4.none{c:Cfg}{f:CSt->Nat->Option Mic}{s S:CSt}{es E:List Ev}{k:Nat}{l:List Nat}(hl:B4 c f (k::l) s es S E)(h:f s k=none):B4 c f l s es S E:=by unfold B4 at hl;rw[N6 h] at hl;exact hl
theorem B4.some{c:Cfg}{f:CSt->Nat->Option Mic}{s S:CSt}{es E:List Ev}{k:Nat}{l:List Nat}{m:Mic}(hl:B4 c f (k::l) s es S E)(h:f s k=some m):B4 c f l (bS c s m) (es++BQ s m) S E:=by unfold B4 at hl;rw[OH h] at hl;refine⟨hl.1,?_⟩;rw[abY];exact hl.2
theorem B4.nil{S:CSt}{es E:List Ev}(hl:B4 c f [] s es S E):s=S/\es=E:=by refine⟨hl.1,?_⟩;have:=hl.2;rw[DG,gV,ab3] at this;exact this
theorem U6(h:i.ready.getD k default=false):pJ i s k=none:=by unfold pJ;rw[if_neg (by rw[h];decide)]
theorem at4{j:Nat}(a:1<=j)(b:j<5):j=1\/j=2\/j=3\/j=4:=by omega
theorem YA(h: ∀j,1<=j->j<5->qp s k (GS s k j)=false):pJ i s k=none:=by
 unfold pJ;split;·simp[List.find?_cons,h 1 (by omega) (by omega),h 2 (by omega) (by omega),h 3 (by omega) (by omega),h 4 (by omega) (by omega)]
 ·rfl
theorem fb{j:Nat}(hr:i.ready.getD k default=true)(c:1<=j)(d:j<=4)(h: ∀b,1<=b->b<j->qp s k (GS s k b)=false)(a:qp s k (GS s k j)=true):pJ i s k=some (.tell k (GS s k j)):=by
 unfold pJ;rw[if_pos hr];rcases at4 c (by omega) with rfl|rfl|rfl|rfl;·simp[List.find?_cons,a]
 ·simp[List.find?_cons,a,h 1 (by omega) (by omega)]
 ·simp[List.find?_cons,a,h 1 (by omega) (by omega),h 2 (by omega) (by omega)]
 ·simp[List.find?_cons,a,h 1 (by omega) (by omega),h 2 (by omega) (by omega),h 3 (by omega) (by omega)]
def FU(c:Cfg)(l:List Nat)(s:CSt)(u:List Bool)(S:CSt):Prop:=lQ c s (YP c s u l)=S
theorem FU.none{c:Cfg}{s S:CSt}{u:List Bool}{k:Nat}{l:List Nat}(hl:FU c (k::l) s u S)(h:QV c s u k=none):FU c l s u S:=by unfold FU at hl;rw[YP,h] at hl;exact hl
theorem FU.some{c:Cfg}{s S:CSt}{u:List Bool}{k who:Nat}{l:List Nat}(hl:FU c (k::l) s u S)(h:QV c s u k=some who):FU c l (bS c s (.adm who k)) (u.set who true) S:=by unfold FU at hl;rw[YP,h] at hl;exact hl
theorem zj(h: ¬(aS s st).pipe.length<2):QV c s u st=none:=if_neg h
theorem ov(h: ∀j,1<=j->j<4->MA c s u st (H9 s st j)=false):QV c s u st=none:=by
 unfold QV;split;·simp[List.find?_cons,h 1 (by omega) (by omega),h 2 (by omega) (by omega),h 3 (by omega) (by omega)]
 ·rfl
theorem qw{j:Nat}(hr:(aS s st).pipe.length<2)(d:1<=j)(e:j<=3)(h: ∀a,1<=a->a<j->MA c s u st (H9 s st a)=false)(b:MA c s u st (H9 s st j)=true):QV c s u st=some (H9 s st j):=by
 unfold QV;rw[if_pos hr];obtain rfl|rfl|rfl:j=1\/j=2\/j=3:=by omega
 ·simp[List.find?_cons,b]
 ·simp[List.find?_cons,b,h 1 (by omega) (by omega)]
 ·simp[List.find?_cons,b,h 1 (by omega) (by omega),h 2 (by omega) (by omega)]
theorem QR{p:Job->Bool}: ∀{A B:List Job},(∀a∈A,p a=false)->(∀b∈B,p b=true)->(A++B).findIdx p=A.length
 | [],[],_,_=>rfl
 | [],b::B,_,hB=>by rw[List.nil_append,List.findIdx_cons,hB b (by simp)];rfl
 |a::A,B,c,hB=>by rw[List.cons_append,List.findIdx_cons,c a (by simp)];simp only[cond_false,List.length_cons];rw[QR (fun x d=>c x (acL _ d)) hB]
theorem Cc{A B:List Job}{x:Job}(c: ∀a∈A,fY x a=false)(hB: ∀b∈B,fY x b=true):tL (A++B) x=A++x::B:=by
 unfold tL;rw[QR c hB,List.take_left',List.drop_left'];·rfl
 ·rfl
def J4(l:List Job)(k:Nat):List Job:=cW (l.take k)
theorem Lp{l:List Job}(a:k<=l.length):(J4 l k).length=k:=by unfold J4;rw[(iU _).length_eq,ab5];omega
theorem Aj{l:List Job}(a:k<l.length):J4 l (k+1)=tL (J4 l k) (l.getD k default):=by unfold J4 cW;rw[fC a,List.foldl_append];rfl
theorem Iu{l:List Job}:J4 l 1=l.take 1:=by
 cases l with
 |nil=>rfl
 |cons x l=>rfl
theorem Ly{l:List Job}:J4 l l.length=cW l:=by unfold J4;rw[acI]
def UK(S:List Job)(x:Job)(j:Nat):List Job:=S.take j++x::S.drop j
theorem Mt{S:List Job}{x:Job}{j:Nat}(_:j<=S.length):(UK S x j).length=S.length+1:=by unfold UK;simp;omega
end Go.AM
namespace Go.Proofs.YtlncecohbakleaaGreat
open Go Go.AM
attribute [local irreducible] aJ wv aC vd wvH
section
variable{H:aA}{nx:Nat}{K:afC}
theorem GZ{c:Cfg}{s:CSt}{i:CIn}{k:Nat}(hs:COk c s)(O:k<3)(hr:i.ready.getD k default=true){J:D}(o:CvD H (fun _=>True) id 0 (dA (bK s)) J)(h: ∀r,(fun r=>(pJ i s k=none/\r=dI (-1))\/ ∃st:Nat,st<4/\pJ i s k=some (.tell k st)/\r=dI st) r->K r H nx):afB rV [J,dI k] H nx K:=by
 refine aC.pure (args0:=[dA (bK s),dI k]) (R:=fun r=>(pJ i s k=none/\r=dI (-1))\/ ∃st:Nat,st<4/\pJ i s k=some (.tell k st)/\r=dI st) ?_ rfl (aK ⟨o,aF rfl,trivial⟩) (h);clear h;refine aR.mk Tryz.func120 (by kernel_rfl) YM rfl fun Q L=> ?_;unfold xL;have l:=hs.pl;have m:=hs.sl;obtain⟨z,A⟩:=(hs.port k O).last;obtain⟨p,hp⟩: ∃p,s.bC.getD k default=p:=⟨_,rfl⟩
 have q:aL s k=p:=hp;rw[q] at z A;repeat' first|apply vI<;>(simp only[go_sem])|fail
 refine aJ.cG (β:=Nat) (fun j=>en [(5,dI j),(2,.one (.c (.ptr 5 0 0 0))),(1,dI k)]) (fun j H1 _=>H1 0=some ⟨5,1,[bK s]⟩/\1<=j/\j<=5/\ ∀a,1<=a->a<j->qp s k (GS s k a)=false) (fun j=>5-j) 1 ⟨noF,_,by repeat' first|exact C1|refine xqI rfl rfl ?_|refine xqP (by omega) rfl rfl ?_|fail,aE,rfl,by omega,by omega,fun a n B=>by omega⟩ ?_;rintro j H1 P M ⟨t,C,S,hinv⟩ T u;by_cases E:j<=4
 ·obtain⟨st,e⟩: ∃st,st=GS s k j:=⟨_,rfl⟩
  have N:st=((p.last+(j:Int))%4).toNat:=by rw[e,<-q];rfl
  have w:st<4:=by omega
  have f:(p.last+(j:Int)).tmod 4=(st:Int):=by rw[ac0 (by omega)];omega
  obtain⟨v,x⟩: ∃v,s.bN.getD st default=v:=⟨_,rfl⟩
  have g:aS s st=v:=x;by_cases o:v.done.length=0
  ·have hlen:(0<(v.done.length:Int))=False:=eq_false (by omega);repeat' first|apply vI<;>(simp only[go_sem,t,l,m,hp,x,f,hlen];try simp (disch:=omega) only[Iw])|apply vT (by omega)|refine⟨by omega,?_⟩|fail
   exact u _ _ _ (j+1) noF _ (by omega) (by omega) (by repeat' first|exact C1|refine xqI rfl rfl ?_|refine xqP (by omega) rfl rfl ?_|fail) aE ⟨t,by omega,by omega,fun a n B=>by
    by_cases F:a<j
    ·exact hinv a n F
    ·have:a=j:=(by omega);subst this;rw[<-e];exact decide_eq_false fun hc=>by rw[g] at hc;omega⟩
  have hlen:(0<(v.done.length:Int))=True:=eq_true (by omega);obtain⟨d,y⟩: ∃d,v.done.getD 0 default=d:=⟨_,rfl⟩
  by_cases b:d.who=k
  ·have G:(d.who=(k:Int))=True:=eq_true b;repeat' first|apply vI<;>(simp only[go_sem,t,l,m,hp,x,f,hlen,y,G];try simp (disch:=omega) only[Iw])|apply vT (by omega)|refine⟨by omega,?_⟩|fail
   refine aP L _ rfl rfl (.inr ⟨st,w,?_,rfl⟩);rw[e];exact fb hr C E hinv (by rw[<-e];exact decide_eq_true ⟨by rw[g];omega,by rw[g,y];exact b⟩)
  ·have I:(d.who=(k:Int))=False:=eq_false b;repeat' first|apply vI<;>(simp only[go_sem,t,l,m,hp,x,f,hlen,y,I];try simp (disch:=omega) only[Iw])|apply vT (by omega)|refine⟨by omega,?_⟩|fail
   exact u _ _ _ (j+1) noF _ (by omega) (by omega) (by repeat' first|exact C1|refine xqI rfl rfl ?_|refine xqP (by omega) rfl rfl ?_|fail) aE ⟨t,by omega,by omega,fun a n B=>by
    by_cases F:a<j
    ·exact hinv a n F
    ·have:a=j:=(by omega);subst this;rw[<-e];exact decide_eq_false fun hc=>b (by rw[<-y,<-g];exact hc.2)⟩
 ·repeat' first|apply vI<;>(simp only[go_sem])|apply vF (by omega)|fail
  exact aP L _ rfl rfl (.inl ⟨YA fun a n B=>hinv a n (by omega),rfl⟩)
theorem pG{c:Cfg}{s:CSt}{st:Nat}(hs:COk c s)(l:st<4){i:D}(a:CvD H (fun _=>True) id 0 (dA (bK s)) i)(h:K (dB (decide (0<(aS s st).pipe.length/\(eA s st).left=0/\(aS s st).done.length<2))) H nx):afB vW [i,dI st] H nx K:=by
 refine aC.pure (args0:=[dA (bK s),dI st]) (R:=fun m=>m=dB (decide (0<(aS s st).pipe.length/\(eA s st).left=0/\(aS s st).done.length<2))) ?_ rfl (aK ⟨a,aF rfl,trivial⟩) (fun r hr=>hr▸h);clear h;refine aR.mk Tryz.func122 (by kernel_rfl) W0 rfl fun Q b=> ?_;unfold sI;have f:=hs.sl;obtain⟨v,j⟩: ∃v,s.bN.getD st default=v:=⟨_,rfl⟩
 have g:aS s st=v:=j;obtain⟨d,k⟩: ∃d,v.pipe.getD 0 default=d:=⟨_,rfl⟩
 have e:(0<(aS s st).pipe.length/\(eA s st).left=0/\(aS s st).done.length<2)↔(0<v.pipe.length/\d.left=0/\v.done.length<2):=by unfold eA;rw[g,k]
 repeat' first| (first|apply vI|refine Y6 (fun h=> ?_) fun h=> ?_)<;>(simp only[go_sem,f,j,k])|refine⟨by omega,?_⟩|fail
 all_goals first|exact aP b _ rfl rfl (nU (by rw[e];omega))|exact aP b _ rfl rfl (fX (by rw[e];omega))|exact aP b _ rfl rfl (l8 (by rw[e];omega))
theorem vS{c:Cfg}{s:CSt}{k:Nat}(i:bH c)(hs:COk c s)(l:k<3){d1:D}(a:CvD H (fun _=>True) id 0 (dA (bK s)) d1)(h:K (dB (decide ((aL s k).queue.length<2/\(aL s k).next<(c.cN.getD k default).length))) H nx):afB vC [dA (bI c),d1,dI k] H nx K:=by
 refine aC.pure (args0:=[dA (bI c),dA (bK s),dI k]) (R:=fun j=>j=dB (decide ((aL s k).queue.length<2/\(aL s k).next<(c.cN.getD k default).length))) ?_ rfl (aK ⟨aF rfl,a,aF rfl,trivial⟩) (fun r hr=>hr▸h);clear h;refine aR.mk Tryz.func125 (by kernel_rfl) XH rfl fun Q b=> ?_;unfold sE;have d:=hs.pl;have f:=(eW i).1;obtain⟨p,hp⟩: ∃p,s.bC.getD k default=p:=⟨_,rfl⟩
 have g:aL s k=p:=hp;have e:((aL s k).queue.length<2/\(aL s k).next<(c.cN.getD k default).length)↔(p.queue.length<2/\p.next<(c.cN.getD k default).length):=by rw[g]
 repeat' first| (first|apply vI|refine Y6 (fun h=> ?_) fun h=> ?_)<;>(simp only[go_sem,d,hp,f])|refine⟨by omega,?_⟩|fail
 all_goals first|exact aP b _ rfl rfl (nU (by rw[e];omega))|exact aP b _ rfl rfl (fX (by rw[e];omega))|exact aP b _ rfl rfl (l8 (by rw[e];omega))
end
end Go.Proofs.YtlncecohbakleaaGreat
