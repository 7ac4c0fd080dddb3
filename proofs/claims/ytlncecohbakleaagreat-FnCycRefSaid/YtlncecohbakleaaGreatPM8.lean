/- Rules and contracts. -/
import Derived.Test.YtlncecohbakleaaGreatPM4
import Derived.Test.YtlncecohbakleaaGreatPM5
set_option linter.unusedVariables false
set_option linter.unusedSimpArgs false
set_option maxRecDepth 100000
set_option maxHeartbeats 8000000
namespace Go.AM
variable{k:Nat}
theorem tj{α:Type}[Inhabited α]{l:List α}(h:k<l.length):l.Perm (l.getD k default::HU l k):=by
 have e:l=l.take k++l.getD k default::l.drop (k+1):=by
  have:l.getD k default=l[k]:=by simp[List.getD,h]
  rw[this,<-aeC h,aeL]
 conv=>lhs;rw[e]
 exact afA
theorem Qj{α:Type}{l:List α}:(HU l k).Sublist l:=by unfold HU;have h:=(List.Sublist.refl (l.take k)).append (agX l (Nat.le_succ k));rwa [aeL] at h
theorem fb{α:Type}[Inhabited α]{l:List α}(h:k<l.length):(HU l k).length+1=l.length:=by have:=(tj h).length_eq;simp at this;omega
theorem TB{α:Type}[Inhabited α]{p:α->Bool}{l:List α}(h:0<=bK p l):(bK p l).toNat<l.length/\p (l.getD (bK p l).toNat default)=true:=by
 have c:=S9 (p:=p) (l:=l);refine⟨by omega,?_⟩;unfold bK at*;split at h;·rename_i i hi;have:=afH.1 hi;obtain⟨a,b,_⟩:=this;simpa [List.getD,a] using b
 ·omega
variable{l:List gX}
theorem YN{n:Int}(h: ∃j∈l,j.n=n):(bK (isC n) l).toNat<l.length/\(l.getD (bK (isC n) l).toNat default).n=n:=by obtain⟨j,a,b⟩:=h;have c:0<=bK (isC n) l:=dU.2 ⟨j,a,by simp[isC,b]⟩;obtain⟨d,e⟩:=TB c;exact⟨d,by simpa [isC] using e⟩
theorem Qy{n:Int}(h: ∃j∈l,j.n=n):(SF l n).length+1=l.length:=fb (YN h).1
theorem Qb{n:Int}(h: ∃j∈l,j.n=n){x:gX}(a:x∈l)(b:x.n≠n):x∈SF l n:=by
 obtain⟨c,d⟩:=YN h;have:=(tj c).mem_iff.1 a;rcases adA.1 this with rfl|hm;·exact absurd d b
 ·exact hm
theorem du{n:Int}:(SF l n).Sublist l:=Qj
theorem eh{α:Type}[Inhabited α]{l:List α}{i:Nat}:(l.drop 1).getD i default=l.getD (i+1) default:=by
 cases l with
 |nil=>simp
 |cons x l=>simp
theorem tl{α:Type}[Inhabited α]{l:List α}{x:α}{i:Nat}:(l++[x]).getD i default=if i=l.length then x else l.getD i default:=by
 simp only[List.getD,adU];split;·rw[if_neg (by omega)]
 ·split;·rename_i h;subst h;simp
  ·rename_i a b;rw[afE (by simp;omega),afE (by omega)]
theorem Br(h:l.Pairwise fun a b=>a.n<b.n){a b:gX}(e:a∈l)(f:b∈l)(he:a.n=b.n):a=b:=by
 induction l with
 |nil=>simp at e
 |cons x l j=>
  rw[ad9] at h;rcases adA.1 e with g|i
  ·rcases adA.1 f with c|d;·rw[g,c]
   ·have:=h.1 b d;rw[g] at he;omega
  ·rcases adA.1 f with c|d;·have:=h.1 a i;rw[c] at he;omega
   ·exact j h.2 i d
variable{c:Cfg}{st:Nat}
theorem U7(a:bG c)(h:st<4):0<=c.lat.getD st default/\c.lat.getD st default<=3:=ZA a.2.2.1 (by have:=a.2.1;omega)
variable{s:CSt}
theorem COk.Ib(h:COk c s)(hs:st<4)(a:0<(aU s st).done.length): ∃j∈(aN s (nX s st).who.toNat).out,j.n=(nX s st).n/\j.left=st:=((h.slv st hs).out _ (jn (cC a))).2
theorem p9.EY{s':CSt}(h:p9 c s st)(he:aU s' st=aU s st)(e: ∀x∈gZ (aU s st),∀j∈(aN s x.1.toNat).out,j.n=x.2->j.left=st->j∈(aN s' x.1.toNat).out):p9 c s' st:=by refine⟨by rw[he];exact h.pl,by rw[he];exact h.dl,by rw[he];exact h.last,by rw[he];exact h.inc,fun x a=> ?_,by rw[he];exact h.rsp,by rw[he];exact h.left⟩;rw[he] at a;obtain⟨f,j,g,b,d⟩:=h.out x a;exact⟨f,j,e x a j g b d,b,d⟩
variable{who:Nat}{p:fF}
theorem iK.tell(h:iK c who p){n:Int}(hs:st<4):iK c who {p with out:=SF p.out n,last:=st}:=by have hm: ∀j∈SF p.out n,j∈p.out:=fun j d=>du.subset d;exact⟨h.next,h.ql,aeB du.length_le h.ol,by dsimp only;omega,h.queue,fun j d=>h.out j (hm j d),h.za.sublist du,fun a e b f=>h.Kn a (hm a e) b (hm b f)⟩
theorem iK.adm(h:iK c who p)(l:0<p.queue.length)(s:p.out.length<4)(m:iZ c.map (bF c who (p.queue.getD 0 default))=st)
 (k: ∀j∈p.out,(bF c who j.n).id=(bF c who (p.queue.getD 0 default)).id->j.left=st):iK c who {p with queue:=p.queue.drop 1,out:=p.out++[⟨who,p.queue.getD 0 default,st⟩]}:=by
 have o:=h.queue 0 l
 have q:=h.next
 have r:=h.ql
 have hl:(p.queue.drop 1).length=p.queue.length-1:=by simp
 refine⟨q,by dsimp only;omega,by simp;omega,h.last,fun i hi=> ?_,fun j f=> ?_,?_,fun a e b d g=> ?_⟩
 ·dsimp only at hi ⊢;rw[eh,h.queue (i+1) (by omega)];omega
 ·dsimp only at f ⊢;rcases adD.1 f with f|f;·have:=h.out j f;exact⟨this.1,by omega,this.2.2⟩
  ·simp only[adN] at f;subst f;exact⟨rfl,by dsimp only;omega,m.symm⟩
 ·dsimp only;rw[ae3];refine⟨h.za,by simp,fun a e b d=> ?_⟩;simp only[adN] at d;subst d;have:=(h.out a e).2.1;dsimp only;omega
 ·dsimp only at e d;rcases adD.1 e with e|e<;>rcases adD.1 d with d|d;·exact h.Kn a e b d g
  ·simp only[adN] at d;subst d;exact k a e g
  ·simp only[adN] at e;subst e;exact(k b d g.symm).symm
  ·simp only[adN] at e d;subst e;subst d;rfl
theorem iK.ask(h:iK c who p)(d:p.queue.length<2)(e:p.next<(c.cH.getD who default).length):iK c who {p with queue:=p.queue++[p.next],next:=p.next+1}:=by
 have f:=h.next;have a:=h.ql;refine⟨by dsimp only;omega,by simp;omega,h.ol,h.last,fun i hi=> ?_,fun j b=> ?_,h.za,h.Kn⟩
 ·simp only[ac7,List.length_singleton] at hi ⊢;rw[tl];split;·omega
  ·rw[h.queue i (by omega)];omega
 ·have:=h.out j b;refine⟨this.1,?_,this.2.2⟩;simp only[ac7,List.length_singleton];omega
variable{m:Mic}
theorem Tf(a:bG c)(h:COk c s)(b:UF c s m):kM c (dN (bS c s m)):=by
 rw[Ii a h b];have hw:=xi h b
 cases m with
 |tick st=>exact h.st
 |adm who st=>exact h.st
 |tell who st=>exact HD a h.st (hw ⟨3,who,(nX s st).n⟩ (adN.2 rfl))
 |work st=>exact HD a h.st (hw ⟨2,(eL s st).who,(eL s st).n⟩ (adN.2 rfl))
 |ask who=>exact HD a h.st (hw ⟨1,who,(aN s who).next⟩ (adN.2 rfl))
theorem zj:(bS c s m).bJ.length=s.bJ.length/\(bS c s m).bR.length=s.bR.length:=by cases m<;>simp[bS]
theorem Qo(h:COk c s)(b:UF c s m): ∀k,k<3->iK c k (aN (bS c s m) k):=by
 have i:=h.pl;intro k j;have hp:=h.port k j
 cases m with
 |tick st=>exact hp
 |work st=>exact hp
 |tell who st=>
  obtain⟨f,a,d,g⟩:=b;rw[cJ (s:=s) (s':=bS c s (.tell who st)) rfl (by omega)];split;·rename_i e;subst e;exact hp.tell a
  ·exact hp
 |adm who st=>
  obtain⟨f,a,d,g,l,n,o⟩:=b;rw[cJ (s:=s) (s':=bS c s (.adm who st)) rfl (by omega)];split;·rename_i e;subst e;exact hp.adm g l n o
  ·exact hp
 |ask who=>
  obtain⟨f,a,d⟩:=b;rw[cJ (s:=s) (s':=bS c s (.ask who)) rfl (by omega)];split;·rename_i e;subst e;exact hp.ask a d
  ·exact hp
theorem Xk(H:bG c)(h:COk c s)(y:UF c s m): ∀k,k<4->p9 c (bS c s m) k:=by
 have L:=h.pl;have M:=h.sl;intro k N;have f:=h.slv k N
 cases m with
 |ask who=>
  obtain⟨F,u,q⟩:=y;refine f.EY rfl fun x o j g _ _=> ?_;rw[cJ (s:=s) (s':=bS c s (.ask who)) rfl (by omega)];split;·rename_i e;rw[e] at g;exact g
  ·exact g
 |tick st=>
  obtain⟨u,q,z⟩:=y;have d:=dE (s:=s) (s':=bS c s (.tick st)) rfl (by omega:st<s.bR.length) k;by_cases e:k=st
  ·subst e;rw[if_pos rfl] at d;have O:=f.left 0 q
   have l:gZ (aU (bS c s (.tick k)) k)=gZ (aU s k):=by
    rw[d];unfold gZ;dsimp only;congr 1;conv=>rhs;rw[lQ q]
    conv=>lhs;rw[lQ q]
    rfl
   refine⟨by rw[d];simpa using f.pl,by rw[d];exact f.dl,by rw[d];exact f.last,by rw[l];exact f.inc,fun x o=> ?_,by rw[d];exact f.rsp,?_⟩;·rw[l] at o;exact f.out x o
   ·rw[d];simp only[adM];intro i hi;rw[FB q];split;·rename_i e;subst e;dsimp only;unfold eL;exact⟨by omega,fun hc=>absurd hc (by omega)⟩
    ·exact f.left i hi
  ·rw[if_neg e] at d;exact f.EY d fun x o j g _ _=>g
 |work st=>
  obtain⟨u,q,z,P⟩:=y;have d:=dE (s:=s) (s':=bS c s (.work st)) rfl (by omega:st<s.bR.length) k;by_cases e:k=st
  ·subst e;rw[if_pos rfl] at d
   have l:gZ (aU (bS c s (.work k)) k)=gZ (aU s k):=by
    rw[d];unfold gZ;dsimp only;conv=>rhs;rw[lQ q]
    simp[key,eL]
   have hm:((eL s k).who,(eL s k).n)∈gZ (aU s k):=VB (cC q);obtain⟨A,v,B⟩:=h.vIn u hm;dsimp only at A v B;refine⟨by rw[d];have:=f.pl;simp;omega,by rw[d];simp;omega,by rw[d];exact f.last,by rw[l];exact f.inc,fun x o=> ?_,?_,?_⟩;·rw[l] at o;exact f.out x o
   ·rw[d];intro j g;rcases adD.1 g with g|g;·exact f.rsp j g
    ·simp only[adN] at g;subst g;have hp:=h.port (eL s k).who.toNat (by omega);have C:kL c (eL s k).who (eL s k).n:=by have:=hp.asks (n:=(eL s k).n) (by omega) v (by have:=hp.ql;omega);have Q:(((eL s k).who.toNat:Nat):Int)=(eL s k).who:=(by omega);rwa [Q] at this
     exact Hr h.atm.wr (FE H C)
   ·rw[d];simp only[adL];intro i hi;rw[eh];have:=f.left (i+1) (by omega);rw[this.2 (by omega)];have:=U7 H u;exact⟨by omega,fun _=>rfl⟩
  ·rw[if_neg e] at d;exact f.EY d fun x o j g _ _=>g
 |adm who st=>
  obtain⟨F,u,q,z,P,Y,Z⟩:=y;have d:=dE (s:=s) (s':=bS c s (.adm who st)) rfl (by omega:st<s.bR.length) k;have G:=fun w=>cJ (s:=s) (s':=bS c s (.adm who st)) rfl (by omega:who<s.bJ.length) w
  have p: ∀w,∀j∈(aN s w).out,j∈(aN (bS c s (.adm who st)) w).out:=fun w j g=>by
   rw[G];split;·rename_i e;subst e;exact ad8 _ g
   ·exact g
  by_cases e:k=st
  ·subst e;rw[if_pos rfl] at d;have l:gZ (aU (bS c s (.adm who k)) k)=gZ (aU s k)++[((who:Int),(aN s who).queue.getD 0 default)]:=(by rw[d];unfold gZ;simp);have R:=(h.port who F).queue 0 z;refine⟨by rw[d];simp;omega,by rw[d];exact f.dl,by rw[d];dsimp only;omega,?_,fun x o=> ?_,by rw[d];exact f.rsp,?_⟩;·rw[l,ae3];refine⟨f.inc,by simp,fun a S b D I=> ?_⟩;simp only[adN] at D;subst D;dsimp only at I ⊢;have:=(h.vIn u S).2.2;have e:a.1.toNat=who:=(by omega);rw[e] at this;omega
   ·rw[l] at o;rcases adD.1 o with o|o;·obtain⟨A,j,v,B⟩:=f.out x o;exact⟨A,j,p _ j v,B⟩
    ·simp only[adN] at o;subst o;refine⟨by dsimp only;omega,⟨who,(aN s who).queue.getD 0 default,k⟩,?_,rfl,rfl⟩;rw[G,if_pos (by simp)];simp
   ·rw[d];simp only[ac7,List.length_singleton];intro i hi;rw[tl];have:=U7 H u;split;·exact⟨by dsimp only;omega,fun _=>rfl⟩
    ·exact f.left i (by omega)
  ·rw[if_neg e] at d;exact f.EY d fun x o j g _ _=>p _ j g
 |tell who st=>
  obtain⟨F,u,q,z⟩:=y;have T:(nX s st).who=who:=z;have d:=dE (s:=s) (s':=bS c s (.tell who st)) rfl (by omega:st<s.bR.length) k;have G:=fun w=>cJ (s:=s) (s':=bS c s (.tell who st)) rfl (by omega:who<s.bJ.length) w;obtain⟨K,J,U,g3⟩:=h.Ib u q;have V:(nX s st).who.toNat=who:=by omega
  rw[V] at J;have hex: ∃j∈(aN s who).out,j.n=(nX s st).n:=⟨K,J,U⟩
  have p: ∀w,∀j∈(aN s w).out,(w=who->j.n≠(nX s st).n)->j∈(aN (bS c s (.tell who st)) w).out:=fun w j g E=>by
   rw[G];split;·rename_i e;subst e;exact Qb hex g (E rfl)
   ·exact g
  have r:gZ (aU s st)=key (nX s st)::(((aU s st).done.drop 1).map key++(aU s st).pipe.map fun j=>(j.who,j.n)):=by
   unfold gZ;conv=>lhs;rw[lQ q]
   rfl
  by_cases e:k=st
  ·subst e;rw[if_pos rfl] at d;have l:gZ (aU (bS c s (.tell who k)) k)=((aU s k).done.drop 1).map key++(aU s k).pipe.map fun j=>(j.who,j.n):=by rw[d];rfl
   have t:=f.inc;rw[r,ad9] at t;refine⟨by rw[d];exact f.pl,by rw[d];have:=f.dl;simp;omega,by rw[d];exact f.last,by rw[l];exact t.2,fun x o=> ?_,?_,by rw[d];exact f.left⟩;·rw[l] at o;obtain⟨A,j,v,B,W⟩:=f.out x (by rw[r];exact ad7 _ o);refine⟨A,j,p _ j v fun he X=> ?_,B,W⟩;have:=t.1 x o (by simp only[key];omega);simp only[key] at this;omega
   ·rw[d];exact fun j g=>f.rsp j (agL g)
  ·rw[if_neg e] at d;refine f.EY d fun x o j g X hl=>p _ j g fun he E=> ?_;subst he;have hp:=h.port x.1.toNat F;have hu:K=j:=(by exact Br hp.za J g (by omega));subst hu;omega
theorem zr{f g:Nat->Nat}(h:who<3)(a: ∀i,i≠who->f i=g i):f 0+f 1+f 2+g who=g 0+g 1+g 2+f who:=by
 have:who=0\/who=1\/who=2:=by omega
 rcases this with rfl|rfl|rfl;·have:=a 1 (by omega);have:=a 2 (by omega);omega
 ·have:=a 0 (by omega);have:=a 2 (by omega);omega
 ·have:=a 0 (by omega);have:=a 1 (by omega);omega
theorem Bs{f g:Nat->Nat}(h:st<4)(a: ∀i,i≠st->f i=g i):f 0+f 1+f 2+f 3+g st=g 0+g 1+g 2+g 3+f st:=by
 have:st=0\/st=1\/st=2\/st=3:=by omega
 rcases this with rfl|rfl|rfl|rfl;·have:=a 1 (by omega);have:=a 2 (by omega);have:=a 3 (by omega);omega
 ·have:=a 0 (by omega);have:=a 2 (by omega);have:=a 3 (by omega);omega
 ·have:=a 0 (by omega);have:=a 1 (by omega);have:=a 3 (by omega);omega
 ·have:=a 0 (by omega);have:=a 1 (by omega);have:=a 2 (by omega);omega
theorem Lw(h:COk c s)(j:UF c s m):(aN (bS c s m) 0).out.length+(aN (bS c s m) 1).out.length+(aN (bS c s m) 2).out.length=lM (bS c s m) 0+lM (bS c s m) 1+lM (bS c s m) 2+lM (bS c s m) 3:=by
 have q:=h.pl;have r:=h.sl;have hc:=h.count
 cases m with
 |ask who=>
  obtain⟨n,b,l⟩:=j;have d:=fun w=>cJ (s:=s) (s':=bS c s (.ask who)) rfl (by omega:who<s.bJ.length) w
  have: ∀w,(aN (bS c s (.ask who)) w).out=(aN s w).out:=fun w=>by
   rw[d];split;·rename_i e;subst e;rfl
   ·rfl
  rw[this,this,this];exact hc
 |tick st=>
  obtain⟨b,l,o⟩:=j;have a:=fun k=>dE (s:=s) (s':=bS c s (.tick st)) rfl (by omega:st<s.bR.length) k
  have: ∀k,lM (bS c s (.tick st)) k=lM s k:=fun k=>by
   unfold lM;rw[a];split;·rename_i e;subst e;simp
   ·rfl
  rw[this,this,this,this];exact hc
 |work st=>
  obtain⟨b,l,o,C⟩:=j;have a:=fun k=>dE (s:=s) (s':=bS c s (.work st)) rfl (by omega:st<s.bR.length) k
  have: ∀k,lM (bS c s (.work st)) k=lM s k:=fun k=>by
   unfold lM;rw[a];split;·rename_i e;subst e;simp;omega
   ·rfl
  rw[this,this,this,this];exact hc
 |adm who st=>
  obtain⟨n,b,l,o⟩:=j;have a:=fun k=>dE (s:=s) (s':=bS c s (.adm who st)) rfl (by omega:st<s.bR.length) k;have d:=fun w=>cJ (s:=s) (s':=bS c s (.adm who st)) rfl (by omega:who<s.bJ.length) w;have t:=zr (f:=fun w=>(aN (bS c s (.adm who st)) w).out.length) (g:=fun w=>(aN s w).out.length) n fun i hi=>by rw[d,if_neg hi]
  have u:=Bs (f:=lM (bS c s (.adm who st))) (g:=lM s) b fun i hi=>by unfold lM;rw[a,if_neg hi]
  have v:(aN (bS c s (.adm who st)) who).out.length=(aN s who).out.length+1:=by rw[d,if_pos rfl];simp
  have x:lM (bS c s (.adm who st)) st=lM s st+1:=by unfold lM;rw[a,if_pos rfl];simp;omega
  omega
 |tell who st=>
  obtain⟨n,b,l,o⟩:=j;have y:(nX s st).who=who:=o;have a:=fun k=>dE (s:=s) (s':=bS c s (.tell who st)) rfl (by omega:st<s.bR.length) k;have d:=fun w=>cJ (s:=s) (s':=bS c s (.tell who st)) rfl (by omega:who<s.bJ.length) w;obtain⟨z,p,A,D⟩:=h.Ib b l;have B:(nX s st).who.toNat=who:=by omega
  rw[B] at p;have t:=zr (f:=fun w=>(aN (bS c s (.tell who st)) w).out.length) (g:=fun w=>(aN s w).out.length) n fun i hi=>by rw[d,if_neg hi]
  have u:=Bs (f:=lM (bS c s (.tell who st))) (g:=lM s) b fun i hi=>by unfold lM;rw[a,if_neg hi]
  have v:(aN (bS c s (.tell who st)) who).out.length+1=(aN s who).out.length:=by rw[d,if_pos rfl];exact Qy ⟨z,p,A⟩
  have x:lM (bS c s (.tell who st)) st+1=lM s st:=by unfold lM;rw[a,if_pos rfl];simp;omega
  omega
theorem CW(b:bG c)(h:COk c s)(a:UF c s m):COk c (bS c s m):=⟨(Tf b h a).atm,by rw[zj.1];exact h.pl,by rw[zj.2];exact h.sl,Qo h a,Xk b h a,Lw h a,Tf b h a⟩
def HC(c:Cfg):CSt->List Mic->Prop
 |_,[]=>True
 |s,m::l=>UF c s m/\HC c (bS c s m) l
def l6(c:Cfg)(s:CSt)(l:List Mic):CSt:=l.foldl (bS c) s
def iE(c:Cfg):CSt->List Mic->List Ev
 |_,[]=>[]
 |s,m::l=>CZ s m++iE c (bS c s m) l
theorem zR{a b:List Mic}:l6 c s (a++b)=l6 c (l6 c s a) b:=by simp[l6]
theorem O8{c:Cfg}: ∀{a b:List Mic} {s:CSt},HC c s (a++b)↔HC c s a/\HC c (l6 c s a) b
 | [],b,s=>by simp[HC,l6]
 |m::a,b,s=>by have:=O8 (c:=c) (a:=a) (b:=b) (s:=bS c s m);simp only[List.cons_append,HC,this,and_assoc];rfl
theorem O3{c:Cfg}: ∀{a b:List Mic} {s:CSt},iE c s (a++b)=iE c s a++iE c (l6 c s a) b
 | [],b,s=>by simp[iE,l6]
 |m::a,b,s=>by have:=O3 (c:=c) (a:=a) (b:=b) (s:=bS c s m);simp only[List.cons_append,iE,this,adH];rfl
theorem J7{c:Cfg}(a:bG c): ∀{l:List Mic} {s:CSt},COk c s->HC c s l->COk c (l6 c s l)/\dN (l6 c s l)=runM c (dN s) (iE c s l)/\JQ c (dN s) (iE c s l)
 | [],s,h,_=>⟨h,rfl,rB⟩
 |m::l,s,h,e=>by
  obtain⟨b,f⟩:=e;obtain⟨g,i,j⟩:=J7 a (l:=l) (CW a h b) f;have d:=Ii a h b;refine⟨g,?_,?_⟩;·show dN (l6 c (bS c s m) l)=_;rw[i,d];show _=runM c (dN s) (CZ s m++iE c (bS c s m) l);rw[Sm]
  ·show JQ c (dN s) (CZ s m++iE c (bS c s m) l);rw[Nr];refine⟨?_,by rw[<-d];exact j⟩;have hw:=xi h b
   cases m with
   |tick st=>exact rB
   |adm who st=>exact rB
   |tell who st=>exact uN.2 ⟨hw ⟨3,who,(nX s st).n⟩ (adN.2 rfl),rB⟩
   |work st=>exact uN.2 ⟨hw ⟨2,(eL s st).who,(eL s st).n⟩ (adN.2 rfl),rB⟩
   |ask who=>exact uN.2 ⟨hw ⟨1,who,(aN s who).next⟩ (adN.2 rfl),rB⟩
def IH(s:CSt)(who k:Nat):Nat:=(((aN s who).last+(k:Int))%4).toNat
def ud(s:CSt)(who st:Nat):Bool:=decide (0<(aU s st).done.length/\((aU s st).done.getD 0 default).who=who)
def pY(i:CIn)(s:CSt)(who:Nat):Option Mic:=if i.ready.getD who default=true then (([1,2,3,4].map (IH s who)).find? (ud s who)).map (.tell who) else none
def mQ(i:CIn)(s:CSt)(st:Nat):Option Mic:=if i.nO.getD st default=true\/(aU s st).pipe.length=0 then none else if 0<(eL s st).left then some (.tick st) else if (aU s st).done.length<2 then some (.work st) else none
def I5(s:CSt)(st k:Nat):Nat:=(((aU s st).last+(k:Int))%3).toNat
def N8(c:Cfg)(s:CSt)(used:List Bool)(st who:Nat):Bool:= !(used.getD who default)&&decide (NU c s who st)
def SK(c:Cfg)(s:CSt)(used:List Bool)(st:Nat):Option Nat:=if (aU s st).pipe.length<2 then ([1,2,3].map (I5 s st)).find? (N8 c s used st) else none
def NH(c:Cfg)(i:CIn)(s:CSt)(who:Nat):Option Mic:=if i.send.getD who default=true/\(aN s who).queue.length<2/\(aN s who).next<(c.cH.getD who default).length then some (.ask who) else none
def TO(c:Cfg)(s:CSt):Option Mic->CSt
 |none=>s
 |some m=>bS c s m
def ET(c:Cfg)(f:CSt->Nat->Option Mic):CSt->List Nat->List Mic
 |_,[]=>[]
 |s,k::l=>match f s k with
  |none=>ET c f s l
  |some m=>m::ET c f (bS c s m) l
def af(c:Cfg):CSt->List Bool->List Nat->List Mic
 |_,_,[]=>[]
 |s,u,st::l=>match SK c s u st with
  |none=>af c s u l
  |some who=>.adm who st::af c (bS c s (.adm who st)) (u.set who true) l
def N2(c:Cfg)(i:CIn)(s:CSt):List Mic:=ET c (pY i) s [0,1,2]
def GY(c:Cfg)(i:CIn)(s:CSt):List Mic:=ET c (mQ i) s [0,1,2,3]
def Cg(c:Cfg)(s:CSt):List Mic:=af c s [false,false,false] [0,1,2,3]
def XG(c:Cfg)(i:CIn)(s:CSt):List Mic:=ET c (NH c i) s [0,1,2]
def F9(c:Cfg)(i:CIn)(s:CSt):CSt:=l6 c s (N2 c i s)
def OA(c:Cfg)(i:CIn)(s:CSt):CSt:=l6 c (F9 c i s) (GY c i (F9 c i s))
def KX(c:Cfg)(i:CIn)(s:CSt):CSt:=l6 c (OA c i s) (Cg c (OA c i s))
def L4(c:Cfg)(i:CIn)(s:CSt):CSt:=l6 c (KX c i s) (XG c i (KX c i s))
def Mw(c:Cfg)(i:CIn)(s:CSt):List Mic:=N2 c i s++GY c i (F9 c i s)++Cg c (OA c i s)++XG c i (KX c i s)
def WL(c:Cfg)(i:CIn)(s:CSt):List Ev:=iE c s (Mw c i s)
variable{i:CIn}
theorem Ig:L4 c i s=l6 c s (Mw c i s):=by unfold Mw L4 KX OA F9;simp only[zR]
theorem TY{c:Cfg}(a:bG c){f:CSt->Nat->Option Mic}: ∀{l:List Nat} {s:CSt},COk c s->(∀s k m,COk c s->k∈l->f s k=some m->UF c s m)->HC c s (ET c f s l)
 | [],s,_,_=>trivial
 |k::l,s,h,b=>by
  unfold ET;split;·exact TY a h fun s k m hs d hm=>b s k m hs (ad7 _ d) hm
  ·rename_i m hm;have e:=b s k m h (by simp) hm;exact⟨e,TY a (CW a h e) fun s k m hs d hm=>b s k m hs (ad7 _ d) hm⟩
theorem JU(_:COk c s)(hw:who<3)(hm:pY i s who=some m):UF c s m:=by
 unfold pY at hm;split at hm;·rw[adC] at hm;obtain⟨st,a,rfl⟩:=hm;have b:=List.find?_some a;have d:=agZ a;obtain⟨k,_,rfl⟩:=ac9.1 d;obtain⟨e,f⟩:=of_decide_eq_true b;exact⟨hw,by unfold IH;omega,e,f⟩
 ·cases hm
theorem I9(_:COk c s)(hw:st<4)(hm:mQ i s st=some m):UF c s m:=by
 unfold mQ at hm;split at hm;·cases hm
 ·rename_i d;split at hm;·rename_i a;cases hm;exact⟨hw,by omega,a⟩
  ·rename_i a;split at hm;·rename_i b;cases hm;exact⟨hw,by omega,a,b⟩
   ·cases hm
variable{u:List Bool}
theorem yz(hs:st<4)(hm:SK c s u st=some who):UF c s (.adm who st):=by
 unfold SK at hm;split at hm;·rename_i b;have a:=List.find?_some hm;have d:=agZ hm;obtain⟨k,_,rfl⟩:=ac9.1 d;unfold N8 at a;rw[ad3] at a;exact⟨by unfold I5;omega,hs,b,of_decide_eq_true a.2⟩
 ·cases hm
theorem vr(_:COk c s)(hw:who<3)(hm:NH c i s who=some m):UF c s m:=by
 unfold NH at hm;split at hm;·rename_i h;cases hm;exact⟨hw,h.2.1,h.2.2⟩
 ·cases hm
theorem wh{c:Cfg}(a:bG c): ∀{l:List Nat} {s:CSt} {u:List Bool},COk c s->(∀k∈l,k<4)->HC c s (af c s u l)
 | [],s,u,_,_=>trivial
 |k::l,s,u,h,hl=>by
  unfold af;split;·exact wh a h fun k b=>hl k (ad7 _ b)
  ·rename_i who hm;have d:=yz (hl k (by simp)) hm;exact⟨d,wh a (CW a h d) fun k b=>hl k (ad7 _ b)⟩
theorem SB(h:k∈[0,1,2]):k<3:=by simp at h;omega
theorem kd(h:k∈[0,1,2,3]):k<4:=by simp at h;omega
theorem Cc(a:bG c)(h:COk c s):HC c s (N2 c i s):=TY a h fun s k m hs b hm=>JU hs (SB b) hm
theorem Ac(a:bG c)(h:COk c s):HC c s (GY c i s):=TY a h fun s k m hs b hm=>I9 hs (kd b) hm
theorem Ih(a:bG c)(h:COk c s):HC c s (Cg c s):=wh a h fun k b=>kd b
theorem Vb(a:bG c)(h:COk c s):HC c s (XG c i s):=TY a h fun s k m hs b hm=>vr hs (SB b) hm
theorem YP(a:bG c)(h:COk c s):COk c (F9 c i s):=(J7 a h (Cc a h)).1
theorem YY(a:bG c)(h:COk c s):COk c (OA c i s):=(J7 a (YP a h) (Ac a (YP a h))).1
theorem Ie(a:bG c)(h:COk c s):COk c (KX c i s):=(J7 a (YY a h) (Ih a (YY a h))).1
theorem xz(a:bG c)(h:COk c s):HC c s (Mw c i s):=by
 unfold Mw;rw[O8,O8,O8];refine⟨⟨⟨Cc a h,Ac a (YP a h)⟩,?_⟩,?_⟩;·rw[zR];exact Ih a (YY a h)
 ·rw[zR,zR];exact Vb a (Ie a h)
theorem wz(a:bG c)(h:COk c s):COk c (L4 c i s):=by rw[Ig];exact(J7 a h (xz a h)).1
theorem Wo(a:bG c)(h:COk c s):dN (L4 c i s)=runM c (dN s) (WL c i s):=by rw[Ig];exact(J7 a h (xz a h)).2.1
theorem Ky(a:bG c)(h:COk c s):JQ c (dN s) (WL c i s):=(J7 a h (xz a h)).2.2
def SJ:CSt:=⟨List.replicate 64 0,List.replicate 6 (-1),List.replicate 3 ⟨0,[],[],3⟩,List.replicate 4 ⟨[],[],2⟩,[]⟩
theorem Pk:dN SJ=st0:=by rfl
theorem uz(a:k<3):aN SJ k=⟨0,[],[],3⟩:=by
 have:k=0\/k=1\/k=2:=by omega
 rcases this with rfl|rfl|rfl<;>rfl
theorem Ba(a:k<4):aU SJ k=⟨[],[],2⟩:=by
 have:k=0\/k=1\/k=2\/k=3:=by omega
 rcases this with rfl|rfl|rfl|rfl<;>rfl
theorem Xl(c:Cfg):COk c SJ:=by
 have b:kM c (dN SJ):=by rw[Pk];exact Yn c
 refine⟨b.atm,rfl,rfl,fun k d=> ?_,fun k d=> ?_,rfl,b⟩;·rw[uz d];exact⟨by simp,by simp,by simp,by decide,fun i hi=>by simp at hi,fun j e=>by simp at e,List.Pairwise.nil,fun a f=>by simp at f⟩
 ·refine⟨?_,?_,?_,?_,?_,?_,?_⟩<;>rw[Ba d];·simp
  ·simp
  ·decide
  ·exact List.Pairwise.nil
  ·intro x g;simp[gZ] at g
  ·intro j e;simp at e
  ·intro i hi;simp at hi
def eCJ(j:gX):List D1:=[cI j.who,cI j.n,cI j.left]
variable{j:gX}
theorem Xc:(eCJ j).length=3:=rfl
theorem My:(eCJ j).take 1=[cI j.who]:=rfl
theorem Nk:(eCJ j).drop 1=[cI j.n,cI j.left]:=rfl
theorem Mg:(eCJ j).take 2=[cI j.who,cI j.n]:=rfl
theorem Me:(eCJ j).drop 2=[cI j.left]:=rfl
theorem Mm:(eCJ j).take 3=eCJ j:=rfl
theorem Mr:(eCJ j).drop 3=[]:=rfl
variable{cs:List D1}
theorem Rk:kD cs (k+1) (eCJ j)=kD cs (k+1) [cI j.who,cI j.n,cI j.left]:=rfl
theorem DL(j:gX):(eCJ j).length=3/\(eCJ j).all D1.eW=true:=⟨rfl,rfl⟩
attribute [go_sem] Xc My Nk Mg Me Mm Mr Rk
def dK(p:fF):List D1:=[cI p.next,.isl (p.queue.map aF),.isl (p.out.map eCJ),cI p.last]
theorem Kg:(dK p).length=4:=rfl
theorem Az:(dK p).take 1=[cI p.next]:=rfl
theorem Ak:(dK p).drop 1=[.isl (p.queue.map aF),.isl (p.out.map eCJ),cI p.last]:=rfl
theorem zw:(dK p).take 2=[cI p.next,.isl (p.queue.map aF)]:=rfl
theorem zg:(dK p).drop 2=[.isl (p.out.map eCJ),cI p.last]:=rfl
theorem Aa:(dK p).take 3=[cI p.next,.isl (p.queue.map aF),.isl (p.out.map eCJ)]:=rfl
theorem As:(dK p).drop 3=[cI p.last]:=rfl
theorem Ae:(dK p).take 4=dK p:=rfl
theorem Bl:(dK p).drop 4=[]:=rfl
theorem Hk:kD cs (k+1) (dK p)=kD cs (k+1) [cI p.next,.isl (p.queue.map aF),.isl (p.out.map eCJ),cI p.last]:=rfl
theorem JI(p:fF):(dK p).length=4/\(dK p).all D1.eW=true:=⟨rfl,rfl⟩
attribute [go_sem] Kg Az Ak zw zg Aa As Ae Bl Hk
def jF(v:uM):List D1:=[.isl (v.pipe.map eCJ),.isl (v.done.map aL),cI v.last]
variable{v:uM}
theorem Pg:(jF v).length=3:=rfl
theorem Dw:(jF v).take 1=[.isl (v.pipe.map eCJ)]:=rfl
theorem Dr:(jF v).drop 1=[.isl (v.done.map aL),cI v.last]:=rfl
theorem Fl:(jF v).take 2=[.isl (v.pipe.map eCJ),.isl (v.done.map aL)]:=rfl
theorem Dz:(jF v).drop 2=[cI v.last]:=rfl
theorem Gu:(jF v).take 3=jF v:=rfl
theorem He:(jF v).drop 3=[]:=rfl
theorem Kq:kD cs (k+1) (jF v)=kD cs (k+1) [.isl (v.pipe.map eCJ),.isl (v.done.map aL),cI v.last]:=rfl
theorem OY(v:uM):(jF v).length=3/\(jF v).all D1.eW=true:=⟨rfl,rfl⟩
attribute [go_sem] Pg Dw Dr Fl Dz Gu He Kq
def dX(s:CSt):List D1:=[.isl (s.words.map aF),.isl (s.holds.map aF),.isl (s.bJ.map dK),.isl (s.bR.map jF),.isl (s.told.map aL)]
theorem Ph:(dX s).length=5:=rfl
theorem Cl:(dX s).take 1=[.isl (s.words.map aF)]:=rfl
theorem Fu:(dX s).drop 1=[.isl (s.holds.map aF),.isl (s.bJ.map dK),.isl (s.bR.map jF),.isl (s.told.map aL)]:=rfl
theorem Fs:(dX s).take 2=[.isl (s.words.map aF),.isl (s.holds.map aF)]:=rfl
theorem Gj:(dX s).drop 2=[.isl (s.bJ.map dK),.isl (s.bR.map jF),.isl (s.told.map aL)]:=rfl
theorem Gc:(dX s).take 3=[.isl (s.words.map aF),.isl (s.holds.map aF),.isl (s.bJ.map dK)]:=rfl
theorem Gz:(dX s).drop 3=[.isl (s.bR.map jF),.isl (s.told.map aL)]:=rfl
theorem Ek:(dX s).take 4=[.isl (s.words.map aF),.isl (s.holds.map aF),.isl (s.bJ.map dK),.isl (s.bR.map jF)]:=rfl
theorem Hc:(dX s).drop 4=[.isl (s.told.map aL)]:=rfl
theorem Dt:(dX s).take 5=dX s:=rfl
theorem Gq:(dX s).drop 5=[]:=rfl
theorem Ld:kD cs (k+1) (dX s)=kD cs (k+1) [.isl (s.words.map aF),.isl (s.holds.map aF),.isl (s.bJ.map dK),.isl (s.bR.map jF),.isl (s.told.map aL)]:=rfl
attribute [go_sem] Ph Cl Fu Fs Gj Gc Gz Ek Hc Dt Gq Ld
def gE(b:Bool):List D1:=[cB b]
theorem Nb{b:Bool}:(gE b).length=1:=rfl
theorem Af{b:Bool}:(gE b).take 1=[cB b]:=rfl
theorem Be{b:Bool}:(gE b).drop 1=[]:=rfl
theorem Dc{b:Bool}:kD cs (k+1) (gE b)=kD cs (k+1) [cB b]:=rfl
theorem im(b:Bool):(gE b).length=1/\(gE b).all D1.eW=true:=⟨rfl,rfl⟩
attribute [go_sem] Nb Af Be Dc
def eIn(i:CIn):List D1:=[.isl (i.ready.map gE),.isl (i.nO.map gE),.isl (i.send.map gE)]
theorem Ty:(eIn i).length=3:=rfl
theorem Nc:(eIn i).take 1=[.isl (i.ready.map gE)]:=rfl
theorem Ma:(eIn i).drop 1=[.isl (i.nO.map gE),.isl (i.send.map gE)]:=rfl
theorem Lk:(eIn i).take 2=[.isl (i.ready.map gE),.isl (i.nO.map gE)]:=rfl
theorem Ki:(eIn i).drop 2=[.isl (i.send.map gE)]:=rfl
theorem Lp:(eIn i).take 3=eIn i:=rfl
theorem Ku:(eIn i).drop 3=[]:=rfl
theorem Sv:kD cs (k+1) (eIn i)=kD cs (k+1) [.isl (i.ready.map gE),.isl (i.nO.map gE),.isl (i.send.map gE)]:=rfl
theorem Zp(i:CIn):(eIn i).length=3/\(eIn i).all D1.eW=true:=⟨rfl,rfl⟩
attribute [go_sem] Ty Nc Ma Lk Ki Lp Ku Sv
structure mI(H:aA)(n id off len cap:Nat)(R:List (List D1)):Prop where
 ex: ∃m rows,H id=some ⟨n,m,rows⟩/\rows.drop off=R/\off+len<=rows.length/\len=R.length/\len<=cap/\off+cap<=m
def WZ(a no:Nat)(p:fF)(b c d:Nat):List D1:=[cI p.next,.osl 1 a b p.queue.length c,.osl 3 no 0 p.out.length d,cI p.last]
def lz(a b:Nat)(v:uM)(c d do_ e:Nat):List D1:=[.osl 3 a c v.pipe.length d,.osl 5 b do_ v.done.length e,cI v.last]
structure zK(H:aA)(nq no:Nat)(p:fF)(r:List D1):Prop where
 ex: ∃qo qc oc,r=WZ nq no p qo qc oc/\mI H 1 nq qo p.queue.length qc (p.queue.map aF)/\mI H 3 no 0 p.out.length oc (p.out.map eCJ)
structure I1(H:aA)(np nd:Nat)(v:uM)(r:List D1):Prop where
 ex: ∃po pc do_ dc,r=lz np nd v po pc do_ dc/\mI H 3 np po v.pipe.length pc (v.pipe.map eCJ)/\mI H 5 nd do_ v.done.length dc (v.done.map aL)
def I6(nm:Nat->Nat)(s:CSt)(wc hc a vc b:Nat):List D1:=[.osl 1 (nm 0) 0 s.words.length wc,.osl 1 (nm 1) 0 s.holds.length hc,.osl 4 (nm 2) 0 3 a,.osl 3 (nm 3) 0 4 vc,.osl 5 (nm 4) 0 s.told.length b]
structure CM(H:aA)(nm:Nat->Nat)(s:CSt)(cells:List D1):Prop where
 ex: ∃wc hc pc vc tc,cells=I6 nm s wc hc pc vc tc/\mI H 1 (nm 0) 0 s.words.length wc (s.words.map aF)/\mI H 1 (nm 1) 0 s.holds.length hc (s.holds.map aF)/\mI H 5 (nm 4) 0 s.told.length tc (s.told.map aL)/\
  3<=pc/\4<=vc
 bJ: ∃m rows,H (nm 2)=some ⟨4,m,rows⟩/\rows.length=3/\ ∀k,k<3->∃r,rows[k]?=some r/\zK H (nm (5+k)) (nm (8+k)) (aN s k) r
 bR: ∃m rows,H (nm 3)=some ⟨3,m,rows⟩/\rows.length=4/\ ∀k,k<4->∃r,rows[k]?=some r/\I1 H (nm (11+k)) (nm (15+k)) (aU s k) r
structure Names(X:Nat->Prop)(nx:Nat)(nm:Nat->Nat):Prop where
 inj: ∀j k,j<19->k<19->nm j=nm k->j=k
 lt: ∀k,k<19->nm k<nx
 av: ∀k,k<19->¬X (nm k)
structure Rep(X:Nat->Prop)(H:aA)(nx i0:Nat)(nm:Nat->Nat)(s:CSt):Prop where
 st: ∃cells,H i0=some ⟨5,1,[cells]⟩/\CM H nm s cells
 names:Names X nx nm
 ne: ∀k,k<19->nm k≠i0
 i0:i0<nx/\ ¬X i0
 x: ∀id,X id->id<nx
def Ye(Y:Nat->Prop)(H:aA)(nx i1:Nat)(es:List Ev)(d:D1):Prop:=(es=[]/\d= .osl 0 0 0 0 0)\/ ∃ev cap,d= .osl 3 ev 0 es.length cap/\mI H 3 ev 0 es.length cap (es.map eEv)/\ev<nx/\ ¬Y ev/\ev≠i1
structure Kj(Y:Nat->Prop)(H:aA)(nx i1:Nat)(es:List Ev):Prop where
 ex: ∃d a b c e,H i1=some ⟨5,1,[[d,cI a,cI b,cI c,cI e]]⟩/\Ye Y H nx i1 es d
 i1:i1<nx/\ ¬Y i1
 y: ∀id,Y id->id<nx
variable{H:aA}
theorem aA.aB{a i:Nat}{o:bN}(h:i≠a):H.set a o i=H i:=if_neg h
theorem aA.aJ{a:Nat}{o:bN}:H.set a o a=some o:=if_pos rfl
theorem aA.cL{a i:Nat}(h:i≠a):H.del a i=H i:=if_neg h
def bM(x:Nat):List Nat->Prop
 | []=>True
 |y::l=>((x=y)=False/\(y=x)=False)/\bM x l
def aT(nx:Nat):List Nat->Prop
 | []=>True
 |x::l=>((∀k,(x=nx+k)=False)/\(∀k,(nx+k=x)=False)/\(x=nx)=False/\(nx=x)=False)/\bM x l/\aT nx l
theorem Yh{x:Nat}: ∀{l:List Nat},x∉l->bM x l
 | [],_=>trivial
 |y::l,h=>by rw[adA,not_or] at h;exact⟨⟨eq_false h.1,eq_false (Ne.symm h.1)⟩,Yh h.2⟩
theorem apart{nx:Nat}: ∀{l:List Nat},l.Nodup->(∀x∈l,x<nx)->aT nx l
 | [],_,_=>trivial
 |x::l,h,hl=>by rw[aeA] at h;have b:=hl x (by simp);exact⟨⟨fun k=>eq_false (by omega),fun k=>eq_false (by omega),eq_false (by omega),eq_false (by omega)⟩,Yh h.1,apart h.2 fun y a=>hl y (ad7 _ a)⟩
theorem Names.list{X:Nat->Prop}{nx:Nat}{nm:Nat->Nat}(h:Names X nx nm): ∀{l:List Nat},l.Nodup->(∀k∈l,k<19)->(l.map nm).Nodup
 | [],_,_=>List.Pairwise.nil
 |k::l,b,hl=>by rw[aeA] at b;rw[adG,aeA];refine⟨fun hm=> ?_,h.list b.2 fun j a=>hl j (ad7 _ a)⟩;obtain⟨j,a,he⟩:=ac9.1 hm;exact b.1 (h.inj j k (hl j (ad7 _ a)) (hl k (by simp)) he▸a)
theorem Rep.apart{X:Nat->Prop}{H:aA}{nx nx' i0:Nat}{nm:Nat->Nat}{s:CSt}(h:Rep X H nx i0 nm s)(ext l:List Nat)(c:nx<=nx')(he:ext.Nodup)(d: ∀x∈ext,X x)(m:l.Nodup)(hl: ∀k∈l,k<19):aT nx' (ext++i0::l.map nm):=by
 refine AM.apart (aeM.2 ⟨he,aeA.2 ⟨fun hm=> ?_,h.names.list m hl⟩,fun a i b f g=> ?_⟩) fun x c=> ?_;·obtain⟨j,e,he⟩:=ac9.1 hm;exact h.ne j (hl j e) he
 ·subst g;rcases adA.1 f with rfl|f;·exact h.i0.2 (d _ i)
  ·obtain⟨j,e,rfl⟩:=ac9.1 f;exact h.names.av j (hl j e) (d _ i)
 ·rcases adD.1 c with c|c;·have:=h.x x (d x c);omega
  ·rcases adA.1 c with rfl|c;·have:=h.i0.1;omega
   ·obtain⟨j,e,rfl⟩:=ac9.1 c;have:=h.names.lt j (hl j e);omega
theorem mI.frame{H H':aA}{n id off len cap:Nat}{R:List (List D1)}(h:mI H n id off len cap R)(he:H' id=H id):mI H' n id off len cap R:=by obtain⟨m,rows,a,b⟩:=h.ex;exact⟨m,rows,by rw[he,a],b⟩
theorem zK.frame{H H':aA}{a no:Nat}{p:fF}{r:List D1}(h:zK H a no p r)(b:H' a=H a)(c:H' no=H no):zK H' a no p r:=by obtain⟨d,f,g,e,i,j⟩:=h.ex;exact⟨d,f,g,e,i.frame b,j.frame c⟩
theorem I1.frame{H H':aA}{a b:Nat}{v:uM}{r:List D1}(h:I1 H a b v r)(c:H' a=H a)(d:H' b=H b):I1 H' a b v r:=by obtain⟨f,g,do_,i,e,j,k⟩:=h.ex;exact⟨f,g,do_,i,e,j.frame c,k.frame d⟩
theorem Rep.upd{X:Nat->Prop}{H H':aA}{nx nx' i0:Nat}{nm b:Nat->Nat}{s s':CSt}{who st:Nat}(h:Rep X H nx i0 nm s)(P:nx<=nx')(E:Names X nx' b)(q: ∀k,k<19->b k≠i0)
 (j: ∀k,k<19->k≠4->k≠5+who->k≠8+who->k≠11+st->k≠15+st->b k=nm k) (f: ∀k,5<=k->k<19->k≠5+who->k≠8+who->k≠11+st->k≠15+st->H' (nm k)=H (nm k))
 (F: ∃wc hc n vc o,H' i0=some ⟨5,1,[I6 b s' wc hc n vc o]⟩/\mI H' 1 (b 0) 0 s'.words.length wc (s'.words.map aF)/\mI H' 1 (b 1) 0 s'.holds.length hc (s'.holds.map aF)/\mI H' 5 (b 4) 0 s'.told.length o (s'.told.map aL)/\3<=n/\4<=vc)
 (G: ∃m rows m0 a,H (nm 2)=some ⟨4,m0,a⟩/\H' (nm 2)=some ⟨4,m,rows⟩/\rows.length=3/\(∀k,k<3->k≠who->rows[k]?=a[k]?)/\(who<3->∃r,rows[who]?=some r/\zK H' (b (5+who)) (b (8+who)) (aN s' who) r))
 (I: ∃m rows m0 a,H (nm 3)=some ⟨3,m0,a⟩/\H' (nm 3)=some ⟨3,m,rows⟩/\rows.length=4/\(∀k,k<4->k≠st->rows[k]?=a[k]?)/\(st<4->∃r,rows[st]?=some r/\I1 H' (b (11+st)) (b (15+st)) (aU s' st) r))
 (hw:who<3\/who=14) (hs:st<4\/st=8) (hp: ∀k,k<3->k≠who->aN s' k=aN s k) (J: ∀k,k<4->k≠st->aU s' k=aU s k):Rep X H' nx' i0 b s':=by
 obtain⟨⟨cells,K,hex,g,i⟩,p,D,t,L⟩:=h
 refine⟨?_,E,q,⟨by omega,t.2⟩,fun id u=>by have:=L id u;omega⟩
 obtain⟨wc,hc,n,vc,o,M,N⟩:=F
 refine⟨_,M,⟨wc,hc,n,vc,o,rfl,N⟩,?_,?_⟩
 ·obtain⟨m,rows,m0,a,v,w,x,y,z⟩:=G;obtain⟨m1,d,l,O,A⟩:=g;rw[v] at l;obtain⟨_,rfl,rfl⟩:4=4/\m0=m1/\a=d:=by simpa using l
  refine⟨m,rows,by rw[j 2 (by omega) (by omega) (by omega) (by omega) (by omega) (by omega)];exact w,x,fun k c=> ?_⟩;by_cases e:k=who;·subst e;exact z c
  ·obtain⟨r,B,C⟩:=A k c;refine⟨r,by rw[y k c e];exact B,?_⟩;rw[hp k c e,j (5+k) (by omega) (by omega) (by omega) (by omega) (by omega) (by omega),j (8+k) (by omega) (by omega) (by omega) (by omega) (by omega) (by omega)];exact C.frame (f _ (by omega) (by omega) (by omega) (by omega) (by omega) (by omega)) (f _ (by omega) (by omega) (by omega) (by omega) (by omega) (by omega))
 ·obtain⟨m,rows,m0,a,v,w,x,y,z⟩:=I;obtain⟨m1,d,l,O,A⟩:=i;rw[v] at l;obtain⟨_,rfl,rfl⟩:3=3/\m0=m1/\a=d:=by simpa using l
  refine⟨m,rows,by rw[j 3 (by omega) (by omega) (by omega) (by omega) (by omega) (by omega)];exact w,x,fun k c=> ?_⟩;by_cases e:k=st;·subst e;exact z c
  ·obtain⟨r,B,C⟩:=A k c;refine⟨r,by rw[y k c e];exact B,?_⟩;rw[J k c e,j (11+k) (by omega) (by omega) (by omega) (by omega) (by omega) (by omega),j (15+k) (by omega) (by omega) (by omega) (by omega) (by omega) (by omega)];exact C.frame (f _ (by omega) (by omega) (by omega) (by omega) (by omega) (by omega)) (f _ (by omega) (by omega) (by omega) (by omega) (by omega) (by omega))
theorem Rep.frame{X o:Nat->Prop}{H H':aA}{nx nx' i0:Nat}{nm:Nat->Nat}{s:CSt}(h:Rep X H nx i0 nm s)(I:nx<=nx')(p:H' i0=H i0)(a: ∀k,k<19->H' (nm k)=H (nm k))(f: ∀id,o id->id<nx'/\id≠i0/\ ∀k,k<19->id≠nm k):Rep o H' nx' i0 nm s:=by
 obtain⟨⟨cells,g,⟨wc,hc,q,vc,t,u,v,w,x,y⟩,⟨m,rows,z,A,B⟩,⟨C,c,D,E,F⟩⟩,b,e,G,_⟩:=h
 refine⟨⟨cells,by rw[p];exact g,⟨wc,hc,q,vc,t,u,v.frame (a _ (by omega)),w.frame (a _ (by omega)),x.frame (a _ (by omega)),y⟩,⟨m,rows,by rw[a 2 (by omega)];exact z,A,fun k d=> ?_⟩,⟨C,c,by rw[a 3 (by omega)];exact D,E,fun k d=> ?_⟩⟩,
  ⟨b.inj,fun k d=>by have:=b.lt k d;omega,fun k d i=>(f _ i).2.2 k d rfl⟩,e,⟨by omega,fun i=>(f _ i).2.1 rfl⟩,fun id j=>(f id j).1⟩
 ·obtain⟨r,l,n⟩:=B k d;exact⟨r,l,n.frame (a _ (by omega)) (a _ (by omega))⟩
 ·obtain⟨r,l,n⟩:=F k d;exact⟨r,l,n.frame (a _ (by omega)) (a _ (by omega))⟩
def put(nm:Nat->Nat)(k v:Nat):Nat->Nat:=fun j=>if j=k then v else nm j
variable{nm:Nat->Nat}
theorem fS{v:Nat}:put nm k v k=v:=if_pos rfl
theorem bV{v j:Nat}(h:j≠k):put nm k v j=nm j:=if_neg h
theorem Names.mono{X:Nat->Prop}{nx nx':Nat}(h:Names X nx nm)(b:nx<=nx'):Names X nx' nm:=⟨h.inj,fun k a=>by have:=h.lt k a;omega,h.av⟩
theorem Names.put{X:Nat->Prop}{nx nx':Nat}{nm:Nat->Nat}{k v:Nat}(h:Names X nx nm)(f:nx<=v)(g:v<nx')(e: ¬X v):Names X nx' (put nm k v):=by
 refine⟨fun i j hi d he=> ?_,fun j d=> ?_,fun j d=> ?_⟩;·have a:=h.lt i hi;have b:=h.lt j d;have c:=h.inj i j hi d;unfold AM.put at he;split at he<;>split at he<;>omega
 ·have:=h.lt j d;unfold AM.put;split<;>omega
 ·unfold AM.put;split;·exact e
  ·exact h.av j d
structure pN(X:Nat->Prop)(H:aA)(nx i0 i1:Nat)(nm:Nat->Nat)(s:CSt)(es:List Ev):Prop where
 rep:Rep (fun id=>X id\/id=i1) H nx i0 nm s
 hap:Kj (fun id=>X id\/id=i0\/ ∃k,k<19/\id=nm k) H nx i1 es
theorem Kj.frame{Y f:Nat->Prop}{H H':aA}{nx nx' i1:Nat}{es:List Ev}(h:Kj Y H nx i1 es)(v:nx<=nx')(j:H' i1=H i1)(g: ∀id,id<nx->¬Y id->H' id=H id)(k: ∀id,f id->id<nx'/\(Y id\/nx<=id)):Kj f H' nx' i1 es:=by
 obtain⟨⟨d,a,b,c,e,p,i⟩,l,w⟩:=h
 have m: ∀id,id<nx->¬Y id->¬f id:=fun id j q r=>by
  rcases(k id r).2 with h|h;·exact q h
  ·omega
 refine⟨⟨d,a,b,c,e,by rw[j];exact p,?_⟩,⟨by omega,m _ l.1 l.2⟩,fun id h=>(k id h).1⟩;rcases i with i|⟨ev,cap,s,t,n,o,u⟩
 ·exact .inl i
 ·exact .inr ⟨ev,cap,s,t.frame (g _ n o),by omega,m _ n o,u⟩
theorem pN.next{X n:Nat->Prop}{H2:aA}{nx f i0 i1:Nat}{es:List Ev}(h:pN X H nx i0 i1 nm s es)(o:nx<=f)(d: ∀id,id<nx->¬X id->H2 id=H id)(p: ∀id,n id->id<f/\(X id\/nx<=id)):pN n H2 f i0 i1 nm s es:=by
 have e:=h.rep.i0;have l:=h.hap.i1;have g:=h.rep.names.av;have i:=h.rep.names.lt;refine⟨h.rep.frame o (d i0 e.1 fun j=>e.2 (.inl j)) (fun k b=>d _ (i k b) fun j=>g k b (.inl j)) fun id a=> ?_,h.hap.frame o (d i1 l.1 fun j=>l.2 (.inl j)) (fun id q r=>d id q fun j=>r (.inl j)) fun id a=> ?_⟩
 ·rcases a with a|rfl
  ·obtain⟨m,c⟩:=p id a;refine⟨m,?_,fun k b=> ?_⟩
   ·rintro rfl;rcases c with c|c;·exact e.2 (.inl c)
    ·omega
   ·rintro rfl;have:=i k b;rcases c with c|c;·exact g k b (.inl c)
    ·omega
  ·refine⟨by omega,fun he=>e.2 (.inr he.symm),fun k b he=>g k b (.inr he.symm)⟩
 ·rcases a with a|rfl|⟨k,b,rfl⟩
  ·obtain⟨m,c⟩:=p id a;exact⟨m,c.imp .inl fun h=>h⟩
  ·exact⟨by omega,.inl (.inr (.inl rfl))⟩
  ·have:=i k b;exact⟨by omega,.inl (.inr (.inr ⟨k,b,rfl⟩))⟩
theorem pN.mono{X:Nat->Prop}{nx a i0 i1:Nat}{es:List Ev}(h:pN X H nx i0 i1 nm s es)(c:nx<=a):pN X H a i0 i1 nm s es:=h.next c (fun _ _ _=>rfl) fun id b=>⟨by have:=h.rep.x id (.inl b);omega,.inl b⟩
theorem Rep.get{X:Nat->Prop}{nx i0:Nat}(h:Rep X H nx i0 nm s):
 ∃wc hc a vc d mp b l c,H i0=some ⟨5,1,[[.osl 1 (nm 0) 0 s.words.length wc,.osl 1 (nm 1) 0 s.holds.length hc,.osl 4 (nm 2) 0 3 a,.osl 3 (nm 3) 0 4 vc,.osl 5 (nm 4) 0 s.told.length d]]⟩/\H (nm 2)=some ⟨4,mp,b⟩/\H (nm 3)=some ⟨3,l,c⟩/\
  mI H 1 (nm 0) 0 s.words.length wc (s.words.map aF)/\mI H 1 (nm 1) 0 s.holds.length hc (s.holds.map aF)/\mI H 5 (nm 4) 0 s.told.length d (s.told.map aL)/\3<=a/\4<=vc/\b.length=3/\c.length=4/\
  (∀k,k<3->∃e f g,b[k]?=some [cI (aN s k).next,.osl 1 (nm (5+k)) e (aN s k).queue.length f,.osl 3 (nm (8+k)) 0 (aN s k).out.length g,cI (aN s k).last]/\mI H 1 (nm (5+k)) e (aN s k).queue.length f ((aN s k).queue.map aF)/\mI H 3 (nm (8+k)) 0 (aN s k).out.length g ((aN s k).out.map eCJ))/\
  ∀k,k<4->∃i a do_ j,c[k]?=some [.osl 3 (nm (11+k)) i (aU s k).pipe.length a,.osl 5 (nm (15+k)) do_ (aU s k).done.length j,cI (aU s k).last]/\mI H 3 (nm (11+k)) i (aU s k).pipe.length a ((aU s k).pipe.map eCJ)/\mI H 5 (nm (15+k)) do_ (aU s k).done.length j ((aU s k).done.map aL):=by
 obtain⟨cells,m,⟨wc,hc,a,vc,d,rfl,q,t,u,v,w⟩,⟨mp,b,x,y,z⟩,⟨l,c,A,B,C⟩⟩:=h.st
 refine⟨wc,hc,a,vc,d,mp,b,l,c,m,x,A,q,t,u,v,w,y,B,fun k n=> ?_,fun k n=> ?_⟩
 ·obtain⟨r,o,⟨e,f,g,rfl,p⟩⟩:=z k n;exact⟨e,f,g,o,p⟩
 ·obtain⟨r,o,⟨i,a,do_,j,rfl,p⟩⟩:=C k n;exact⟨i,a,do_,j,o,p⟩
theorem pN.upd{X:Nat->Prop}{H H':aA}{nx nx' i0 i1:Nat}{nm:Nat->Nat}{s:CSt}{es:List Ev}(h:pN X H nx i0 i1 nm s es)(who st:Nat)(b:Nat->Nat)(s':CSt)(u:nx<=nx')(v:Names (fun id=>X id\/id=i1) nx' b)
 (i: ∀k,k<19->b k=nm k\/((k=4\/k=5+who\/k=8+who\/k=11+st\/k=15+st)/\nx<=b k))
 (e: ∀id,id<nx->id≠i0->(∀k,k<5\/k=5+who\/k=8+who\/k=11+st\/k=15+st->k<19->id≠nm k)->H' id=H id)
 (z: ∃wc hc w vc y,H' i0=some ⟨5,1,[I6 b s' wc hc w vc y]⟩/\mI H' 1 (b 0) 0 s'.words.length wc (s'.words.map aF)/\mI H' 1 (b 1) 0 s'.holds.length hc (s'.holds.map aF)/\mI H' 5 (b 4) 0 s'.told.length y (s'.told.map aL)/\3<=w/\4<=vc)
 (A: ∃m rows m0 c,H (nm 2)=some ⟨4,m0,c⟩/\H' (nm 2)=some ⟨4,m,rows⟩/\rows.length=3/\(∀k,k<3->k≠who->rows[k]?=c[k]?)/\(who<3->∃r,rows[who]?=some r/\zK H' (b (5+who)) (b (8+who)) (aN s' who) r))
 (B: ∃m rows m0 c,H (nm 3)=some ⟨3,m0,c⟩/\H' (nm 3)=some ⟨3,m,rows⟩/\rows.length=4/\(∀k,k<4->k≠st->rows[k]?=c[k]?)/\(st<4->∃r,rows[st]?=some r/\I1 H' (b (11+st)) (b (15+st)) (aU s' st) r))
 (hw:who<3\/who=14) (hs:st<4\/st=8) (hp: ∀k,k<3->k≠who->aN s' k=aN s k) (C: ∀k,k<4->k≠st->aU s' k=aU s k):pN X H' nx' i0 i1 b s' es/\ ∀id,X id->H' id=H id:=by
 have p:=h.rep.names.av
 have q:=h.rep.i0
 have D:=h.hap.i1
 have t:=h.rep.names.lt
 have l: ∀id,X id\/id=i1->H' id=H id:=fun id d=>e id (h.rep.x id d) (fun he=>q.2 (he▸d)) fun k _ i he=>p k i (he▸d)
 refine⟨⟨h.rep.upd (who:=who) (st:=st) u v (fun k a=> ?_) (fun k a f o E F G=> ?_) (fun k G a f o E F=> ?_) z A B hw hs hp C,h.hap.frame u (l _ (.inr rfl)) (fun id f o=> ?_) fun id d=> ?_⟩,fun id d=>l id (.inl d)⟩
 ·rcases i k a with f|f;·rw[f];exact h.rep.ne k a
  ·omega
 ·rcases i k a with g|g;·exact g
  ·omega
 ·refine e _ (t k a) (h.rep.ne k a) fun j I n he=> ?_;have:=h.rep.names.inj k j a n he;omega
 ·exact e id f (fun he=>o (.inr (.inl he))) fun k _ a he=>o (.inr (.inr ⟨k,a,he⟩))
 ·rcases d with d|rfl|⟨k,a,rfl⟩
  ·have:=h.rep.x id (.inl d);exact⟨by omega,.inl (.inl d)⟩
  ·exact⟨by omega,.inl (.inr (.inl rfl))⟩
  ·have:=v.lt k a;rcases i k a with g|g;·exact⟨this,.inl (.inr (.inr ⟨k,a,g⟩))⟩
   ·exact⟨this,.inr g.2⟩
def ch(H:aA)(F:Nat->Prop)(r' r:List D1):Prop:=r'.length=r.length/\ ∀(j:Nat) (a:D1),r'[j]?=some a->∃d,r[j]?=some d/\Frz H F a d
section
variable{H:aA}{F:Nat -> Prop}{σ:Nat -> Nat}{nh:Nat}
theorem xU:ch H F [] []:=⟨rfl,fun j d h=>by simp at h⟩
theorem b9{x y:D1}{xs ys:List D1}(h:Frz H F x y)(b:ch H F xs ys):ch H F (x::xs) (y::ys):=by
 refine⟨by simp[b.1],fun j d a=> ?_⟩
 match j with
 |0=>simp at a;subst a;exact⟨y,rfl,h⟩
 |j+1=>exact b.2 j d (by simpa using a)
theorem bc{r:List D1}(h: ∀x∈r,x.eW=true):ch H F r r:=⟨rfl,fun j d a=>⟨d,a,.same d (h d (adI a))⟩⟩
theorem CL{r' r:List D1}(h:ch H F r' r):CvL H F σ nh r' r:=⟨h.1,fun i x y b c=>by
 obtain⟨d,a,e⟩:=h.2 i x b
 rw[c] at a;cases a
 exact .frz e⟩
theorem JE{rows:List (List D1)}{n id off len cap:Nat}{o:bN}(l:F id)(m:H id=some o)(p:o.n=n)(hl:len=rows.length)(hlen:off+len<=o.rows.length)(a:len<=cap)
 (hr: ∀i r',rows[i]?=some r'->r'.length=n/\ ∃r,o.rows[off+i]?=some r/\ch H F r' r):Frz H F (.isl rows) (.osl n id off len cap):=by
 subst hl
 refine .frz rows n id off cap o (fun i j=>((o.rows[off+i]?.getD [])[j]?).getD .dead) l m p hlen a (fun i r' h=>(hr i r' h).1) (fun i j r' c e f=> ?_) (fun i j r' c e f=> ?_)
 ·obtain⟨_,r,b,g⟩:=hr i r' e;obtain⟨d,k,_⟩:=g.2 j c f;exact⟨r,b,by rw[b];simp[k]⟩
 ·obtain⟨_,r,b,g⟩:=hr i r' e;obtain⟨d,k,q⟩:=g.2 j c f;rw[b];simpa [k] using q
theorem mI.frz{n id off len cap:Nat}{R:List (List D1)}(h:mI H n id off len cap R)(hi:vw n R)(a:F id):Frz H F (.isl R) (.osl n id off len cap):=by
 obtain⟨m,rows,b,c,d,e,f,j⟩:=h.ex;refine JE a b rfl e d f fun i r' hr=>⟨(hi r' (adI hr)).1,r',?_,bc fun x g=>(hi r' (adI hr)).2 x g⟩
 subst c;rw[adO] at hr;exact hr
theorem Aj{x:Value}:Frz H F (.v x) (.v x):=.same _ rfl
theorem zK.XD{a no:Nat}{p:fF}{r:List D1}(h:zK H a no p r)(b:F a)(c:F no):ch H F (dK p) r:=by obtain⟨f,g,i,rfl,d,e⟩:=h.ex;exact b9 Aj (b9 (d.frz (aG aP _) b) (b9 (e.frz (aG DL _) c) (b9 Aj xU)))
theorem I1.XD{a b:Nat}{v:uM}{r:List D1}(h:I1 H a b v r)(c:F a)(d:F b):ch H F (jF v) r:=by obtain⟨g,i,o,j,rfl,e,f⟩:=h.ex;exact b9 (e.frz (aG DL _) c) (b9 (f.frz (aG bC _) d) (b9 Aj xU))
theorem getD_some{α:Type}[Inhabited α]{l:List α}{k:Nat}{x:α}(h:l[k]?=some x):l.getD k default=x/\k<l.length:=by refine⟨by simp[List.getD,h],(adB.1 h).1⟩
theorem CM.XD{nm:Nat->Nat}{s:CSt}{cells:List D1}(h:CM H nm s cells)(a: ∀k,k<19->F (nm k))(hp:s.bJ.length=3)(hs:s.bR.length=4):ch H F (dX s) cells:=by
 obtain⟨⟨wc,hc,w,vc,x,rfl,f,g,j,l,n⟩,⟨m,rows,o,y,q⟩,z,c,t,A,u⟩:=h;refine b9 (f.frz (aG aP _) (a _ (by omega))) (b9 (g.frz (aG aP _) (a _ (by omega))) (b9 ?_ (b9 ?_ (b9 (j.frz (aG bC _) (a _ (by omega))) xU))));·refine JE (a _ (by omega)) o rfl (by simp[hp]) (by simp;omega) l fun i r' hr=> ?_;rw[adJ,adC] at hr;obtain⟨p,hr,rfl⟩:=hr;obtain⟨d,v⟩:=getD_some hr;obtain⟨r,e,b⟩:=q i (by omega);rw[show aN s i=p from d] at b;exact⟨rfl,r,by rw[aeR];exact e,b.XD (a _ (by omega)) (a _ (by omega))⟩
 ·refine JE (a _ (by omega)) t rfl (by simp[hs]) (by simp;omega) n fun i r' hr=> ?_;rw[adJ,adC] at hr;obtain⟨p,hr,rfl⟩:=hr;obtain⟨d,v⟩:=getD_some hr;obtain⟨r,e,b⟩:=u i (by omega);rw[show aU s i=p from d] at b;exact⟨rfl,r,by rw[aeR];exact e,b.XD (a _ (by omega)) (a _ (by omega))⟩
theorem Sb{r' r:List D1}{n id:Nat}{o:bN}(c:F id)(f:H id=some o)(g:o.n=n)(hr:o.rows[0]?=some r)(h:ch H F r' r):Frz H F (.dQ r') (.ptr n id 0 0):=
 .ptr r' n id 0 0 o r (fun j=>(r[j]?).getD .dead) c f g hr (fun j d a=>by obtain⟨e,b,_⟩:=h.2 j d a;rw[aeR];simp[b]) (fun j d a=>by obtain⟨e,b,i⟩:=h.2 j d a;simpa [b] using i)
theorem Rep.UD{X:Nat->Prop}{nx i0:Nat}{nm:Nat->Nat}{s:CSt}(h:Rep X H nx i0 nm s)(hp:s.bJ.length=3)(hs:s.bR.length=4):CvD H (fun _=>True) id 0 (.one (.c (.dQ (dX s)))) (.one (.c (.ptr 5 i0 0 0))):=by obtain⟨cells,a,b⟩:=h.st;exact .frz (Sb trivial a rfl rfl (b.XD (fun _ _=>trivial) hp hs))
end
theorem PF{f:CSt->Nat->Option Mic}{l:List Nat}(h:f s k=none):ET c f s (k::l)=ET c f s l:=by rw[ET,h]
theorem PH{f:CSt->Nat->Option Mic}{l:List Nat}(h:f s k=some m):ET c f s (k::l)=m::ET c f (bS c s m) l:=by rw[ET,h]
theorem zo(h:k<3):[0,1,2].drop k=k::[0,1,2].drop (k+1):=by
 obtain rfl|rfl|rfl:k=0\/k=1\/k=2:=by omega
 all_goals rfl
theorem ta(h:k<4):[0,1,2,3].drop k=k::[0,1,2,3].drop (k+1):=by
 obtain rfl|rfl|rfl|rfl:k=0\/k=1\/k=2\/k=3:=by omega
 all_goals rfl
def DP(c:Cfg)(f:CSt->Nat->Option Mic)(l:List Nat)(s:CSt)(es:List Ev)(S:CSt)(E:List Ev):Prop:=l6 c s (ET c f s l)=S/\es++iE c s (ET c f s l)=E
theorem DP.none{c:Cfg}{f:CSt->Nat->Option Mic}{s S:CSt}{es E:List Ev}{k:Nat}{l:List Nat}(hl:DP c f (k::l) s es S E)(h:f s k=none):DP c f l s es S E:=by unfold DP at hl;rw[PF h] at hl;exact hl
theorem DP.some{c:Cfg}{f:CSt->Nat->Option Mic}{s S:CSt}{es E:List Ev}{k:Nat}{l:List Nat}{m:Mic}(hl:DP c f (k::l) s es S E)(h:f s k=some m):DP c f l (bS c s m) (es++CZ s m) S E:=by unfold DP at hl;rw[PH h] at hl;refine⟨hl.1,?_⟩;rw[adH];exact hl.2
theorem DP.nil{c:Cfg}{f:CSt->Nat->Option Mic}{s S:CSt}{es E:List Ev}(hl:DP c f [] s es S E):s=S/\es=E:=by refine⟨hl.1,?_⟩;have:=hl.2;rw[ET,iE,adR] at this;exact this
theorem U9(h:i.ready.getD k default=false):pY i s k=none:=by unfold pY;rw[if_neg (by rw[h];decide)]
theorem at4{j:Nat}(a:1<=j)(b:j<5):j=1\/j=2\/j=3\/j=4:=by omega
theorem ZI(h: ∀j,1<=j->j<5->ud s k (IH s k j)=false):pY i s k=none:=by
 unfold pY;split;·simp[List.find?_cons,h 1 (by omega) (by omega),h 2 (by omega) (by omega),h 3 (by omega) (by omega),h 4 (by omega) (by omega)]
 ·rfl
theorem ZS{j:Nat}(hr:i.ready.getD k default=true)(c:1<=j)(d:j<=4)(h: ∀b,1<=b->b<j->ud s k (IH s k b)=false)(a:ud s k (IH s k j)=true):pY i s k=some (.tell k (IH s k j)):=by
 unfold pY;rw[if_pos hr];rcases at4 c (by omega) with rfl|rfl|rfl|rfl;·simp[List.find?_cons,a]
 ·simp[List.find?_cons,a,h 1 (by omega) (by omega)]
 ·simp[List.find?_cons,a,h 1 (by omega) (by omega),h 2 (by omega) (by omega)]
 ·simp[List.find?_cons,a,h 1 (by omega) (by omega),h 2 (by omega) (by omega),h 3 (by omega) (by omega)]
def HE(c:Cfg)(l:List Nat)(s:CSt)(u:List Bool)(S:CSt):Prop:=l6 c s (af c s u l)=S
theorem HE.none{c:Cfg}{s S:CSt}{u:List Bool}{k:Nat}{l:List Nat}(hl:HE c (k::l) s u S)(h:SK c s u k=none):HE c l s u S:=by unfold HE at hl;rw[af,h] at hl;exact hl
theorem HE.some{c:Cfg}{s S:CSt}{u:List Bool}{k who:Nat}{l:List Nat}(hl:HE c (k::l) s u S)(h:SK c s u k=some who):HE c l (bS c s (.adm who k)) (u.set who true) S:=by unfold HE at hl;rw[af,h] at hl;exact hl
theorem Ao(h: ¬(aU s st).pipe.length<2):SK c s u st=none:=if_neg h
theorem ue(h: ∀j,1<=j->j<4->N8 c s u st (I5 s st j)=false):SK c s u st=none:=by
 unfold SK;split;·simp[List.find?_cons,h 1 (by omega) (by omega),h 2 (by omega) (by omega),h 3 (by omega) (by omega)]
 ·rfl
theorem te{j:Nat}(hr:(aU s st).pipe.length<2)(d:1<=j)(e:j<=3)(h: ∀a,1<=a->a<j->N8 c s u st (I5 s st a)=false)(b:N8 c s u st (I5 s st j)=true):SK c s u st=some (I5 s st j):=by
 unfold SK;rw[if_pos hr];obtain rfl|rfl|rfl:j=1\/j=2\/j=3:=by omega
 ·simp[List.find?_cons,b]
 ·simp[List.find?_cons,b,h 1 (by omega) (by omega)]
 ·simp[List.find?_cons,b,h 1 (by omega) (by omega),h 2 (by omega) (by omega)]
theorem QW{p:Job->Bool}: ∀{A B:List Job},(∀a∈A,p a=false)->(∀b∈B,p b=true)->(A++B).findIdx p=A.length
 | [],[],_,_=>rfl
 | [],b::B,_,hB=>by rw[List.nil_append,List.findIdx_cons,hB b (by simp)];rfl
 |a::A,B,c,hB=>by rw[List.cons_append,List.findIdx_cons,c a (by simp)];simp only[cond_false,List.length_cons];rw[QW (fun x d=>c x (ad7 _ d)) hB]
theorem El{A B:List Job}{x:Job}(c: ∀a∈A,eV x a=false)(hB: ∀b∈B,eV x b=true):iF (A++B) x=A++x::B:=by
 unfold iF;rw[QW c hB,List.take_left',List.drop_left'];·rfl
 ·rfl
def LB(l:List Job)(k:Nat):List Job:=dG (l.take k)
theorem Np{l:List Job}(a:k<=l.length):(LB l k).length=k:=by unfold LB;rw[(i7 _).length_eq,adP];omega
theorem Dv{l:List Job}(a:k<l.length):LB l (k+1)=iF (LB l k) (l.getD k default):=by unfold LB dG;rw[gP a,List.foldl_append];rfl
theorem Kb{l:List Job}:LB l 1=l.take 1:=by
 cases l with
 |nil=>rfl
 |cons x l=>rfl
theorem Lx{l:List Job}:LB l l.length=dG l:=by unfold LB;rw[ad1]
def WK(S:List Job)(x:Job)(j:Nat):List Job:=S.take j++x::S.drop j
theorem Po{S:List Job}{x:Job}{j:Nat}(_:j<=S.length):(WK S x j).length=S.length+1:=by unfold WK;simp;omega
end Go.AM
namespace Go.Proofs.YtlncecohbakleaaGreat
open Go Go.AM
attribute [local irreducible] aK wv aC vd wvH
section
variable{H:aA}{nx:Nat}{K:ag2}
theorem II{c:Cfg}{s:CSt}{i:CIn}{k:Nat}(hs:COk c s)(O:k<3)(hr:i.ready.getD k default=true){J:D}(o:CvD H (fun _=>True) id 0 (dA (dX s)) J)(h: ∀r,(fun r=>(pY i s k=none/\r=dI (-1))\/ ∃st:Nat,st<4/\pY i s k=some (.tell k st)/\r=dI st) r->K r H nx):ag1 sO [J,dI k] H nx K:=by
 refine aC.pure (args0:=[dA (dX s),dI k]) (R:=fun r=>(pY i s k=none/\r=dI (-1))\/ ∃st:Nat,st<4/\pY i s k=some (.tell k st)/\r=dI st) ?_ rfl (aM ⟨o,aE rfl,trivial⟩) (h);clear h;refine aR.mk Tryz.func120 (by kernel_rfl) ax rfl fun Q L=> ?_;unfold xC;have l:=hs.pl;have m:=hs.sl;obtain⟨z,A⟩:=(hs.port k O).last;obtain⟨p,hp⟩: ∃p,s.bJ.getD k default=p:=⟨_,rfl⟩
 have q:aN s k=p:=hp;rw[q] at z A;repeat' first|apply vI<;>(simp only[go_sem])|fail
 refine aK.cW (β:=Nat) (fun j=>en [(5,dI j),(2,.one (.c (.ptr 5 0 0 0))),(1,dI k)]) (fun j H1 _=>H1 0=some ⟨5,1,[dX s]⟩/\1<=j/\j<=5/\ ∀a,1<=a->a<j->ud s k (IH s k a)=false) (fun j=>5-j) 1 ⟨noF,_,by repeat' first|exact C1|refine xqI rfl rfl ?_|refine xqP (by omega) rfl rfl ?_|fail,aI,rfl,by omega,by omega,fun a n B=>by omega⟩ ?_;rintro j H1 P M ⟨t,C,S,hinv⟩ T u;by_cases E:j<=4
 ·obtain⟨st,e⟩: ∃st,st=IH s k j:=⟨_,rfl⟩
  have N:st=((p.last+(j:Int))%4).toNat:=by rw[e,<-q];rfl
  have w:st<4:=by omega
  have f:(p.last+(j:Int)).tmod 4=(st:Int):=by rw[aeJ (by omega)];omega
  obtain⟨v,x⟩: ∃v,s.bR.getD st default=v:=⟨_,rfl⟩
  have g:aU s st=v:=x;by_cases o:v.done.length=0
  ·have hlen:(0<(v.done.length:Int))=False:=eq_false (by omega);repeat' first|apply vI<;>(simp only[go_sem,t,l,m,hp,x,f,hlen];try simp (disch:=omega) only[Iw])|apply vT (by omega)|refine⟨by omega,?_⟩|fail
   exact u _ _ _ (j+1) noF _ (by omega) (by omega) (by repeat' first|exact C1|refine xqI rfl rfl ?_|refine xqP (by omega) rfl rfl ?_|fail) aI ⟨t,by omega,by omega,fun a n B=>by
    by_cases F:a<j
    ·exact hinv a n F
    ·have:a=j:=(by omega);subst this;rw[<-e];exact decide_eq_false fun hc=>by rw[g] at hc;omega⟩
  have hlen:(0<(v.done.length:Int))=True:=eq_true (by omega);obtain⟨d,y⟩: ∃d,v.done.getD 0 default=d:=⟨_,rfl⟩
  by_cases b:d.who=k
  ·have G:(d.who=(k:Int))=True:=eq_true b;repeat' first|apply vI<;>(simp only[go_sem,t,l,m,hp,x,f,hlen,y,G];try simp (disch:=omega) only[Iw])|apply vT (by omega)|refine⟨by omega,?_⟩|fail
   refine aQ L _ rfl rfl (.inr ⟨st,w,?_,rfl⟩);rw[e];exact ZS hr C E hinv (by rw[<-e];exact decide_eq_true ⟨by rw[g];omega,by rw[g,y];exact b⟩)
  ·have I:(d.who=(k:Int))=False:=eq_false b;repeat' first|apply vI<;>(simp only[go_sem,t,l,m,hp,x,f,hlen,y,I];try simp (disch:=omega) only[Iw])|apply vT (by omega)|refine⟨by omega,?_⟩|fail
   exact u _ _ _ (j+1) noF _ (by omega) (by omega) (by repeat' first|exact C1|refine xqI rfl rfl ?_|refine xqP (by omega) rfl rfl ?_|fail) aI ⟨t,by omega,by omega,fun a n B=>by
    by_cases F:a<j
    ·exact hinv a n F
    ·have:a=j:=(by omega);subst this;rw[<-e];exact decide_eq_false fun hc=>b (by rw[<-y,<-g];exact hc.2)⟩
 ·repeat' first|apply vI<;>(simp only[go_sem])|apply vF (by omega)|fail
  exact aQ L _ rfl rfl (.inl ⟨ZI fun a n B=>hinv a n (by omega),rfl⟩)
theorem pX{c:Cfg}{s:CSt}{st:Nat}(hs:COk c s)(l:st<4){i:D}(a:CvD H (fun _=>True) id 0 (dA (dX s)) i)(h:K (dB (decide (0<(aU s st).pipe.length/\(eL s st).left=0/\(aU s st).done.length<2))) H nx):ag1 xE [i,dI st] H nx K:=by
 refine aC.pure (args0:=[dA (dX s),dI st]) (R:=fun m=>m=dB (decide (0<(aU s st).pipe.length/\(eL s st).left=0/\(aU s st).done.length<2))) ?_ rfl (aM ⟨a,aE rfl,trivial⟩) (fun r hr=>hr▸h);clear h;refine aR.mk Tryz.func122 (by kernel_rfl) XF rfl fun Q b=> ?_;unfold tE;have f:=hs.sl;obtain⟨v,j⟩: ∃v,s.bR.getD st default=v:=⟨_,rfl⟩
 have g:aU s st=v:=j;obtain⟨d,k⟩: ∃d,v.pipe.getD 0 default=d:=⟨_,rfl⟩
 have e:(0<(aU s st).pipe.length/\(eL s st).left=0/\(aU s st).done.length<2)↔(0<v.pipe.length/\d.left=0/\v.done.length<2):=by unfold eL;rw[g,k]
 repeat' first| (first|apply vI|refine Y6 (fun h=> ?_) fun h=> ?_)<;>(simp only[go_sem,f,j,k])|refine⟨by omega,?_⟩|fail
 all_goals first|exact aQ b _ rfl rfl (nJ (by rw[e];omega))|exact aQ b _ rfl rfl (gV (by rw[e];omega))|exact aQ b _ rfl rfl (nB (by rw[e];omega))
theorem wK{c:Cfg}{s:CSt}{k:Nat}(i:bG c)(hs:COk c s)(l:k<3){d1:D}(a:CvD H (fun _=>True) id 0 (dA (dX s)) d1)(h:K (dB (decide ((aN s k).queue.length<2/\(aN s k).next<(c.cH.getD k default).length))) H nx):ag1 xQ [dA (bO c),d1,dI k] H nx K:=by
 refine aC.pure (args0:=[dA (bO c),dA (dX s),dI k]) (R:=fun j=>j=dB (decide ((aN s k).queue.length<2/\(aN s k).next<(c.cH.getD k default).length))) ?_ rfl (aM ⟨aE rfl,a,aE rfl,trivial⟩) (fun r hr=>hr▸h);clear h;refine aR.mk Tryz.func125 (by kernel_rfl) XL rfl fun Q b=> ?_;unfold tW;have d:=hs.pl;have f:=(eM i).1;obtain⟨p,hp⟩: ∃p,s.bJ.getD k default=p:=⟨_,rfl⟩
 have g:aN s k=p:=hp;have e:((aN s k).queue.length<2/\(aN s k).next<(c.cH.getD k default).length)↔(p.queue.length<2/\p.next<(c.cH.getD k default).length):=by rw[g]
 repeat' first| (first|apply vI|refine Y6 (fun h=> ?_) fun h=> ?_)<;>(simp only[go_sem,d,hp,f])|refine⟨by omega,?_⟩|fail
 all_goals first|exact aQ b _ rfl rfl (nJ (by rw[e];omega))|exact aQ b _ rfl rfl (gV (by rw[e];omega))|exact aQ b _ rfl rfl (nB (by rw[e];omega))
end
end Go.Proofs.YtlncecohbakleaaGreat
