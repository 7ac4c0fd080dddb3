/- Texts laid together by a program: rules, contracts and the walk that leads to the law. -/
import Derived.Test.YtdkfhdmagdaceaaGreatPN4
import Derived.Test.YtdkfhdmagdaceaaGreatPN3
import Derived.OpenShut
import Derived.Below
set_option linter.unusedVariables false
set_option linter.unusedSimpArgs false
set_option linter.unusedSectionVars false
set_option maxRecDepth 100000
set_option maxHeartbeats 8000000
namespace Go.AM
variable{k:Nat}
theorem pY{α:Type} [Inhabited α]{l:List α}{i:Nat}{x:α} (a:k<l.length):(l.set k x).getD i default=if i=k then x else l.getD i default:=by
 simp only[List.getD,D0];by_cases h:k=i;·subst h;simp[a]
 ·simp[h,Ne.symm h,eq_comm]
structure mD (c:Cfg) (who:Nat) (p:fR):Prop where
 next:0≤p.next∧p.next≤(c.cP.getD who default).length
 ql:p.queue.length≤2∧(p.queue.length:Int)≤p.next
 ol:p.out.length≤4
 last:0≤p.last∧p.last≤3
 queue: ∀i,i<p.queue.length→p.queue.getD i default=p.next-p.queue.length+i
 out: ∀j∈p.out,j.who=who∧(0≤j.n∧j.n<p.next-p.queue.length)∧j.left=gZ c.map (bT c who j.n)
 acX:p.out.Pairwise fun a b=>a.n<b.n
 akF: ∀a∈p.out,∀b∈p.out,(bT c who a.n).id=(bT c who b.n).id→a.left=b.left
def cS (v:nY):List (Int×Int):=v.done.map key++v.pipe.map fun j=>(j.who,j.n)
structure Z0 (c:Cfg) (s:CSt) (st:Nat):Prop where
 pl:(aL s st).pipe.length≤2
 dl:(aL s st).done.length≤2
 last:0≤(aL s st).last∧(aL s st).last≤2
 inc:(cS (aL s st)).Pairwise fun a b=>a.1=b.1→a.2<b.2
 out: ∀x∈cS (aL s st),(0≤x.1∧x.1≤2)∧ ∃j∈(aF s x.1.toNat).out,j.n=x.2∧j.left=st
 rsp: ∀j∈(aL s st).done,as5 c j
 left: ∀i,i<(aL s st).pipe.length→(0≤((aL s st).pipe.getD i default).left∧((aL s st).pipe.getD i default).left≤c.lat.getD st default)∧(0<i→((aL s st).pipe.getD i default).left=c.lat.getD st default)
def hU (s:CSt) (k:Nat):Nat:=(aL s k).pipe.length+(aL s k).done.length
structure COk (c:Cfg) (s:CSt):Prop where
 atm:WK s.words s.holds
 pl:s.bM.length=3
 sl:s.dD.length=4
 port: ∀k,k<3→mD c k (aF s k)
 slv: ∀k,k<4→Z0 c s k
 count:(aF s 0).out.length+(aF s 1).out.length+(aF s 2).out.length=hU s 0+hU s 1+hU s 2+hU s 3
 st:BA c (cX s)
variable{s:CSt}
theorem wU{j:Job}:j∈qU s↔(∃k,k<s.bM.length∧ ∃m∈(aF s k).queue,j=⟨k,m,oW⟩)∨(∃st,st<s.dD.length∧ ∃x∈(aL s st).pipe,j=⟨x.who,x.n,oW⟩):=by
 unfold qU jJ hJ;simp only[o3,Y8,C2,CF];constructor
 ·rintro(⟨k,a,m,hm,rfl⟩|⟨st,hs,x,b,rfl⟩);·exact .inl ⟨k,a,m,hm,rfl⟩
  ·exact .inr ⟨st,hs,x,b,rfl⟩
 ·rintro(⟨k,a,m,hm,rfl⟩|⟨st,hs,x,b,rfl⟩);·exact .inl ⟨k,a,m,hm,rfl⟩
  ·exact .inr ⟨st,hs,x,b,rfl⟩
theorem BU{j:Job}:j∈uQ s↔∃st,st<s.dD.length∧j∈(aL s st).done:=by unfold uQ;simp only[Y8,C2]
variable{c:Cfg}{who:Nat}{p:fR}{n:Int}
theorem mD.asks (h:mD c who p) (hw:who<3) (a:0≤n) (b:n<p.next):oA c who n:=by have:=h.next;refine⟨by omega,a,?_⟩;rw[Int.toNat_natCast];omega
theorem mD.qIn (h:mD c who p){m:Int} (hm:m∈p.queue):p.next-p.queue.length≤m∧m<p.next:=by obtain⟨i,hi,rfl⟩:=bqY.1 hm;have:=h.queue i hi;simp only[List.getD,hi,n1,Option.getD_some] at this;omega
variable{st:Nat}
theorem COk.vIn (h:COk c s) (hs:st<4){x:Int×Int} (a:x∈cS (aL s st)):(0≤x.1∧x.1≤2)∧0≤x.2∧x.2<(aF s x.1.toNat).next-(aF s x.1.toNat).queue.length:=by obtain⟨b,j,d,e,f⟩:=(h.slv st hs).out x a;have:=(h.port x.1.toNat (by omega)).out j d;exact⟨b,by omega,by omega⟩
theorem COk.same (h:COk c s){a:Nat} (hs:st<4) (d:a<4){x y:Int×Int} (e:x∈cS (aL s st)) (f:y∈cS (aL s a)) (he:x.1=y.1) (hi:(bT c x.1 x.2).id=(bT c y.1 y.2).id):st=a:=by
 obtain⟨n,j,g,i,o⟩:=(h.slv st hs).out x e;obtain⟨p,k,b,l,q⟩:=(h.slv a d).out y f;have hp:=h.port x.1.toNat (by omega);rw[←he] at b
 have:=hp.akF j g k b (by
  have m:((x.1.toNat:Nat):Int)=x.1:=by omega
  rw[m,i,l,hi,he])
 omega
theorem JB{v:nY}{x:fC} (h:x∈v.pipe):(x.who,x.n)∈cS v:=brH _ (CF.2 ⟨x,h,rfl⟩)
theorem M9{v:nY}{x:Job} (h:x∈v.done):key x∈cS v:=brA _ (brI h)
theorem gT{α:Type} [Inhabited α]{l:List α} (h:0<l.length):l=l.getD 0 default::l.drop 1:=by
 cases l with
 |nil=>simp at h
 |cons x l=>simp
variable{l:List Job}
theorem BF{j:Job}:j∈jX l↔j∈l:=(fH l).mem_iff
theorem R6 (a:k<s.bM.length):(cX s).asked.getD k default=(aF s k).next:=by simp[cX,aF,List.getD,a]
variable{m:Mic}
theorem XZ (h:COk c s) (E:EH c s m): ∀e∈y0 s m,X6 c (cX s) e=0:=by
 intro e he;have J:=h.pl;have K:=h.sl
 cases m with
 |tick st=>simp[y0] at he
 |adm who st=>simp[y0] at he
 |ask who=>
  simp only[y0,CJ] at he;subst he;obtain⟨u,v,F⟩:=E;have hp:=h.port who u;have i:oA c (who:Int) (aF s who).next:=by refine⟨by omega,hp.next.1,?_⟩;rw[Int.toNat_natCast];omega
  unfold X6;dsimp only;rw[if_neg (by exact fun C=>C ⟨i,by omega,by omega⟩),if_pos rfl,if_neg];rw[Int.toNat_natCast,R6 (by omega)];simp
 |work st=>
  simp only[y0,CJ] at he;subst he;obtain⟨u,v,F,N⟩:=E;have j:bI s st∈(aL s st).pipe:=cC v;have B:=JB j;obtain⟨z,p,q⟩:=h.vIn u B;dsimp only at z p q;have hp:=h.port (bI s st).who.toNat (by omega);have L:(((bI s st).who.toNat:Nat):Int)=(bI s st).who:=by omega
  have i:oA c (bI s st).who (bI s st).n:=by have:=hp.asks (n:=(bI s st).n) (by omega) p (by have:=hp.ql;omega);rwa [L] at this
  have A: ¬bK (iM (bI s st).who (bI s st).n) (cX s).wait<0:=by have:0≤bK (iM (bI s st).who (bI s st).n) (cX s).wait:=ZP.2 (CF.2 ⟨⟨(bI s st).who,(bI s st).n,oW⟩,BF.2 (wU.2 (.inr ⟨st,by omega,bI s st,j,rfl⟩)),rfl⟩);omega
  unfold X6;dsimp only;rw[if_neg (by exact fun C=>C ⟨i,by omega,by omega⟩),if_neg (by omega),if_pos rfl,if_neg A,if_neg];rw[cH];rintro⟨x,D,r⟩;obtain⟨⟨a,d⟩,b⟩:=of_decide_eq_true r;dsimp only at a d b;rcases wU.1 (BF.1 D) with⟨k,G,m,hm,rfl⟩|⟨g,w,y,o,rfl⟩
  ·dsimp only at a d b;have M:=(h.port k (by omega)).qIn hm;have:(bI s st).who.toNat=k:=(by omega);rw[this] at q;omega
  ·dsimp only at a d b;have t:=h.same (by omega) u (JB o) B a b;subst t;have f:=(brM.1 (h.slv g u).inc).2.1;rw[gT v,n3,G0] at f;rw[gT v] at o;rcases t3.1 o with rfl|o;·unfold bI at d;omega
   ·have:=f.1 (y.who,y.n) (CF.2 ⟨y,o,rfl⟩);dsimp only at this;unfold bI at a d;have:=this a.symm;omega
 |tell who st=>
  simp only[y0,CJ] at he;subst he;obtain⟨H,u,v,F⟩:=E;have j:iF s st∈(aL s st).done:=cC v;have B:=M9 j;have l:(iF s st).who=who:=F;obtain⟨z,p,q⟩:=h.vIn u B;simp only[key] at z p q;rw[l,Int.toNat_natCast] at q;have hp:=h.port who H;have i:oA c (who:Int) (iF s st).n:=hp.asks H p (by have:=hp.ql;omega);have A: ¬bK (iM who (iF s st).n) (cX s).done<0:=by have:0≤bK (iM who (iF s st).n) (cX s).done:=ZP.2 (CF.2 ⟨iF s st,BF.2 (BU.2 ⟨st,by omega,j⟩),by simp[key,l]⟩);omega
  have f:=(h.slv st u).inc;unfold cS at f;rw[gT v,n3,List.cons_append,G0] at f;unfold X6;dsimp only;rw[if_neg (by exact fun C=>C ⟨i,by omega,by omega⟩),if_neg (by omega),if_neg (by omega),if_neg A,if_neg];rw[cH,cH];rintro(⟨x,D,r⟩|⟨x,D,r⟩)
  ·obtain⟨⟨a,d⟩,b⟩:=of_decide_eq_true r;dsimp only at a d b;rcases wU.1 (BF.1 D) with⟨k,G,m,hm,rfl⟩|⟨g,w,y,o,rfl⟩
   ·dsimp only at a d b;have M:=(h.port k (by omega)).qIn hm;have:who=k:=(by omega);subst this;omega
   ·dsimp only at a d b;have t:=h.same (by omega) u (JB o) B (by simp only[key];rw[l];exact a) (by simp only[key];rw[l];exact b);subst t;have:=f.1 (y.who,y.n) (brH _ (CF.2 ⟨y,o,rfl⟩));have:=this (by show (iF s g).who=y.who;rw[l,a]);have I:(key ((aL s g).done.getD 0 default)).2=(iF s g).n:=rfl;dsimp only at this;omega
  ·obtain⟨⟨a,d⟩,b⟩:=of_decide_eq_true r;dsimp only at a d b;obtain⟨g,w,o⟩:=BU.1 (BF.1 D);have t:=h.same (by omega) u (M9 o) B (by simp only[key];rw[l];exact a) (by simp only[key];rw[l];rw[a] at b;rw[a];exact b);subst t;rw[gT v] at o;rcases t3.1 o with rfl|o;·unfold iF at d;omega
   ·have:=f.1 (key x) (brA _ (brI o));have:=this (by show (iF s g).who=x.who;rw[l,a]);have I:(key ((aL s g).done.getD 0 default)).2=(iF s g).n:=rfl;simp only[key] at this I;omega
theorem TW (h:(l.map key).Nodup){a b:Job} (e:a∈l) (f:b∈l) (he:key a=key b):a=b:=by
 induction l with
 |nil=>simp at e
 |cons x l j=>
  rw[n3,bq8] at h;rcases t3.1 e with g|i
  ·rcases t3.1 f with c|d;·rw[g,c]
   ·exact absurd (CF.2 ⟨b,d,by rw[←he,g]⟩) h.1
  ·rcases t3.1 f with c|d;·exact absurd (CF.2 ⟨a,i,by rw[he,c]⟩) h.1
   ·exact j h.2 i d
theorem bL{s':CSt} (h:s'.bM=s.bM.set who p) (hw:who<s.bM.length) (k:Nat):aF s' k=if k=who then p else aF s k:=by unfold aF;rw[h,pY hw]
theorem bO{s':CSt}{v:nY} (h:s'.dD=s.dD.set st v) (hw:st<s.dD.length) (k:Nat):aL s' k=if k=st then v else aL s k:=by unfold aL;rw[h,pY hw]
theorem af6 (E:aQ c) (h:COk c s) (B:EH c s m):cX (aR c s m)=runM c (cX s) (y0 s m):=by
 have M:=h.pl;have N:=h.sl;have t:=XZ h B
 cases m with
 |tick st=>
  obtain⟨D,v,C⟩:=B;have p:=fun k=>bO (s:=s) (s':=aR c s (.tick st)) rfl (by omega:st<s.dD.length) k;have boS: ∀k,aF (aR c s (.tick st)) k=aF s k:=fun k=>rfl
  have O: ∀k,hJ (aR c s (.tick st)) k=hJ s k:=fun k=>by
   unfold hJ;rw[p];split;·rename_i b;subst b;rw[gT v];simp[bI]
   ·rfl
  have F: ∀k,(aL (aR c s (.tick st)) k).done=(aL s k).done:=fun k=>by
   rw[p];split;·rename_i b;subst b;rfl
   ·rfl
  have hl:(aR c s (.tick st)).dD.length=s.dD.length:=by simp[aR]
  simp only[y0,runM,List.foldl_nil,cX,TSt.mk.injEq];refine⟨rfl,rfl,rfl,?_,?_,rfl⟩;·congr 1;unfold qU;rw[hl];simp only[List.flatMap_def];congr 2;exact brC fun k _=>O k
  ·congr 1;unfold uQ;rw[hl];simp only[List.flatMap_def];congr 1;exact brC fun k _=>F k
 |adm who st=>
  obtain⟨L,D,v,C⟩:=B;have p:=fun k=>bO (s:=s) (s':=aR c s (.adm who st)) rfl (by omega:st<s.dD.length) k;have boS:=fun k=>bL (s:=s) (s':=aR c s (.adm who st)) rfl (by omega:who<s.bM.length) k;have hl:(aR c s (.adm who st)).dD.length=s.dD.length:=by simp[aR]
  have u:(aR c s (.adm who st)).bM.length=s.bM.length:=by simp[aR]
  have F: ∀k,(aL (aR c s (.adm who st)) k).done=(aL s k).done:=fun k=>by
   rw[p];split;·rename_i b;subst b;rfl
   ·rfl
  simp only[y0,runM,List.foldl_nil,cX,TSt.mk.injEq];refine⟨rfl,rfl,?_,?_,?_,rfl⟩
  ·apply br2 (by simp[aR]);intro i d j;simp only[aR,bqW,Y5] at d;simp only[aR,bsD,List.getElem_set];split;·rename_i b;subst b;simp[aF,List.getD,d]
   ·rfl
  ·apply GN h.st.NR;refine List.Perm.trans ?_ (fH _).symm;rw[brV];intro z;have G:=tE (k:=who) (n:=s.bM.length) (by omega) (f:=jJ (aR c s (.adm who st))) (g:=jJ s) (fun i hi=>by unfold jJ;rw[boS,if_neg hi]) z;have w:=tE (k:=st) (n:=s.dD.length) (by omega) (f:=hJ (aR c s (.adm who st))) (g:=hJ s) (fun i hi=>by unfold hJ;rw[p,if_neg hi]) z;have H:jJ (aR c s (.adm who st)) who=((aF s who).queue.drop 1).map fun n=>⟨who,n,oW⟩:=by unfold jJ;rw[boS,if_pos rfl]
   have P:jJ s who=⟨who,(aF s who).queue.getD 0 default,oW⟩::((aF s who).queue.drop 1).map fun n=>⟨who,n,oW⟩:=by
    unfold jJ;conv=>lhs;rw[gT C.1]
    rfl
   have y:hJ (aR c s (.adm who st)) st=hJ s st++[⟨who,(aF s who).queue.getD 0 default,oW⟩]:=(by unfold hJ;rw[p,if_pos rfl];simp);rw[H,P] at G;rw[y] at w;unfold qU;rw[hl,u];simp only[brS,brW,List.count_nil] at*;omega
  ·congr 1;unfold uQ;rw[hl];simp only[List.flatMap_def];congr 1;exact brC fun k _=>F k
 |ask who=>
  obtain⟨L,D,v⟩:=B;have boS:=fun k=>bL (s:=s) (s':=aR c s (.ask who)) rfl (by omega:who<s.bM.length) k;have u:(aR c s (.ask who)).bM.length=s.bM.length:=by simp[aR]
  have r:=G9 E h.st (t ⟨1,who,(aF s who).next⟩ (CJ.2 rfl));have boU:lS c (cX s) ⟨1,who,(aF s who).next⟩= {cX s with asked:=(cX s).asked.set who ((aF s who).next+1),wait:=BM (cX s).wait ⟨who,(aF s who).next,oW⟩}:=by simp[lS]
  have l:=r.NR;rw[boU] at l;simp only[y0];rw[wW,boU];simp only[runM,List.foldl_nil,cX,TSt.mk.injEq];refine⟨rfl,rfl,?_,?_,rfl,rfl⟩;·simp[aR,brD]
  ·apply GN l;refine List.Perm.trans ?_ ((nE _ _).trans ((fH _).cons _)).symm;rw[brV];intro z;have G:=tE (k:=who) (n:=s.bM.length) (by omega) (f:=jJ (aR c s (.ask who))) (g:=jJ s) (fun i hi=>by unfold jJ;rw[boS,if_neg hi]) z;have H:jJ (aR c s (.ask who)) who=jJ s who++[⟨who,(aF s who).next,oW⟩]:=(by unfold jJ;rw[boS,if_pos rfl];simp);have I:(List.range (aR c s (.ask who)).dD.length).flatMap (hJ (aR c s (.ask who)))=(List.range s.dD.length).flatMap (hJ s):=rfl;rw[H] at G;unfold qU;rw[u,I];simp only[brS,brW,List.count_nil] at*;omega
 |work st=>
  obtain⟨D,v,C,R⟩:=B;have p:=fun k=>bO (s:=s) (s':=aR c s (.work st)) rfl (by omega:st<s.dD.length) k;have hl:(aR c s (.work st)).dD.length=s.dD.length:=by simp[aR]
  have hw:=t ⟨2,(bI s st).who,(bI s st).n⟩ (CJ.2 rfl);have r:=G9 E h.st hw;have J:=(M8 hw).2
  have A: ¬bK (iM (bI s st).who (bI s st).n) (cX s).wait<0:=by
   rcases J with⟨b,_⟩|⟨b,hi⟩|⟨b,_⟩
   ·exact absurd b (by dsimp only;decide)
   ·exact hi
   ·exact absurd b (by dsimp only;decide)
  obtain⟨d,j⟩:=pW A;have boU:lS c (cX s) ⟨2,(bI s st).who,(bI s st).n⟩= {cX s with words:=(jD c s st).1.1,holds:=(jD c s st).1.2,wait:=MT (cX s).wait (bK (iM (bI s st).who (bI s st).n) (cX s).wait).toNat,done:=BM (cX s).done ⟨(bI s st).who,(bI s st).n,(jD c s st).2⟩}:=by simp only[lS,jD,cX,if_true,if_false,Int.reduceEq]
  have l:=r.NR;have o:=r.NW;rw[boU] at l o;simp only[y0];rw[wW,boU];simp only[runM,List.foldl_nil];have q:(cX s).wait.getD (bK (iM (bI s st).who (bI s st).n) (cX s).wait).toNat default=⟨(bI s st).who,(bI s st).n,oW⟩:=by have hm:=cC d;have hr:=h.st.P4 _ hm;generalize (cX s).wait.getD (bK (iM (bI s st).who (bI s st).n) (cX s).wait).toNat default=x at j hr;obtain⟨S,bpZ,aYM⟩:=x;simp only[key,Prod.mk.injEq] at j;dsimp only at hr;rw[j.1,j.2,hr]
  have e:=A4 d;rw[q] at e
  have aYL:jX (qU (aR c s (.work st)))=MT (cX s).wait (bK (iM (bI s st).who (bI s st).n) (cX s).wait).toNat:=by
   apply GN l;refine List.Perm.cons_inv (a:=⟨(bI s st).who,(bI s st).n,oW⟩) ?_;refine List.Perm.trans ?_ ((fH _).symm.trans e);rw[brV];intro z;have w:=tE (k:=st) (n:=s.dD.length) (by omega) (f:=hJ (aR c s (.work st))) (g:=hJ s) (fun i hi=>by unfold hJ;rw[p,if_neg hi]) z
   have y:hJ s st=⟨(bI s st).who,(bI s st).n,oW⟩::hJ (aR c s (.work st)) st:=by
    unfold hJ;rw[p,if_pos rfl];conv=>lhs;rw[gT v]
    rfl
   have I:(List.range (aR c s (.work st)).bM.length).flatMap (jJ (aR c s (.work st)))=(List.range s.bM.length).flatMap (jJ s):=rfl;rw[y] at w;unfold qU;rw[hl,I];simp only[brS,brW,List.count_nil] at*;omega
  have bqA:jX (uQ (aR c s (.work st)))=BM (cX s).done ⟨(bI s st).who,(bI s st).n,(jD c s st).2⟩:=by apply GN o;refine List.Perm.trans ?_ ((nE _ _).trans ((fH _).cons _)).symm;rw[brV];intro z;have w:=tE (k:=st) (n:=s.dD.length) (by omega) (f:=fun k=>(aL (aR c s (.work st)) k).done) (g:=fun k=>(aL s k).done) (fun i hi=>by rw[p,if_neg hi]) z;have y:(aL (aR c s (.work st)) st).done=(aL s st).done++[⟨(bI s st).who,(bI s st).n,(jD c s st).2⟩]:=(by rw[p,if_pos rfl]);rw[y] at w;unfold uQ;rw[hl];simp only[brS,brW,List.count_nil] at*;omega
  show TSt.mk _ _ _ (jX (qU (aR c s (.work st)))) (jX (uQ (aR c s (.work st)))) _=_;rw[aYL,bqA];rfl
 |tell who st=>
  obtain⟨L,D,v,C⟩:=B;have K:(iF s st).who=who:=C;have p:=fun k=>bO (s:=s) (s':=aR c s (.tell who st)) rfl (by omega:st<s.dD.length) k;have boS:=fun k=>bL (s:=s) (s':=aR c s (.tell who st)) rfl (by omega:who<s.bM.length) k;have hl:(aR c s (.tell who st)).dD.length=s.dD.length:=by simp[aR]
  have u:(aR c s (.tell who st)).bM.length=s.bM.length:=by simp[aR]
  have hw:=t ⟨3,who,(iF s st).n⟩ (CJ.2 rfl);have r:=G9 E h.st hw;have J:=(M8 hw).2
  have A: ¬bK (iM who (iF s st).n) (cX s).done<0:=by
   rcases J with⟨b,_⟩|⟨b,hi⟩|⟨b,hi⟩
   ·exact absurd b (by dsimp only;decide)
   ·exact absurd b (by dsimp only;decide)
   ·exact hi
  obtain⟨d,j⟩:=pW A;have boU:lS c (cX s) ⟨3,who,(iF s st).n⟩= {cX s with told:=(cX s).told++[(cX s).done.getD (bK (iM who (iF s st).n) (cX s).done).toNat default],done:=MT (cX s).done (bK (iM who (iF s st).n) (cX s).done).toNat}:=by simp only[lS,if_false,Int.reduceEq]
  have o:=r.NW;rw[boU] at o;simp only[y0];rw[wW,boU];simp only[runM,List.foldl_nil];have q:(cX s).done.getD (bK (iM who (iF s st).n) (cX s).done).toNat default=iF s st:=by refine TW (zG h.st.NW) (cC d) (BF.2 (BU.2 ⟨st,by omega,cC v⟩)) ?_;rw[j];simp[key,K]
  have e:=A4 d;rw[q] at e
  have aYL:jX (qU (aR c s (.tell who st)))=(cX s).wait:=by
   show jX _=jX _;congr 1;unfold qU;rw[hl,u];simp only[List.flatMap_def];congr 2
   ·exact brC fun k _=>by
     unfold jJ;rw[boS];split;·rename_i b;subst b;rfl
     ·rfl
   ·exact brC fun k _=>by
     unfold hJ;rw[p];split;·rename_i b;subst b;rfl
     ·rfl
  have bqA:jX (uQ (aR c s (.tell who st)))=MT (cX s).done (bK (iM who (iF s st).n) (cX s).done).toNat:=by apply GN o;apply List.Perm.cons_inv (a:=iF s st);refine List.Perm.trans ?_ ((fH _).symm.trans e);rw[brV];intro z;have w:=tE (k:=st) (n:=s.dD.length) (by omega) (f:=fun k=>(aL (aR c s (.tell who st)) k).done) (g:=fun k=>(aL s k).done) (fun i hi=>by rw[p,if_neg hi]) z;have y:(aL s st).done=iF s st::(aL (aR c s (.tell who st)) st).done:=(by rw[p,if_pos rfl];exact gT v);rw[y] at w;unfold uQ;rw[hl];simp only[brS,brW,List.count_nil] at*;omega
  have Q:(aR c s (.tell who st)).bM.map (·.next)=s.bM.map (·.next):=by
   apply br2 (by simp[aR]);intro i d j;simp only[aR,bqW,Y5] at d;simp only[aR,bsD,List.getElem_set];split;·rename_i b;subst b;simp[aF,List.getD,d]
   ·rfl
  show TSt.mk _ _ ((aR c s (.tell who st)).bM.map (·.next)) (jX (qU (aR c s (.tell who st)))) (jX (uQ (aR c s (.tell who st)))) (s.told++[iF s st])=_;rw[aYL,bqA,Q,q];rfl
theorem WU{α:Type} [Inhabited α]{l:List α} (h:k<l.length):l.Perm (l.getD k default::B3 l k):=by
 have e:l=l.take k++l.getD k default::l.drop (k+1):=by
  have:l.getD k default=l[k]:=by simp[List.getD,h]
  rw[this,←brB h,boN]
 conv=>lhs;rw[e]
 exact brR
theorem akU{α:Type}{l:List α}:(B3 l k).Sublist l:=by unfold B3;have h:=(List.Sublist.refl (l.take k)).append (bsK l (Nat.le_succ k));rwa [boN] at h
theorem RP{α:Type} [Inhabited α]{l:List α} (h:k<l.length):(B3 l k).length+1=l.length:=by have:=(WU h).length_eq;simp at this;omega
theorem ajV{α:Type} [Inhabited α]{p:α→Bool}{l:List α} (h:0≤bK p l):(bK p l).toNat<l.length∧p (l.getD (bK p l).toNat default)=true:=by
 have c:=PQ (p:=p) (l:=l);refine⟨by omega,?_⟩;unfold bK at*;split at h;·rename_i i hi;have:=Z4.1 hi;obtain⟨a,b,_⟩:=this;simpa [List.getD,a] using b
 ·omega
theorem PJ{l:List fC} (h: ∃j∈l,j.n=n):(bK (isC n) l).toNat<l.length∧(l.getD (bK (isC n) l).toNat default).n=n:=by obtain⟨j,a,b⟩:=h;have c:0≤bK (isC n) l:=cH.2 ⟨j,a,by simp[isC,b]⟩;obtain⟨d,e⟩:=ajV c;exact⟨d,by simpa [isC] using e⟩
theorem aj2{l:List fC} (h: ∃j∈l,j.n=n):(PE l n).length+1=l.length:=RP (PJ h).1
theorem amU{l:List fC} (h: ∃j∈l,j.n=n){x:fC} (a:x∈l) (b:x.n≠n):x∈PE l n:=by
 obtain⟨c,d⟩:=PJ h;have:=(WU c).mem_iff.1 a;rcases t3.1 this with rfl|hm;·exact absurd d b
 ·exact hm
theorem TA{l:List fC}:(PE l n).Sublist l:=akU
theorem QF{α:Type} [Inhabited α]{l:List α}{i:Nat}:(l.drop 1).getD i default=l.getD (i+1) default:=by
 cases l with
 |nil=>simp
 |cons x l=>simp
theorem WI{α:Type} [Inhabited α]{l:List α}{x:α}{i:Nat}:(l++[x]).getD i default=if i=l.length then x else l.getD i default:=by
 simp only[List.getD,o5];split;·rw[if_neg (by omega)]
 ·split;·rename_i h;subst h;simp
  ·rename_i a b;rw[Z3 (by simp;omega),Z3 (by omega)]
theorem ZO{l:List fC} (h:l.Pairwise fun a b=>a.n<b.n){a b:fC} (e:a∈l) (f:b∈l) (he:a.n=b.n):a=b:=by
 induction l with
 |nil=>simp at e
 |cons x l j=>
  rw[G0] at h;rcases t3.1 e with g|i
  ·rcases t3.1 f with c|d;·rw[g,c]
   ·have:=h.1 b d;rw[g] at he;omega
  ·rcases t3.1 f with c|d;·have:=h.1 a i;rw[c] at he;omega
   ·exact j h.2 i d
theorem S0 (a:aQ c) (h:st<4):0≤c.lat.getD st default∧c.lat.getD st default≤3:=aj1 a.2.2.1 (by have:=a.2.1;omega)
theorem COk.af8 (h:COk c s) (hs:st<4) (a:0<(aL s st).done.length): ∃j∈(aF s (iF s st).who.toNat).out,j.n=(iF s st).n∧j.left=st:=((h.slv st hs).out _ (M9 (cC a))).2
theorem Z0.wT{s':CSt} (h:Z0 c s st) (he:aL s' st=aL s st) (e: ∀x∈cS (aL s st),∀j∈(aF s x.1.toNat).out,j.n=x.2→j.left=st→j∈(aF s' x.1.toNat).out):Z0 c s' st:=by refine⟨by rw[he];exact h.pl,by rw[he];exact h.dl,by rw[he];exact h.last,by rw[he];exact h.inc,fun x a=> ?_,by rw[he];exact h.rsp,by rw[he];exact h.left⟩;rw[he] at a;obtain⟨f,j,g,b,d⟩:=h.out x a;exact⟨f,j,e x a j g b d,b,d⟩
theorem mD.tell (h:mD c who p) (hs:st<4):mD c who {p with out:=PE p.out n,last:=st}:=by have hm: ∀j∈PE p.out n,j∈p.out:=fun j d=>TA.subset d;exact⟨h.next,h.ql,CQ TA.length_le h.ol,by dsimp only;omega,h.queue,fun j d=>h.out j (hm j d),h.acX.sublist TA,fun a e b f=>h.akF a (hm a e) b (hm b f)⟩
theorem mD.adm (h:mD c who p) (l:0<p.queue.length) (s:p.out.length<4) (m:gZ c.map (bT c who (p.queue.getD 0 default))=st)
 (k: ∀j∈p.out,(bT c who j.n).id=(bT c who (p.queue.getD 0 default)).id→j.left=st):mD c who {p with queue:=p.queue.drop 1,out:=p.out++[⟨who,p.queue.getD 0 default,st⟩]}:=by
 have o:=h.queue 0 l
 have q:=h.next
 have r:=h.ql
 have hl:(p.queue.drop 1).length=p.queue.length-1:=by simp
 refine⟨q,by dsimp only;omega,by simp;omega,h.last,fun i hi=> ?_,fun j f=> ?_,?_,fun a e b d g=> ?_⟩
 ·dsimp only at hi ⊢;rw[QF,h.queue (i+1) (by omega)];omega
 ·dsimp only at f ⊢;rcases o3.1 f with f|f;·have:=h.out j f;exact⟨this.1,by omega,this.2.2⟩
  ·simp only[CJ] at f;subst f;exact⟨rfl,by dsimp only;omega,m.symm⟩
 ·dsimp only;rw[brM];refine⟨h.acX,by simp,fun a e b d=> ?_⟩;simp only[CJ] at d;subst d;have:=(h.out a e).2.1;dsimp only;omega
 ·dsimp only at e d;rcases o3.1 e with e|e<;>rcases o3.1 d with d|d;·exact h.akF a e b d g
  ·simp only[CJ] at d;subst d;exact k a e g
  ·simp only[CJ] at e;subst e;exact(k b d g.symm).symm
  ·simp only[CJ] at e d;subst e;subst d;rfl
theorem mD.ask (h:mD c who p) (d:p.queue.length<2) (e:p.next<(c.cP.getD who default).length):mD c who {p with queue:=p.queue++[p.next],next:=p.next+1}:=by
 have f:=h.next;have a:=h.ql;refine⟨by dsimp only;omega,by simp;omega,h.ol,h.last,fun i hi=> ?_,fun j b=> ?_,h.acX,h.akF⟩
 ·simp only[t2,List.length_singleton] at hi ⊢;rw[WI];split;·omega
  ·rw[h.queue i (by omega)];omega
 ·have:=h.out j b;refine⟨this.1,?_,this.2.2⟩;simp only[t2,List.length_singleton];omega
theorem ajG (a:aQ c) (h:COk c s) (b:EH c s m):BA c (cX (aR c s m)):=by
 rw[af6 a h b];have hw:=XZ h b
 cases m with
 |tick st=>exact h.st
 |adm who st=>exact h.st
 |tell who st=>exact G9 a h.st (hw ⟨3,who,(iF s st).n⟩ (CJ.2 rfl))
 |work st=>exact G9 a h.st (hw ⟨2,(bI s st).who,(bI s st).n⟩ (CJ.2 rfl))
 |ask who=>exact G9 a h.st (hw ⟨1,who,(aF s who).next⟩ (CJ.2 rfl))
theorem aa4:(aR c s m).bM.length=s.bM.length∧(aR c s m).dD.length=s.dD.length:=by cases m<;>simp[aR]
theorem am9 (h:COk c s) (b:EH c s m): ∀k,k<3→mD c k (aF (aR c s m) k):=by
 have i:=h.pl;intro k j;have hp:=h.port k j
 cases m with
 |tick st=>exact hp
 |work st=>exact hp
 |tell who st=>
  obtain⟨f,a,d,g⟩:=b;rw[bL (s:=s) (s':=aR c s (.tell who st)) rfl (by omega)];split;·rename_i e;subst e;exact hp.tell a
  ·exact hp
 |adm who st=>
  obtain⟨f,a,d,g,l,n,o⟩:=b;rw[bL (s:=s) (s':=aR c s (.adm who st)) rfl (by omega)];split;·rename_i e;subst e;exact hp.adm g l n o
  ·exact hp
 |ask who=>
  obtain⟨f,a,d⟩:=b;rw[bL (s:=s) (s':=aR c s (.ask who)) rfl (by omega)];split;·rename_i e;subst e;exact hp.ask a d
  ·exact hp
theorem an6 (G:aQ c) (h:COk c s) (y:EH c s m): ∀k,k<4→Z0 c (aR c s m) k:=by
 have K:=h.pl;have L:=h.sl;intro k M;have f:=h.slv k M
 cases m with
 |ask who=>
  obtain⟨F,u,q⟩:=y;refine f.wT rfl fun x o j g _ _=> ?_;rw[bL (s:=s) (s':=aR c s (.ask who)) rfl (by omega)];split;·rename_i e;rw[e] at g;exact g
  ·exact g
 |tick st=>
  obtain⟨u,q,z⟩:=y;have d:=bO (s:=s) (s':=aR c s (.tick st)) rfl (by omega:st<s.dD.length) k;by_cases e:k=st
  ·subst e;rw[if_pos rfl] at d;have N:=f.left 0 q
   have l:cS (aL (aR c s (.tick k)) k)=cS (aL s k):=by
    rw[d];unfold cS;dsimp only;congr 1;conv=>rhs;rw[gT q]
    conv=>lhs;rw[gT q]
    rfl
   refine⟨by rw[d];simpa using f.pl,by rw[d];exact f.dl,by rw[d];exact f.last,by rw[l];exact f.inc,fun x o=> ?_,by rw[d];exact f.rsp,?_⟩;·rw[l] at o;exact f.out x o
   ·rw[d];simp only[Y5];intro i hi;rw[pY q];split;·rename_i e;subst e;dsimp only;unfold bI;exact⟨by omega,fun hc=>absurd hc (by omega)⟩
    ·exact f.left i hi
  ·rw[if_neg e] at d;exact f.wT d fun x o j g _ _=>g
 |work st=>
  obtain⟨u,q,z,O⟩:=y;have d:=bO (s:=s) (s':=aR c s (.work st)) rfl (by omega:st<s.dD.length) k;by_cases e:k=st
  ·subst e;rw[if_pos rfl] at d
   have l:cS (aL (aR c s (.work k)) k)=cS (aL s k):=by
    rw[d];unfold cS;dsimp only;conv=>rhs;rw[gT q]
    simp[key,bI]
   have hm:((bI s k).who,(bI s k).n)∈cS (aL s k):=JB (cC q);obtain⟨A,v,B⟩:=h.vIn u hm;dsimp only at A v B;refine⟨by rw[d];have:=f.pl;simp;omega,by rw[d];simp;omega,by rw[d];exact f.last,by rw[l];exact f.inc,fun x o=> ?_,?_,?_⟩;·rw[l] at o;exact f.out x o
   ·rw[d];intro j g;rcases o3.1 g with g|g;·exact f.rsp j g
    ·simp only[CJ] at g;subst g;have hp:=h.port (bI s k).who.toNat (by omega);have C:oA c (bI s k).who (bI s k).n:=by have:=hp.asks (n:=(bI s k).n) (by omega) v (by have:=hp.ql;omega);have P:(((bI s k).who.toNat:Nat):Int)=(bI s k).who:=(by omega);rwa [P] at this
     exact afD h.atm.wr (GK G C)
   ·rw[d];simp only[CI];intro i hi;rw[QF];have:=f.left (i+1) (by omega);rw[this.2 (by omega)];have:=S0 G u;exact⟨by omega,fun _=>rfl⟩
  ·rw[if_neg e] at d;exact f.wT d fun x o j g _ _=>g
 |adm who st=>
  obtain⟨F,u,q,z,O,X,Y⟩:=y;have d:=bO (s:=s) (s':=aR c s (.adm who st)) rfl (by omega:st<s.dD.length) k;have boS:=fun w=>bL (s:=s) (s':=aR c s (.adm who st)) rfl (by omega:who<s.bM.length) w
  have p: ∀w,∀j∈(aF s w).out,j∈(aF (aR c s (.adm who st)) w).out:=fun w j g=>by
   rw[boS];split;·rename_i e;subst e;exact brA _ g
   ·exact g
  by_cases e:k=st
  ·subst e;rw[if_pos rfl] at d;have l:cS (aL (aR c s (.adm who k)) k)=cS (aL s k)++[((who:Int),(aF s who).queue.getD 0 default)]:=(by rw[d];unfold cS;simp);have Q:=(h.port who F).queue 0 z;refine⟨by rw[d];simp;omega,by rw[d];exact f.dl,by rw[d];dsimp only;omega,?_,fun x o=> ?_,by rw[d];exact f.rsp,?_⟩;·rw[l,brM];refine⟨f.inc,by simp,fun a R b D H=> ?_⟩;simp only[CJ] at D;subst D;dsimp only at H ⊢;have:=(h.vIn u R).2.2;have e:a.1.toNat=who:=(by omega);rw[e] at this;omega
   ·rw[l] at o;rcases o3.1 o with o|o;·obtain⟨A,j,v,B⟩:=f.out x o;exact⟨A,j,p _ j v,B⟩
    ·simp only[CJ] at o;subst o;refine⟨by dsimp only;omega,⟨who,(aF s who).queue.getD 0 default,k⟩,?_,rfl,rfl⟩;rw[boS,if_pos (by simp)];simp
   ·rw[d];simp only[t2,List.length_singleton];intro i hi;rw[WI];have:=S0 G u;split;·exact⟨by dsimp only;omega,fun _=>rfl⟩
    ·exact f.left i (by omega)
  ·rw[if_neg e] at d;exact f.wT d fun x o j g _ _=>p _ j g
 |tell who st=>
  obtain⟨F,u,q,z⟩:=y;have S:(iF s st).who=who:=z;have d:=bO (s:=s) (s':=aR c s (.tell who st)) rfl (by omega:st<s.dD.length) k;have boS:=fun w=>bL (s:=s) (s':=aR c s (.tell who st)) rfl (by omega:who<s.bM.length) w;obtain⟨J,I,T,Z⟩:=h.af8 u q;have U:(iF s st).who.toNat=who:=by omega
  rw[U] at I;have hex: ∃j∈(aF s who).out,j.n=(iF s st).n:=⟨J,I,T⟩
  have p: ∀w,∀j∈(aF s w).out,(w=who→j.n≠(iF s st).n)→j∈(aF (aR c s (.tell who st)) w).out:=fun w j g E=>by
   rw[boS];split;·rename_i e;subst e;exact amU hex g (E rfl)
   ·exact g
  have r:cS (aL s st)=key (iF s st)::(((aL s st).done.drop 1).map key++(aL s st).pipe.map fun j=>(j.who,j.n)):=by
   unfold cS;conv=>lhs;rw[gT q]
   rfl
  by_cases e:k=st
  ·subst e;rw[if_pos rfl] at d;have l:cS (aL (aR c s (.tell who k)) k)=((aL s k).done.drop 1).map key++(aL s k).pipe.map fun j=>(j.who,j.n):=by rw[d];rfl
   have t:=f.inc;rw[r,G0] at t;refine⟨by rw[d];exact f.pl,by rw[d];have:=f.dl;simp;omega,by rw[d];exact f.last,by rw[l];exact t.2,fun x o=> ?_,?_,by rw[d];exact f.left⟩;·rw[l] at o;obtain⟨A,j,v,B,V⟩:=f.out x (by rw[r];exact bq9 _ o);refine⟨A,j,p _ j v fun he W=> ?_,B,V⟩;have:=t.1 x o (by simp only[key];omega);simp only[key] at this;omega
   ·rw[d];exact fun j g=>f.rsp j (bsE g)
  ·rw[if_neg e] at d;refine f.wT d fun x o j g W hl=>p _ j g fun he E=> ?_;subst he;have hp:=h.port x.1.toNat F;have hu:J=j:=(by exact ZO hp.acX I g (by omega));subst hu;omega
theorem abB{f g:Nat→Nat} (h:who<3) (a: ∀i,i≠who→f i=g i):f 0+f 1+f 2+g who=g 0+g 1+g 2+f who:=by
 have:who=0∨who=1∨who=2:=by omega
 rcases this with rfl|rfl|rfl;·have:=a 1 (by omega);have:=a 2 (by omega);omega
 ·have:=a 0 (by omega);have:=a 2 (by omega);omega
 ·have:=a 0 (by omega);have:=a 1 (by omega);omega
theorem aaC{f g:Nat→Nat} (h:st<4) (a: ∀i,i≠st→f i=g i):f 0+f 1+f 2+f 3+g st=g 0+g 1+g 2+g 3+f st:=by
 have:st=0∨st=1∨st=2∨st=3:=by omega
 rcases this with rfl|rfl|rfl|rfl;·have:=a 1 (by omega);have:=a 2 (by omega);have:=a 3 (by omega);omega
 ·have:=a 0 (by omega);have:=a 2 (by omega);have:=a 3 (by omega);omega
 ·have:=a 0 (by omega);have:=a 1 (by omega);have:=a 3 (by omega);omega
 ·have:=a 0 (by omega);have:=a 1 (by omega);have:=a 2 (by omega);omega
theorem ahN (h:COk c s) (d:EH c s m):(aF (aR c s m) 0).out.length+(aF (aR c s m) 1).out.length+(aF (aR c s m) 2).out.length=hU (aR c s m) 0+hU (aR c s m) 1+hU (aR c s m) 2+hU (aR c s m) 3:=by
 have p:=h.pl;have q:=h.sl;have hc:=h.count
 cases m with
 |ask who=>
  obtain⟨l,b,j⟩:=d;have boS:=fun w=>bL (s:=s) (s':=aR c s (.ask who)) rfl (by omega:who<s.bM.length) w
  have: ∀w,(aF (aR c s (.ask who)) w).out=(aF s w).out:=fun w=>by
   rw[boS];split;·rename_i e;subst e;rfl
   ·rfl
  rw[this,this,this];exact hc
 |tick st=>
  obtain⟨b,j,n⟩:=d;have a:=fun k=>bO (s:=s) (s':=aR c s (.tick st)) rfl (by omega:st<s.dD.length) k
  have: ∀k,hU (aR c s (.tick st)) k=hU s k:=fun k=>by
   unfold hU;rw[a];split;·rename_i e;subst e;simp
   ·rfl
  rw[this,this,this,this];exact hc
 |work st=>
  obtain⟨b,j,n,B⟩:=d;have a:=fun k=>bO (s:=s) (s':=aR c s (.work st)) rfl (by omega:st<s.dD.length) k
  have: ∀k,hU (aR c s (.work st)) k=hU s k:=fun k=>by
   unfold hU;rw[a];split;·rename_i e;subst e;simp;omega
   ·rfl
  rw[this,this,this,this];exact hc
 |adm who st=>
  obtain⟨l,b,j,n⟩:=d;have a:=fun k=>bO (s:=s) (s':=aR c s (.adm who st)) rfl (by omega:st<s.dD.length) k;have boS:=fun w=>bL (s:=s) (s':=aR c s (.adm who st)) rfl (by omega:who<s.bM.length) w;have r:=abB (f:=fun w=>(aF (aR c s (.adm who st)) w).out.length) (g:=fun w=>(aF s w).out.length) l fun i hi=>by rw[boS,if_neg hi]
  have t:=aaC (f:=hU (aR c s (.adm who st))) (g:=hU s) b fun i hi=>by unfold hU;rw[a,if_neg hi]
  have u:(aF (aR c s (.adm who st)) who).out.length=(aF s who).out.length+1:=by rw[boS,if_pos rfl];simp
  have v:hU (aR c s (.adm who st)) st=hU s st+1:=by unfold hU;rw[a,if_pos rfl];simp;omega
  omega
 |tell who st=>
  obtain⟨l,b,j,n⟩:=d;have x:(iF s st).who=who:=n;have a:=fun k=>bO (s:=s) (s':=aR c s (.tell who st)) rfl (by omega:st<s.dD.length) k;have boS:=fun w=>bL (s:=s) (s':=aR c s (.tell who st)) rfl (by omega:who<s.bM.length) w;obtain⟨y,o,z,C⟩:=h.af8 b j;have A:(iF s st).who.toNat=who:=by omega
  rw[A] at o;have r:=abB (f:=fun w=>(aF (aR c s (.tell who st)) w).out.length) (g:=fun w=>(aF s w).out.length) l fun i hi=>by rw[boS,if_neg hi]
  have t:=aaC (f:=hU (aR c s (.tell who st))) (g:=hU s) b fun i hi=>by unfold hU;rw[a,if_neg hi]
  have u:(aF (aR c s (.tell who st)) who).out.length+1=(aF s who).out.length:=by rw[boS,if_pos rfl];exact aj2 ⟨y,o,z⟩
  have v:hU (aR c s (.tell who st)) st+1=hU s st:=by unfold hU;rw[a,if_pos rfl];simp;omega
  omega
theorem o9 (b:aQ c) (h:COk c s) (a:EH c s m):COk c (aR c s m):=⟨(ajG b h a).atm,by rw[aa4.1];exact h.pl,by rw[aa4.2];exact h.sl,am9 h a,an6 b h a,ahN h a,ajG b h a⟩
def wY (c:Cfg):CSt→List Mic→Prop
 |_,[]=>True
 |s,m::l=>EH c s m∧wY c (aR c s m) l
def dR (c:Cfg) (s:CSt) (l:List Mic):CSt:=l.foldl (aR c) s
def iP (c:Cfg):CSt→List Mic→List Ev
 |_,[]=>[]
 |s,m::l=>y0 s m++iP c (aR c s m) l
theorem tB{a b:List Mic}:dR c s (a++b)=dR c (dR c s a) b:=by simp[dR]
theorem HA {c:Cfg}: ∀{a b:List Mic} {s:CSt},wY c s (a++b)↔wY c s a∧wY c (dR c s a) b
 | [],b,s=>by simp[wY,dR]
 |m::a,b,s=>by have:=HA (c:=c) (a:=a) (b:=b) (s:=aR c s m);simp only[List.cons_append,wY,this,and_assoc];rfl
theorem G6 {c:Cfg}: ∀{a b:List Mic} {s:CSt},iP c s (a++b)=iP c s a++iP c (dR c s a) b
 | [],b,s=>by simp[iP,dR]
 |m::a,b,s=>by have:=G6 (c:=c) (a:=a) (b:=b) (s:=aR c s m);simp only[List.cons_append,iP,this,C0];rfl
theorem CV {c:Cfg} (a:aQ c): ∀{l:List Mic} {s:CSt},COk c s→wY c s l→COk c (dR c s l)∧cX (dR c s l)=runM c (cX s) (iP c s l)∧F9 c (cX s) (iP c s l)
 | [],s,h,_=>⟨h,rfl,pV⟩
 |m::l,s,h,e=>by
  obtain⟨b,f⟩:=e;obtain⟨g,i,j⟩:=CV a (l:=l) (o9 a h b) f;have d:=af6 a h b;refine⟨g,?_,?_⟩;·show cX (dR c (aR c s m) l)=_;rw[i,d];show _=runM c (cX s) (y0 s m++iP c (aR c s m) l);rw[ZL]
  ·show F9 c (cX s) (y0 s m++iP c (aR c s m) l);rw[WS];refine⟨?_,by rw[←d];exact j⟩;have hw:=XZ h b
   cases m with
   |tick st=>exact pV
   |adm who st=>exact pV
   |tell who st=>exact xB.2 ⟨hw ⟨3,who,(iF s st).n⟩ (CJ.2 rfl),pV⟩
   |work st=>exact xB.2 ⟨hw ⟨2,(bI s st).who,(bI s st).n⟩ (CJ.2 rfl),pV⟩
   |ask who=>exact xB.2 ⟨hw ⟨1,who,(aF s who).next⟩ (CJ.2 rfl),pV⟩
def pQ (s:CSt) (who k:Nat):Nat:=(((aF s who).last+(k:Int))%4).toNat
def NN (s:CSt) (who st:Nat):Bool:=decide (0<(aL s st).done.length∧((aL s st).done.getD 0 default).who=who)
def vT (i:CIn) (s:CSt) (who:Nat):Option Mic:=if i.ready.getD who default=true then (([1,2,3,4].map (pQ s who)).find? (NN s who)).map (.tell who) else none
def qW (i:CIn) (s:CSt) (st:Nat):Option Mic:=if i.n9.getD st default=true∨(aL s st).pipe.length=0 then none else if 0<(bI s st).left then some (.tick st) else if (aL s st).done.length<2 then some (.work st) else none
def sM (s:CSt) (st k:Nat):Nat:=(((aL s st).last+(k:Int))%3).toNat
def KE (c:Cfg) (s:CSt) (used:List Bool) (st who:Nat):Bool:= !(used.getD who default)&&decide (HV c s who st)
def AO (c:Cfg) (s:CSt) (used:List Bool) (st:Nat):Option Nat:=if (aL s st).pipe.length<2 then ([1,2,3].map (sM s st)).find? (KE c s used st) else none
def PA (c:Cfg) (i:CIn) (s:CSt) (who:Nat):Option Mic:=if i.send.getD who default=true∧(aF s who).queue.length<2∧(aF s who).next<(c.cP.getD who default).length then some (.ask who) else none
def atS (c:Cfg) (s:CSt):Option Mic→CSt
 |none=>s
 |some m=>aR c s m
def vE (c:Cfg) (f:CSt→Nat→Option Mic):CSt→List Nat→List Mic
 |_,[]=>[]
 |s,k::l=>match f s k with
  |none=>vE c f s l
  |some m=>m::vE c f (aR c s m) l
def oP (c:Cfg):CSt→List Bool→List Nat→List Mic
 |_,_,[]=>[]
 |s,u,st::l=>match AO c s u st with
  |none=>oP c s u l
  |some who=>.adm who st::oP c (aR c s (.adm who st)) (u.set who true) l
def KQ (c:Cfg) (i:CIn) (s:CSt):List Mic:=vE c (vT i) s [0,1,2]
def xX (c:Cfg) (i:CIn) (s:CSt):List Mic:=vE c (qW i) s [0,1,2,3]
def ad4 (c:Cfg) (s:CSt):List Mic:=oP c s [false,false,false] [0,1,2,3]
def MV (c:Cfg) (i:CIn) (s:CSt):List Mic:=vE c (PA c i) s [0,1,2]
def CW (c:Cfg) (i:CIn) (s:CSt):CSt:=dR c s (KQ c i s)
def QD (c:Cfg) (i:CIn) (s:CSt):CSt:=dR c (CW c i s) (xX c i (CW c i s))
def OI (c:Cfg) (i:CIn) (s:CSt):CSt:=dR c (QD c i s) (ad4 c (QD c i s))
def vF (c:Cfg) (i:CIn) (s:CSt):CSt:=dR c (OI c i s) (MV c i (OI c i s))
def YC (c:Cfg) (i:CIn) (s:CSt):List Mic:=KQ c i s++xX c i (CW c i s)++ad4 c (QD c i s)++MV c i (OI c i s)
def TK (c:Cfg) (i:CIn) (s:CSt):List Ev:=iP c s (YC c i s)
variable{i:CIn}
theorem PI:vF c i s=dR c s (YC c i s):=by unfold YC vF OI QD CW;simp only[tB]
theorem LW {c:Cfg} (a:aQ c) {f:CSt→Nat→Option Mic}: ∀{l:List Nat} {s:CSt},COk c s→(∀s k m,COk c s→k∈l→f s k=some m→EH c s m)→wY c s (vE c f s l)
 | [],s,_,_=>trivial
 |k::l,s,h,b=>by
  unfold vE;split;·exact LW a h fun s k m hs d hm=>b s k m hs (bq9 _ d) hm
  ·rename_i m hm;have e:=b s k m h (by simp) hm;exact⟨e,LW a (o9 a h e) fun s k m hs d hm=>b s k m hs (bq9 _ d) hm⟩
theorem TB (_:COk c s) (hw:who<3) (hm:vT i s who=some m):EH c s m:=by
 unfold vT at hm;split at hm;·rw[m4] at hm;obtain⟨st,a,rfl⟩:=hm;have b:=List.find?_some a;have d:=bsM a;obtain⟨k,_,rfl⟩:=CF.1 d;obtain⟨e,f⟩:=of_decide_eq_true b;exact⟨hw,by unfold pQ;omega,e,f⟩
 ·cases hm
theorem LM (_:COk c s) (hw:st<4) (hm:qW i s st=some m):EH c s m:=by
 unfold qW at hm;split at hm;·cases hm
 ·rename_i d;split at hm;·rename_i a;cases hm;exact⟨hw,by omega,a⟩
  ·rename_i a;split at hm;·rename_i b;cases hm;exact⟨hw,by omega,a,b⟩
   ·cases hm
variable{u:List Bool}
theorem XH (hs:st<4) (hm:AO c s u st=some who):EH c s (.adm who st):=by
 unfold AO at hm;split at hm;·rename_i b;have a:=List.find?_some hm;have d:=bsM hm;obtain⟨k,_,rfl⟩:=CF.1 d;unfold KE at a;rw[q7] at a;exact⟨by unfold sM;omega,hs,b,of_decide_eq_true a.2⟩
 ·cases hm
theorem YH (_:COk c s) (hw:who<3) (hm:PA c i s who=some m):EH c s m:=by
 unfold PA at hm;split at hm;·rename_i h;cases hm;exact⟨hw,h.2.1,h.2.2⟩
 ·cases hm
theorem XU {c:Cfg} (a:aQ c): ∀{l:List Nat} {s:CSt} {u:List Bool},COk c s→(∀k∈l,k<4)→wY c s (oP c s u l)
 | [],s,u,_,_=>trivial
 |k::l,s,u,h,hl=>by
  unfold oP;split;·exact XU a h fun k b=>hl k (bq9 _ b)
  ·rename_i who hm;have d:=XH (hl k (by simp)) hm;exact⟨d,XU a (o9 a h d) fun k b=>hl k (bq9 _ b)⟩
theorem tC (h:k∈[0,1,2]):k<3:=by simp at h;omega
theorem w8 (h:k∈[0,1,2,3]):k<4:=by simp at h;omega
theorem aaI (a:aQ c) (h:COk c s):wY c s (KQ c i s):=LW a h fun s k m hs b hm=>TB hs (tC b) hm
theorem ZB (a:aQ c) (h:COk c s):wY c s (xX c i s):=LW a h fun s k m hs b hm=>LM hs (w8 b) hm
theorem afK (a:aQ c) (h:COk c s):wY c s (ad4 c s):=XU a h fun k b=>w8 b
theorem an9 (a:aQ c) (h:COk c s):wY c s (MV c i s):=LW a h fun s k m hs b hm=>YH hs (tC b) hm
theorem PH (a:aQ c) (h:COk c s):COk c (CW c i s):=(CV a h (aaI a h)).1
theorem PV (a:aQ c) (h:COk c s):COk c (QD c i s):=(CV a (PH a h) (ZB a (PH a h))).1
theorem afG (a:aQ c) (h:COk c s):COk c (OI c i s):=(CV a (PV a h) (afK a (PV a h))).1
theorem KG (a:aQ c) (h:COk c s):wY c s (YC c i s):=by
 unfold YC;rw[HA,HA,HA];refine⟨⟨⟨aaI a h,ZB a (PH a h)⟩,?_⟩,?_⟩;·rw[tB];exact afK a (PV a h)
 ·rw[tB,tB];exact an9 a (afG a h)
theorem PN (a:aQ c) (h:COk c s):COk c (vF c i s):=by rw[PI];exact(CV a h (KG a h)).1
theorem anV (a:aQ c) (h:COk c s):cX (vF c i s)=runM c (cX s) (TK c i s):=by rw[PI];exact(CV a h (KG a h)).2.1
theorem aiV (a:aQ c) (h:COk c s):F9 c (cX s) (TK c i s):=(CV a h (KG a h)).2.2
def sQ (c:Cfg) (s:CSt) (l:List CIn):CSt:=l.foldl (fun s i=>vF c i s) s
def RJ (c:Cfg):CSt→List CIn→List Ev
 |_,[]=>[]
 |s,i::l=>TK c i s++RJ c (vF c i s) l
theorem afM {c:Cfg} (a:aQ c): ∀{l:List CIn} {s:CSt},COk c s→COk c (sQ c s l)∧cX (sQ c s l)=runM c (cX s) (RJ c s l)∧F9 c (cX s) (RJ c s l)
 | [],s,h=>⟨h,rfl,pV⟩
 |i::l,s,h=>by
  obtain⟨d,e,f⟩:=afM a (l:=l) (PN a (i:=i) h);have b:=anV a (i:=i) h;refine⟨d,?_,?_⟩;·show cX (sQ c (vF c i s) l)=runM c (cX s) (TK c i s++RJ c (vF c i s) l);rw[e,b,ZL]
  ·show F9 c (cX s) (TK c i s++RJ c (vF c i s) l);rw[WS];exact⟨aiV a h,by rw[←b];exact f⟩
theorem anC{a b:List CIn}:sQ c s (a++b)=sQ c (sQ c s a) b:=by simp[sQ]
def HY:CSt:=⟨List.replicate 64 0,List.replicate 6 (-1),List.replicate 3 ⟨0,[],[],3⟩,List.replicate 4 ⟨[],[],2⟩,[]⟩
theorem amS:cX HY=st0:=by rfl
theorem MX (a:k<3):aF HY k=⟨0,[],[],3⟩:=by
 have:k=0∨k=1∨k=2:=by omega
 rcases this with rfl|rfl|rfl<;>rfl
theorem K4 (a:k<4):aL HY k=⟨[],[],2⟩:=by
 have:k=0∨k=1∨k=2∨k=3:=by omega
 rcases this with rfl|rfl|rfl|rfl<;>rfl
theorem anK (c:Cfg):COk c HY:=by
 have b:BA c (cX HY):=by rw[amS];exact arF c
 refine⟨b.atm,rfl,rfl,fun k d=> ?_,fun k d=> ?_,rfl,b⟩;·rw[MX d];exact⟨by simp,by simp,by simp,by decide,fun i hi=>by simp at hi,fun j e=>by simp at e,List.Pairwise.nil,fun a f=>by simp at f⟩
 ·refine⟨?_,?_,?_,?_,?_,?_,?_⟩<;>rw[K4 d];·simp
  ·simp
  ·decide
  ·exact List.Pairwise.nil
  ·intro x g;simp[cS] at g
  ·intro j e;simp at e
  ·intro i hi;simp at hi
def pU:CIn:=⟨[true,true,true],[false,false,false,false],[true,true,true]⟩
variable{f:CSt→Nat→Option Mic}
theorem GZ{l:List Nat} (h:f s k=none):vE c f s (k::l)=vE c f s l:=by rw[vE,h]
theorem NH{l:List Nat} (h:f s k=some m):vE c f s (k::l)=m::vE c f (aR c s m) l:=by rw[vE,h]
theorem ap4 (h:k<3):[0,1,2].drop k=k::[0,1,2].drop (k+1):=by
 obtain rfl|rfl|rfl:k=0∨k=1∨k=2:=by omega
 all_goals rfl
theorem apX (h:k<4):[0,1,2,3].drop k=k::[0,1,2,3].drop (k+1):=by
 obtain rfl|rfl|rfl|rfl:k=0∨k=1∨k=2∨k=3:=by omega
 all_goals rfl
def vU (c:Cfg) (f:CSt→Nat→Option Mic) (l:List Nat) (s:CSt) (es:List Ev) (S:CSt) (E:List Ev):Prop:=dR c s (vE c f s l)=S∧es++iP c s (vE c f s l)=E
theorem vU.none {c:Cfg} {f:CSt→Nat→Option Mic} {s S:CSt} {es E:List Ev} {k:Nat} {l:List Nat} (hl:vU c f (k::l) s es S E) (h:f s k=none):vU c f l s es S E:=by unfold vU at hl;rw[GZ h] at hl;exact hl
theorem vU.some {c:Cfg} {f:CSt→Nat→Option Mic} {s S:CSt} {es E:List Ev} {k:Nat} {l:List Nat} {m:Mic} (hl:vU c f (k::l) s es S E) (h:f s k=some m):vU c f l (aR c s m) (es++y0 s m) S E:=by unfold vU at hl;rw[NH h] at hl;refine⟨hl.1,?_⟩;rw[C0];exact hl.2
theorem vU.nil{S:CSt}{es E:List Ev} (hl:vU c f [] s es S E):s=S∧es=E:=by refine⟨hl.1,?_⟩;have:=hl.2;rw[vE,iP,bq6] at this;exact this
theorem agJ (h:i.ready.getD k default=false):vT i s k=none:=by unfold vT;rw[if_neg (by rw[h];decide)]
theorem bkW{j:Nat} (a:1≤j) (b:j<5):j=1∨j=2∨j=3∨j=4:=by omega
theorem acZ (h: ∀j,1≤j→j<5→NN s k (pQ s k j)=false):vT i s k=none:=by
 unfold vT;split;·simp[List.find?_cons,h 1 (by omega) (by omega),h 2 (by omega) (by omega),h 3 (by omega) (by omega),h 4 (by omega) (by omega)]
 ·rfl
theorem acB{j:Nat} (hr:i.ready.getD k default=true) (c:1≤j) (d:j≤4) (h: ∀b,1≤b→b<j→NN s k (pQ s k b)=false) (a:NN s k (pQ s k j)=true):vT i s k=some (.tell k (pQ s k j)):=by
 unfold vT;rw[if_pos hr];rcases bkW c (by omega) with rfl|rfl|rfl|rfl;·simp[List.find?_cons,a]
 ·simp[List.find?_cons,a,h 1 (by omega) (by omega)]
 ·simp[List.find?_cons,a,h 1 (by omega) (by omega),h 2 (by omega) (by omega)]
 ·simp[List.find?_cons,a,h 1 (by omega) (by omega),h 2 (by omega) (by omega),h 3 (by omega) (by omega)]
def LV (c:Cfg) (l:List Nat) (s:CSt) (u:List Bool) (S:CSt):Prop:=dR c s (oP c s u l)=S
theorem LV.none {c:Cfg} {s S:CSt} {u:List Bool} {k:Nat} {l:List Nat} (hl:LV c (k::l) s u S) (h:AO c s u k=none):LV c l s u S:=by unfold LV at hl;rw[oP,h] at hl;exact hl
theorem LV.some {c:Cfg} {s S:CSt} {u:List Bool} {k who:Nat} {l:List Nat} (hl:LV c (k::l) s u S) (h:AO c s u k=some who):LV c l (aR c s (.adm who k)) (u.set who true) S:=by unfold LV at hl;rw[oP,h] at hl;exact hl
theorem anA (h: ¬(aL s st).pipe.length<2):AO c s u st=none:=if_neg h
theorem ah0 (h: ∀j,1≤j→j<4→KE c s u st (sM s st j)=false):AO c s u st=none:=by
 unfold AO;split;·simp[List.find?_cons,h 1 (by omega) (by omega),h 2 (by omega) (by omega),h 3 (by omega) (by omega)]
 ·rfl
theorem ahR{j:Nat} (hr:(aL s st).pipe.length<2) (d:1≤j) (e:j≤3) (h: ∀a,1≤a→a<j→KE c s u st (sM s st a)=false) (b:KE c s u st (sM s st j)=true):AO c s u st=some (sM s st j):=by
 unfold AO;rw[if_pos hr];obtain rfl|rfl|rfl:j=1∨j=2∨j=3:=by omega
 ·simp[List.find?_cons,b]
 ·simp[List.find?_cons,b,h 1 (by omega) (by omega)]
 ·simp[List.find?_cons,b,h 1 (by omega) (by omega),h 2 (by omega) (by omega)]
theorem IW {p:Job→Bool}: ∀{A B:List Job},(∀a∈A,p a=false)→(∀b∈B,p b=true)→(A++B).findIdx p=A.length
 | [],[],_,_=>rfl
 | [],b::B,_,hB=>by rw[List.nil_append,List.findIdx_cons,hB b (by simp)];rfl
 |a::A,B,c,hB=>by rw[List.cons_append,List.findIdx_cons,c a (by simp)];simp only[cond_false,List.length_cons];rw[IW (fun x d=>c x (bq9 _ d)) hB]
theorem abS{A B:List Job}{x:Job} (c: ∀a∈A,uL x a=false) (hB: ∀b∈B,uL x b=true):BM (A++B) x=A++x::B:=by
 unfold BM;rw[IW c hB,List.take_left',List.drop_left'];·rfl
 ·rfl
def A5 (l:List Job) (k:Nat):List Job:=jX (l.take k)
theorem ahI (a:k≤l.length):(A5 l k).length=k:=by unfold A5;rw[(fH _).length_eq,CG];omega
theorem ac8 (a:k<l.length):A5 l (k+1)=BM (A5 l k) (l.getD k default):=by unfold A5 jX;rw[nK a,btR];rfl
theorem ah3:A5 l 1=l.take 1:=by
 cases l with
 |nil=>rfl
 |cons x l=>rfl
theorem aiE:A5 l l.length=jX l:=by unfold A5;rw[bq4]
def MS (S:List Job) (x:Job) (j:Nat):List Job:=S.take j++x::S.drop j
theorem amF{S:List Job}{x:Job}{j:Nat} (_:j≤S.length):(MS S x j).length=S.length+1:=by unfold MS;simp;omega
end Go.AM
namespace Go.Proofs.YtdkfhdmagdaceaaGreat
open Go Go.AM
def AS:AC:= (boG [f5 2 0,f5 3 1,dO 4 boD] [2,3] (.seq (boG [RF 11 0 2,f8 12 2 11,RF 13 0 3,f8 14 2 13,f6 15 wK [12,14],f4 16 15,RM 17 16,g9 18 2 2 17 false,hD 19 18 17 false,GQ 20 (.len false 19) 17 false,g9 21 2 3 17 false,hD 22 21 17 false,GQ 23 (.len false 22) 17 false,hO 24 .neq 20 23 17 false,f3 25 17 boE 24,RM 26 25,g9 27 3 2 26 false,hD 28 27 26 false,GQ 29 (.len false 28) 26 false,g9 30 3 3 26 false,hD 31 30 26 false,GQ 32 (.len false 31) 26 false,hO 33 .neq 29 32 26 false,f3 34 26 boE 33,RM 35 34,g9 36 4 2 35 false,hD 37 36 35 false,g9 38 4 3 35 false,hD 39 38 35 false,GQ 40 (.call jN [37,39]) 35 false,hP 41 40 35 false,f3 42 35 boE 41] [2,3,42] (.cond 42 (boG [dO 4 boD] [4] .ret) .skip)) (.seq (boG [dO 5 (ki 0)] [2,3,5] (.block 0 (.loop (.seq (boG [RM 43 5,RF 44 2 2,RL 45 44,f1 46 45,dI 47 .lss 43 46] [2,3,5,47] (.cond 47 .skip (.exit 0))) (.seq (.block 1 (boG [RF 50 2 2,RL 51 50,RM 52 5,e0 53 4 51 52,f8 54 4 53,f7 6 [VZ,OZ,OZ,VZ],g0 4 true 6 54] [2,3,5,6] (boG [RF 55 2 3,RL 56 55,RM 57 5,e0 58 4 56 57,f8 59 4 58,f7 7 [VZ,OZ,OZ,VZ],g0 4 true 7 59] [2,3,5,6,7] (boG [RF 60 0 6,RL 61 60,RF 62 0 7,RL 63 62,dI 64 .neq 61 63,RM 65 64,g9 66 3 6 65 false,hD 67 66 65 false,g9 68 3 7 65 false,hD 69 68 65 false,hO 70 .neq 67 69 65 false,f3 71 65 boE 70,RM 72 71,g9 73 1 6 72 false,hD 74 73 72 false,g9 75 1 7 72 false,hD 76 75 72 false,GQ 77 (.call jM [74,76]) 72 false,hP 78 77 72 false,f3 79 72 boE 78,RM 80 79,g9 81 2 6 80 false,hD 82 81 80 false,g9 83 2 7 80 false,hD 84 83 80 false,GQ 85 (.call oJ [82,84]) 80 false,hP 86 85 80 false,f3 87 80 boE 86] [2,3,5,87] (.cond 87 (boG [dO 4 boD] [4] .ret) .skip))))) (m2 [RM 48 5,dI 49 .add 48 (ki 1),RM 5 49] [2,3,5])))))) (.seq (boG [dO 8 (ki 0)] [2,3,8] (.block 2 (.loop (.seq (boG [RM 88 8,RF 89 3 2,RL 90 89,f1 91 90,dI 92 .lss 88 91] [2,3,8,92] (.cond 92 .skip (.exit 2))) (.seq (.block 3 (boG [RF 95 3 2,RL 96 95,RM 97 8,e0 98 3 96 97,f8 99 3 98,f7 9 [OZ,OZ,VZ],g0 3 true 9 99] [2,3,8,9] (boG [RF 100 3 3,RL 101 100,RM 102 8,e0 103 3 101 102,f8 104 3 103,f7 10 [OZ,OZ,VZ],g0 3 true 10 104] [2,3,8,9,10] (boG [RF 105 2 9,RL 106 105,RF 107 2 10,RL 108 107,dI 109 .neq 106 108,RM 110 109,g9 111 0 9 110 false,hD 112 111 110 false,g9 113 0 10 110 false,hD 114 113 110 false,GQ 115 (.call oJ [112,114]) 110 false,hP 116 115 110 false,f3 117 110 boE 116,RM 118 117,g9 119 1 9 118 false,hD 120 119 118 false,g9 121 1 10 118 false,hD 122 121 118 false,GQ 123 (.call jN [120,122]) 118 false,hP 124 123 118 false,f3 125 118 boE 124] [2,3,8,125] (.cond 125 (boG [dO 4 boD] [4] .ret) .skip))))) (m2 [RM 93 8,dI 94 .add 93 (ki 1),RM 8 94] [2,3,8])))))) (boG [dO 4 boE] [4] .ret)))))
def I4:List aW:=[.tm 4]
theorem TS:aO Tryz.prog Tryz.f36 (bnD AS)=some (AS,I4):=by kernel_rfl
theorem bmU:aN Tryz.prog C6 Tryz.f36 AS I4:=aN.mk Tryz.func36 (by kernel_rfl) TS
def bxA:AC:= (boG [f7 2 [OZ,OZ,OZ],f7 3 [OZ,OZ,OZ,OZ,OZ],dO 4 (ki 0)] [0,2,3] (boG [RM 8 0,f6 9 kN [8],RM 5 9] [2,3,5] (boG [RM 11 5,f6 12 bgS [11,(ki 16)],RM 10 12,rq 13 (.ext 10 0),rq 14 (.ext 10 1),f7 6 [OZ,OZ,OZ],f7 7 [OZ,OZ,OZ,OZ,OZ],g0 3 true 6 13,g0 5 true 7 14] [2,3,5,6,7] (.seq (.region [boF 15 (.load 3 true 6) [5,4] [] true 0,boF 16 (.load 5 true 7) [5,4] [] true 1,RM 17 5 2,rq 20 (.bC 1 7 [VZ] [(0,1,(ki 0)),(1,1,(ki 0)),(2,1,(ki 0)),(3,1,(ki 0)),(4,1,(ki 1)),(5,1,(ki 2)),(6,1,(ki 3))]) 5,RM 21 5 6,boF 18 (.call aD [17,(ki 20)]) [5] [0,1] false 3,rq 19 (.bC 1 4 [VZ] [(0,1,18),(1,1,(.kv (.int .i64 (-1)))),(2,1,(ki 301)),(3,1,(ki 60))]) 4,boF 22 (.call aD [21,(ki 7)]) [5,4] [0,1] false 7,e0 23 1 20 22 8,g8 24 23 [4] [] true 9,e0 25 1 19 24 10,g8 26 25 [] [] true 11,dA none (.store 3 true 2 15) none [5,4] [1,9,11] false 12,dA none (.store 5 true 3 16) none [5,4] [9,11] false 13,RM 4 26 14] 15 [2,3,4]) .ret))))
def bxE:List aW:=[.cell 2 3 true,.cell 3 5 true,.tm 4]
theorem bxK:aO Tryz.prog Tryz.f34 (bnD bxA)=some (bxA,bxE):=by kernel_rfl
def bsP:AC:= (boG [f5 3 0,f5 4 1,f7 6 [OZ,OZ,OZ,OZ,OZ]] [2,3,4,6] (.seq (boG [f8 9 3 3,f8 10 5 4,f6 11 aI5 [9,10],f4 12 11,RM 13 12,hG 14 2 13 false,hO 15 .gtr 14 (ki 300) 13 false,f3 16 13 boE 15] [2,3,4,6,16] (.cond 16 (boG [rq 17 (.build [OZ,OZ,OZ,OZ,OZ] []),g0 5 true 6 17] [6] .ret) .skip)) (boG [f8 18 5 4,f6 19 bg9 [18],f7 7 [OZ,OZ,OZ,OZ,OZ],g0 5 true 7 19] [2,3,6,7] (.seq (boG [dO 8 (ki 0)] [2,3,6,7,8] (.block 0 (.loop (.seq (boG [RM 20 8,RM 21 2,dI 22 .lss 20 21] [2,3,6,7,8,22] (.cond 22 .skip (.exit 0))) (.seq (.block 1 (m2 [boF 25 (.load 3 true 3) [] [] true,boF 26 (.load 5 true 7) [] [] true,boF 27 (.call CS []) [] [0,1] false,f6 28 bgZ [25,26,27],g0 5 true 7 28] [2,3,6,7,8])) (m2 [RM 23 8,dI 24 .add 23 (ki 1),RM 8 24] [2,3,6,7,8])))))) (boG [f8 29 5 7,f6 30 bg9 [29],g0 5 true 6 30] [6] .ret)))))
def bsV:List aW:=[.cell 6 5 true]
theorem bs2:aO Tryz.prog Tryz.f37 (bnD bsP)=some (bsP,bsV):=by kernel_rfl
end Go.Proofs.YtdkfhdmagdaceaaGreat
namespace Go.AM
open Go.RowKit
def asV (k:IntKind) (w:World) (a:Option Addr) (len cap:Nat) (zs:List Int):Prop:=
 (a=none∧len=0∧cap=0∧zs=[])∨
 ∃x,a=some x∧len≤cap∧cap≤maxLen∧zs.length=cap∧(∀i,i<zs.length→w.cell? (x.add i)=some (.int k (zs.getD i 0)))∧ ∀n∈zs,(Lit.int k n).wf=true
theorem abA {P:Program} {f:FuncId} {l:List Int} {w:World} {v:Value} {I:Nat→Prop} (h:aB P f [dS (l.map eU8)] .nil 0 fun n _ _=>n.plain=true∧n=dB true) (t: ∀b,I b→b<w.heap.size) (y:Imm I w (.isl (l.map eU8)) v):
 Calls P f #[v] w fun e p=>e= .returned (.bool true)∧Below w.heap.size w p:=by
 have c: ∀b,¬uG ⟨fun _=>(0,0),fun _=>False,I,w⟩ .nil b:=by rintro b ⟨id,o,h,_⟩;cases h
 have g:St ⟨fun _=>(0,0),fun _=>False,I,w⟩ .nil:=⟨fun id o h=>(by cases h),fun id o h=>(by cases h),fun id o h=>(by cases h),fun id o i j r d h=>(by cases h),fun id z o o' h=>(by cases h),fun id o h=>(by cases h),t⟩
 refine(h.2 ⟨fun _=>(0,0),fun _=>False,I,w⟩ [v] g (fun i hi=>hi.elim) rfl (fun i d u m q=> ?_)).mono ?_
 ·match i with
  |0=>simp at m q;subst m;subst q;exact y
  |i+1=>simp at m
 ·rintro x p ⟨u,c',r,H',nx',rfl,rfl,B,a,C,D,s,E,rfl⟩;have hu:u= .bool true:=by simp only[fD,jZ,Rel,bY] at s;cases s;rfl
  subst hu;exact⟨rfl,a.os,a.tape,a.output,a.size,fun k A=>a.frame k A (c k)⟩
theorem atQ {P:Program} {f:FuncId} (h: ∀l:List Int,(∀x∈l,0≤x∧x<256)→aB P f [dS (l.map eU8)] .nil 0 fun z _ _=>z.plain=true∧z=dB true) (az5:Option Addr) (len0 a:Nat) (blY:List Int) (w:World) (bk1:asV .u8 w az5 len0 a blY):
 Calls P f #[.slice az5 len0 a] w fun e B=>e= .returned (.bool true)∧Below w.heap.size w B:=by
 rcases bk1 with⟨rfl,rfl,rfl,rfl⟩|⟨x,rfl,hl,hm,D,hc,hw⟩
 ·refine abA (I:=fun _=>False) (h [] (fun x C=>by cases C)) (fun b n=>n.elim) ?_;exact .isl [] none 0 1 0 0 (fun _ _=>.int .u8 0) (fun h=>absurd rfl h) (m5 _) (fun i r h=>by simp at h) (fun i j r d h=>by simp at h) (fun i j r d h=>by simp at h)
 ·have p:(blY.take len0).length=len0:=by simp;omega
  have q: ∀y∈blY.take len0,0≤y∧y<256:=fun y g=>by have:=bounds_u8 (hw y (List.take_subset _ _ g));omega
  refine abA (I:=fun b=>b=x.block∧0<len0) (h (blY.take len0) q) (fun b n=> ?_) ?_;·obtain⟨rfl,k⟩:=n;have:=World.block_lt_of_cell? w _ (hc 0 (by omega));simpa [Addr.add] using this
  ·have key:=Imm.isl (I:=fun b=>b=x.block∧0<len0) (w:=w) ((blY.take len0).map eU8) (some x) a 1 x.block x.off (fun i _=>.int .u8 (blY.getD i 0)) (fun t=> ?_) (by simp;omega) (fun i r hr=> ?_) (fun i j r d hr m=> ?_) (fun i j r d hr m=> ?_);·rw[bqW,p] at key;exact key
   ·have k:0<len0:=by
     rcases CR len0 with k|k
     ·subst k;exact absurd (by simp) t
     ·exact k
    have c:=World.cell?_spot (hc 0 (by omega))
    refine⟨?_,rfl,k⟩
    obtain⟨b,o,s⟩:=x
    simp only[Addr.add,if_true] at c
    subst c
    rfl
   ·obtain⟨y,_,rfl⟩:=CF.1 (s3 hr);rfl
   ·rw[p0] at hr;obtain⟨y,g,rfl⟩:=m4.1 hr
    match j with
    |0=>
     have hi:i<len0:=(by have:=(m3.1 g).1;omega);have A:=hc i (by omega);have c:=World.cell?_spot (hc 0 (by omega));obtain⟨b,o,s⟩:=x;simp only[Addr.add,if_true] at c;subst c
     have e:(Addr.mk b o none).add i=⟨b,o+(i*1+0),none⟩:=by
      unfold Addr.add;split;·rename_i h;subst h;simp
      ·simp
     rw[e] at A;exact A
    |j+1=>simp[eU8] at m
   ·rw[p0] at hr;obtain⟨y,g,rfl⟩:=m4.1 hr
    match j with
    |0=>
     simp only[eU8,List.getElem?_cons_zero,Option.some.injEq] at m;subst m
     have u:y=blY.getD i 0:=by
      rw[s4] at g;split at g;·simp[List.getD,g]
      ·cases g
     subst u;exact .v _ rfl
    |j+1=>simp[eU8] at m
end Go.AM
