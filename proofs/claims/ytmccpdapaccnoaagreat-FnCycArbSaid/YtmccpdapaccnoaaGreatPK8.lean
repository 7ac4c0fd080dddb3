/- Texts laid together by a program: rules, contracts and the walk that leads to the law. -/
import Derived.Test.YtmccpdapaccnoaaGreatPK4
import Derived.Test.YtmccpdapaccnoaaGreatPK3
import Derived.OpenShut
import Derived.Below
set_option linter.unusedVariables false
set_option linter.unusedSimpArgs false
set_option linter.unusedSectionVars false
set_option maxRecDepth 100000
set_option maxHeartbeats 8000000
namespace Go.AM
variable{k:Nat}
theorem pY{α:Type} [Inhabited α]{l:List α}{i:Nat}{x:α} (hk:k<l.length):(l.set k x).getD i default=if i=k then x else l.getD i default:=by
 simp only[List.getD,D0];by_cases h:k=i;·subst h;simp[hk]
 ·simp[h,Ne.symm h,eq_comm]
structure mD (c:Cfg) (who:Nat) (p:fR):Prop where
 next:0≤p.next∧p.next≤(c.cP.getD who default).length
 ql:p.queue.length≤2∧(p.queue.length:Int)≤p.next
 ol:p.out.length≤4
 last:0≤p.last∧p.last≤3
 queue: ∀i,i<p.queue.length→p.queue.getD i default=p.next-p.queue.length+i
 out: ∀j∈p.out,j.who=who∧(0≤j.n∧j.n<p.next-p.queue.length)∧j.left=gZ c.map (bT c who j.n)
 acX:p.out.Pairwise fun a b=>a.n<b.n
 akF: ∀a∈p.out,∀b∈p.out,(bT c who a.n).id=(bT c who b.n).id→a.left=b.left
def cS (v:nY):List (Int×Int):=v.done.map key++v.pipe.map fun j=>(j.who,j.n)
structure Z0 (c:Cfg) (s:CSt) (st:Nat):Prop where
 pl:(aL s st).pipe.length≤2
 dl:(aL s st).done.length≤2
 last:0≤(aL s st).last∧(aL s st).last≤2
 inc:(cS (aL s st)).Pairwise fun a b=>a.1=b.1→a.2<b.2
 out: ∀x∈cS (aL s st),(0≤x.1∧x.1≤2)∧ ∃j∈(aF s x.1.toNat).out,j.n=x.2∧j.left=st
 rsp: ∀j∈(aL s st).done,as5 c j
 left: ∀i,i<(aL s st).pipe.length→(0≤((aL s st).pipe.getD i default).left∧((aL s st).pipe.getD i default).left≤c.lat.getD st default)∧(0<i→((aL s st).pipe.getD i default).left=c.lat.getD st default)
def hU (s:CSt) (k:Nat):Nat:=(aL s k).pipe.length+(aL s k).done.length
structure COk (c:Cfg) (s:CSt):Prop where
 atm:WK s.words s.holds
 pl:s.bM.length=3
 sl:s.dD.length=4
 port: ∀k,k<3→mD c k (aF s k)
 slv: ∀k,k<4→Z0 c s k
 count:(aF s 0).out.length+(aF s 1).out.length+(aF s 2).out.length=hU s 0+hU s 1+hU s 2+hU s 3
 st:BA c (cX s)
variable{s:CSt}
theorem wU{j:Job}:j∈qU s↔(∃k,k<s.bM.length∧ ∃m∈(aF s k).queue,j=⟨k,m,oW⟩)∨(∃st,st<s.dD.length∧ ∃x∈(aL s st).pipe,j=⟨x.who,x.n,oW⟩):=by
 unfold qU jJ hJ;simp only[o3,Y8,C2,CF];constructor
 ·rintro(⟨k,hk,m,hm,rfl⟩|⟨st,hs,x,hx,rfl⟩);·exact .inl ⟨k,hk,m,hm,rfl⟩
  ·exact .inr ⟨st,hs,x,hx,rfl⟩
 ·rintro(⟨k,hk,m,hm,rfl⟩|⟨st,hs,x,hx,rfl⟩);·exact .inl ⟨k,hk,m,hm,rfl⟩
  ·exact .inr ⟨st,hs,x,hx,rfl⟩
theorem BU{j:Job}:j∈uQ s↔∃st,st<s.dD.length∧j∈(aL s st).done:=by unfold uQ;simp only[Y8,C2]
variable{c:Cfg}{who:Nat}{p:fR}{n:Int}
theorem mD.asks (h:mD c who p) (hw:who<3) (h0:0≤n) (h1:n<p.next):oA c who n:=by have:=h.next;refine⟨by omega,h0,?_⟩;rw[Int.toNat_natCast];omega
theorem mD.qIn (h:mD c who p){m:Int} (hm:m∈p.queue):p.next-p.queue.length≤m∧m<p.next:=by obtain⟨i,hi,rfl⟩:=bqY.1 hm;have:=h.queue i hi;simp only[List.getD,hi,n1,Option.getD_some] at this;omega
variable{st:Nat}
theorem COk.vIn (h:COk c s) (hs:st<4){x:Int×Int} (hx:x∈cS (aL s st)):(0≤x.1∧x.1≤2)∧0≤x.2∧x.2<(aF s x.1.toNat).next-(aF s x.1.toNat).queue.length:=by obtain⟨h1,j,hj,h2,h3⟩:=(h.slv st hs).out x hx;have:=(h.port x.1.toNat (by omega)).out j hj;exact⟨h1,by omega,by omega⟩
theorem COk.same (h:COk c s){st':Nat} (hs:st<4) (hs':st'<4){x y:Int×Int} (hx:x∈cS (aL s st)) (hy:y∈cS (aL s st')) (he:x.1=y.1) (hi:(bT c x.1 x.2).id=(bT c y.1 y.2).id):st=st':=by
 obtain⟨h1,j,hj,h2,h3⟩:=(h.slv st hs).out x hx;obtain⟨h4,j',hj',h5,h6⟩:=(h.slv st' hs').out y hy;have hp:=h.port x.1.toNat (by omega);rw[←he] at hj'
 have:=hp.akF j hj j' hj' (by
  have e1:((x.1.toNat:Nat):Int)=x.1:=by omega
  rw[e1,h2,h5,hi,he])
 omega
theorem JB{v:nY}{x:fC} (h:x∈v.pipe):(x.who,x.n)∈cS v:=brH _ (CF.2 ⟨x,h,rfl⟩)
theorem M9{v:nY}{x:Job} (h:x∈v.done):key x∈cS v:=brA _ (brI h)
theorem gT{α:Type} [Inhabited α]{l:List α} (h:0<l.length):l=l.getD 0 default::l.drop 1:=by
 cases l with
 |nil=>simp at h
 |cons x l=>simp
variable{l:List Job}
theorem BF{j:Job}:j∈jX l↔j∈l:=(fH l).mem_iff
theorem R6 (hk:k<s.bM.length):(cX s).asked.getD k default=(aF s k).next:=by simp[cX,aF,List.getD,hk]
variable{m:Mic}
theorem XZ (h:COk c s) (hg:EH c s m): ∀e∈y0 s m,X6 c (cX s) e=0:=by
 intro e he;have hpl:=h.pl;have hsl:=h.sl
 cases m with
 |tick st=>simp[y0] at he
 |adm who st=>simp[y0] at he
 |ask who=>
  simp only[y0,CJ] at he;subst he;obtain⟨h1,h2,h3⟩:=hg;have hp:=h.port who h1;have hask:oA c (who:Int) (aF s who).next:=by refine⟨by omega,hp.next.1,?_⟩;rw[Int.toNat_natCast];omega
  unfold X6;dsimp only;rw[if_neg (by exact fun hn=>hn ⟨hask,by omega,by omega⟩),if_pos rfl,if_neg];rw[Int.toNat_natCast,R6 (by omega)];simp
 |work st=>
  simp only[y0,CJ] at he;subst he;obtain⟨h1,h2,h3,h4⟩:=hg;have hmem:bI s st∈(aL s st).pipe:=cC h2;have hk:=JB hmem;obtain⟨hv1,hv2,hv3⟩:=h.vIn h1 hk;dsimp only at hv1 hv2 hv3;have hp:=h.port (bI s st).who.toNat (by omega);have e1:(((bI s st).who.toNat:Nat):Int)=(bI s st).who:=by omega
  have hask:oA c (bI s st).who (bI s st).n:=by have:=hp.asks (n:=(bI s st).n) (by omega) hv2 (by have:=hp.ql;omega);rwa [e1] at this
  have hin: ¬bK (iM (bI s st).who (bI s st).n) (cX s).wait<0:=by have:0≤bK (iM (bI s st).who (bI s st).n) (cX s).wait:=ZP.2 (CF.2 ⟨⟨(bI s st).who,(bI s st).n,oW⟩,BF.2 (wU.2 (.inr ⟨st,by omega,bI s st,hmem,rfl⟩)),rfl⟩);omega
  unfold X6;dsimp only;rw[if_neg (by exact fun hn=>hn ⟨hask,by omega,by omega⟩),if_neg (by omega),if_pos rfl,if_neg hin,if_neg];rw[cH];rintro⟨x,hx,hxa⟩;obtain⟨⟨ha1,ha2⟩,ha3⟩:=of_decide_eq_true hxa;dsimp only at ha1 ha2 ha3;rcases wU.1 (BF.1 hx) with⟨k,hkl,m,hm,rfl⟩|⟨st',hst',y,hy,rfl⟩
  ·dsimp only at ha1 ha2 ha3;have hq:=(h.port k (by omega)).qIn hm;have:(bI s st).who.toNat=k:=(by omega);rw[this] at hv3;omega
  ·dsimp only at ha1 ha2 ha3;have hss:=h.same (by omega) h1 (JB hy) hk ha1 ha3;subst hss;have hinc:=(brM.1 (h.slv st' h1).inc).2.1;rw[gT h2,n3,G0] at hinc;rw[gT h2] at hy;rcases t3.1 hy with rfl|hy;·unfold bI at ha2;omega
   ·have:=hinc.1 (y.who,y.n) (CF.2 ⟨y,hy,rfl⟩);dsimp only at this;unfold bI at ha1 ha2;have:=this ha1.symm;omega
 |tell who st=>
  simp only[y0,CJ] at he;subst he;obtain⟨h0,h1,h2,h3⟩:=hg;have hmem:iF s st∈(aL s st).done:=cC h2;have hk:=M9 hmem;have h3':(iF s st).who=who:=h3;obtain⟨hv1,hv2,hv3⟩:=h.vIn h1 hk;simp only[key] at hv1 hv2 hv3;rw[h3',Int.toNat_natCast] at hv3;have hp:=h.port who h0;have hask:oA c (who:Int) (iF s st).n:=hp.asks h0 hv2 (by have:=hp.ql;omega);have hin: ¬bK (iM who (iF s st).n) (cX s).done<0:=by have:0≤bK (iM who (iF s st).n) (cX s).done:=ZP.2 (CF.2 ⟨iF s st,BF.2 (BU.2 ⟨st,by omega,hmem⟩),by simp[key,h3']⟩);omega
  have hinc:=(h.slv st h1).inc;unfold cS at hinc;rw[gT h2,n3,List.cons_append,G0] at hinc;unfold X6;dsimp only;rw[if_neg (by exact fun hn=>hn ⟨hask,by omega,by omega⟩),if_neg (by omega),if_neg (by omega),if_neg hin,if_neg];rw[cH,cH];rintro(⟨x,hx,hxa⟩|⟨x,hx,hxa⟩)
  ·obtain⟨⟨ha1,ha2⟩,ha3⟩:=of_decide_eq_true hxa;dsimp only at ha1 ha2 ha3;rcases wU.1 (BF.1 hx) with⟨k,hkl,m,hm,rfl⟩|⟨st',hst',y,hy,rfl⟩
   ·dsimp only at ha1 ha2 ha3;have hq:=(h.port k (by omega)).qIn hm;have:who=k:=(by omega);subst this;omega
   ·dsimp only at ha1 ha2 ha3;have hss:=h.same (by omega) h1 (JB hy) hk (by simp only[key];rw[h3'];exact ha1) (by simp only[key];rw[h3'];exact ha3);subst hss;have:=hinc.1 (y.who,y.n) (brH _ (CF.2 ⟨y,hy,rfl⟩));have:=this (by show (iF s st').who=y.who;rw[h3',ha1]);have e2:(key ((aL s st').done.getD 0 default)).2=(iF s st').n:=rfl;dsimp only at this;omega
  ·obtain⟨⟨ha1,ha2⟩,ha3⟩:=of_decide_eq_true hxa;dsimp only at ha1 ha2 ha3;obtain⟨st',hst',hy⟩:=BU.1 (BF.1 hx);have hss:=h.same (by omega) h1 (M9 hy) hk (by simp only[key];rw[h3'];exact ha1) (by simp only[key];rw[h3'];rw[ha1] at ha3;rw[ha1];exact ha3);subst hss;rw[gT h2] at hy;rcases t3.1 hy with rfl|hy;·unfold iF at ha2;omega
   ·have:=hinc.1 (key x) (brA _ (brI hy));have:=this (by show (iF s st').who=x.who;rw[h3',ha1]);have e2:(key ((aL s st').done.getD 0 default)).2=(iF s st').n:=rfl;simp only[key] at this e2;omega
theorem TW (h:(l.map key).Nodup){a b:Job} (ha:a∈l) (hb:b∈l) (he:key a=key b):a=b:=by
 induction l with
 |nil=>simp at ha
 |cons x l ih=>
  rw[n3,bq8] at h;rcases t3.1 ha with e1|h1
  ·rcases t3.1 hb with e2|h2;·rw[e1,e2]
   ·exact absurd (CF.2 ⟨b,h2,by rw[←he,e1]⟩) h.1
  ·rcases t3.1 hb with e2|h2;·exact absurd (CF.2 ⟨a,h1,by rw[he,e2]⟩) h.1
   ·exact ih h.2 h1 h2
theorem bL{s':CSt} (h:s'.bM=s.bM.set who p) (hw:who<s.bM.length) (k:Nat):aF s' k=if k=who then p else aF s k:=by unfold aF;rw[h,pY hw]
theorem bO{s':CSt}{v:nY} (h:s'.dD=s.dD.set st v) (hw:st<s.dD.length) (k:Nat):aL s' k=if k=st then v else aL s k:=by unfold aL;rw[h,pY hw]
theorem af6 (hb:aQ c) (h:COk c s) (hg:EH c s m):cX (aR c s m)=runM c (cX s) (y0 s m):=by
 have hpl:=h.pl;have hsl:=h.sl;have hwhy:=XZ h hg
 cases m with
 |tick st=>
  obtain⟨h1,h2,h3⟩:=hg;have hS:=fun k=>bO (s:=s) (s':=aR c s (.tick st)) rfl (by omega:st<s.dD.length) k;have boS: ∀k,aF (aR c s (.tick st)) k=aF s k:=fun k=>rfl
  have hq: ∀k,hJ (aR c s (.tick st)) k=hJ s k:=fun k=>by
   unfold hJ;rw[hS];split;·rename_i hk;subst hk;rw[gT h2];simp[bI]
   ·rfl
  have hd: ∀k,(aL (aR c s (.tick st)) k).done=(aL s k).done:=fun k=>by
   rw[hS];split;·rename_i hk;subst hk;rfl
   ·rfl
  have hl:(aR c s (.tick st)).dD.length=s.dD.length:=by simp[aR]
  simp only[y0,runM,List.foldl_nil,cX,TSt.mk.injEq];refine⟨rfl,rfl,rfl,?_,?_,rfl⟩;·congr 1;unfold qU;rw[hl];simp only[List.flatMap_def];congr 2;exact brC fun k _=>hq k
  ·congr 1;unfold uQ;rw[hl];simp only[List.flatMap_def];congr 1;exact brC fun k _=>hd k
 |adm who st=>
  obtain⟨h0,h1,h2,h3⟩:=hg;have hS:=fun k=>bO (s:=s) (s':=aR c s (.adm who st)) rfl (by omega:st<s.dD.length) k;have boS:=fun k=>bL (s:=s) (s':=aR c s (.adm who st)) rfl (by omega:who<s.bM.length) k;have hl:(aR c s (.adm who st)).dD.length=s.dD.length:=by simp[aR]
  have hl2:(aR c s (.adm who st)).bM.length=s.bM.length:=by simp[aR]
  have hd: ∀k,(aL (aR c s (.adm who st)) k).done=(aL s k).done:=fun k=>by
   rw[hS];split;·rename_i hk;subst hk;rfl
   ·rfl
  simp only[y0,runM,List.foldl_nil,cX,TSt.mk.injEq];refine⟨rfl,rfl,?_,?_,?_,rfl⟩
  ·apply br2 (by simp[aR]);intro i hi1 hi2;simp only[aR,bqW,Y5] at hi1;simp only[aR,bsD,List.getElem_set];split;·rename_i hk;subst hk;simp[aF,List.getD,hi1]
   ·rfl
  ·apply GN h.st.NR;refine List.Perm.trans ?_ (fH _).symm;rw[brV];intro z;have e1:=tE (k:=who) (n:=s.bM.length) (by omega) (f:=jJ (aR c s (.adm who st))) (g:=jJ s) (fun i hi=>by unfold jJ;rw[boS,if_neg hi]) z;have e2:=tE (k:=st) (n:=s.dD.length) (by omega) (f:=hJ (aR c s (.adm who st))) (g:=hJ s) (fun i hi=>by unfold hJ;rw[hS,if_neg hi]) z;have e3:jJ (aR c s (.adm who st)) who=((aF s who).queue.drop 1).map fun n=>⟨who,n,oW⟩:=by unfold jJ;rw[boS,if_pos rfl]
   have e4:jJ s who=⟨who,(aF s who).queue.getD 0 default,oW⟩::((aF s who).queue.drop 1).map fun n=>⟨who,n,oW⟩:=by
    unfold jJ;conv=>lhs;rw[gT h3.1]
    rfl
   have e5:hJ (aR c s (.adm who st)) st=hJ s st++[⟨who,(aF s who).queue.getD 0 default,oW⟩]:=(by unfold hJ;rw[hS,if_pos rfl];simp);rw[e3,e4] at e1;rw[e5] at e2;unfold qU;rw[hl,hl2];simp only[brS,brW,List.count_nil] at*;omega
  ·congr 1;unfold uQ;rw[hl];simp only[List.flatMap_def];congr 1;exact brC fun k _=>hd k
 |ask who=>
  obtain⟨h0,h1,h2⟩:=hg;have boS:=fun k=>bL (s:=s) (s':=aR c s (.ask who)) rfl (by omega:who<s.bM.length) k;have hl2:(aR c s (.ask who)).bM.length=s.bM.length:=by simp[aR]
  have hso:=G9 hb h.st (hwhy ⟨1,who,(aF s who).next⟩ (CJ.2 rfl));have boU:lS c (cX s) ⟨1,who,(aF s who).next⟩= {cX s with asked:=(cX s).asked.set who ((aF s who).next+1),wait:=BM (cX s).wait ⟨who,(aF s who).next,oW⟩}:=by simp[lS]
  have hso1:=hso.NR;rw[boU] at hso1;simp only[y0];rw[wW,boU];simp only[runM,List.foldl_nil,cX,TSt.mk.injEq];refine⟨rfl,rfl,?_,?_,rfl,rfl⟩;·simp[aR,brD]
  ·apply GN hso1;refine List.Perm.trans ?_ ((nE _ _).trans ((fH _).cons _)).symm;rw[brV];intro z;have e1:=tE (k:=who) (n:=s.bM.length) (by omega) (f:=jJ (aR c s (.ask who))) (g:=jJ s) (fun i hi=>by unfold jJ;rw[boS,if_neg hi]) z;have e3:jJ (aR c s (.ask who)) who=jJ s who++[⟨who,(aF s who).next,oW⟩]:=(by unfold jJ;rw[boS,if_pos rfl];simp);have e6:(List.range (aR c s (.ask who)).dD.length).flatMap (hJ (aR c s (.ask who)))=(List.range s.dD.length).flatMap (hJ s):=rfl;rw[e3] at e1;unfold qU;rw[hl2,e6];simp only[brS,brW,List.count_nil] at*;omega
 |work st=>
  obtain⟨h1,h2,h3,h4⟩:=hg;have hS:=fun k=>bO (s:=s) (s':=aR c s (.work st)) rfl (by omega:st<s.dD.length) k;have hl:(aR c s (.work st)).dD.length=s.dD.length:=by simp[aR]
  have hw:=hwhy ⟨2,(bI s st).who,(bI s st).n⟩ (CJ.2 rfl);have hso:=G9 hb h.st hw;have hz:=(M8 hw).2
  have hin: ¬bK (iM (bI s st).who (bI s st).n) (cX s).wait<0:=by
   rcases hz with⟨hk,_⟩|⟨hk,hi⟩|⟨hk,_⟩
   ·exact absurd hk (by dsimp only;decide)
   ·exact hi
   ·exact absurd hk (by dsimp only;decide)
  obtain⟨hi1,hi2⟩:=pW hin;have boU:lS c (cX s) ⟨2,(bI s st).who,(bI s st).n⟩= {cX s with words:=(jD c s st).1.1,holds:=(jD c s st).1.2,wait:=MT (cX s).wait (bK (iM (bI s st).who (bI s st).n) (cX s).wait).toNat,done:=BM (cX s).done ⟨(bI s st).who,(bI s st).n,(jD c s st).2⟩}:=by simp only[lS,jD,cX,if_true,if_false,Int.reduceEq]
  have hso1:=hso.NR;have hso2:=hso.NW;rw[boU] at hso1 hso2;simp only[y0];rw[wW,boU];simp only[runM,List.foldl_nil];have hjob:(cX s).wait.getD (bK (iM (bI s st).who (bI s st).n) (cX s).wait).toNat default=⟨(bI s st).who,(bI s st).n,oW⟩:=by have hm:=cC hi1;have hr:=h.st.P4 _ hm;generalize (cX s).wait.getD (bK (iM (bI s st).who (bI s st).n) (cX s).wait).toNat default=x at hi2 hr;obtain⟨x1,bpZ,aYM⟩:=x;simp only[key,Prod.mk.injEq] at hi2;dsimp only at hr;rw[hi2.1,hi2.2,hr]
  have hperm:=A4 hi1;rw[hjob] at hperm
  have aYL:jX (qU (aR c s (.work st)))=MT (cX s).wait (bK (iM (bI s st).who (bI s st).n) (cX s).wait).toNat:=by
   apply GN hso1;refine List.Perm.cons_inv (a:=⟨(bI s st).who,(bI s st).n,oW⟩) ?_;refine List.Perm.trans ?_ ((fH _).symm.trans hperm);rw[brV];intro z;have e2:=tE (k:=st) (n:=s.dD.length) (by omega) (f:=hJ (aR c s (.work st))) (g:=hJ s) (fun i hi=>by unfold hJ;rw[hS,if_neg hi]) z
   have e5:hJ s st=⟨(bI s st).who,(bI s st).n,oW⟩::hJ (aR c s (.work st)) st:=by
    unfold hJ;rw[hS,if_pos rfl];conv=>lhs;rw[gT h2]
    rfl
   have e6:(List.range (aR c s (.work st)).bM.length).flatMap (jJ (aR c s (.work st)))=(List.range s.bM.length).flatMap (jJ s):=rfl;rw[e5] at e2;unfold qU;rw[hl,e6];simp only[brS,brW,List.count_nil] at*;omega
  have bqA:jX (uQ (aR c s (.work st)))=BM (cX s).done ⟨(bI s st).who,(bI s st).n,(jD c s st).2⟩:=by apply GN hso2;refine List.Perm.trans ?_ ((nE _ _).trans ((fH _).cons _)).symm;rw[brV];intro z;have e2:=tE (k:=st) (n:=s.dD.length) (by omega) (f:=fun k=>(aL (aR c s (.work st)) k).done) (g:=fun k=>(aL s k).done) (fun i hi=>by rw[hS,if_neg hi]) z;have e5:(aL (aR c s (.work st)) st).done=(aL s st).done++[⟨(bI s st).who,(bI s st).n,(jD c s st).2⟩]:=(by rw[hS,if_pos rfl]);rw[e5] at e2;unfold uQ;rw[hl];simp only[brS,brW,List.count_nil] at*;omega
  show TSt.mk _ _ _ (jX (qU (aR c s (.work st)))) (jX (uQ (aR c s (.work st)))) _=_;rw[aYL,bqA];rfl
 |tell who st=>
  obtain⟨h0,h1,h2,h3⟩:=hg;have h3':(iF s st).who=who:=h3;have hS:=fun k=>bO (s:=s) (s':=aR c s (.tell who st)) rfl (by omega:st<s.dD.length) k;have boS:=fun k=>bL (s:=s) (s':=aR c s (.tell who st)) rfl (by omega:who<s.bM.length) k;have hl:(aR c s (.tell who st)).dD.length=s.dD.length:=by simp[aR]
  have hl2:(aR c s (.tell who st)).bM.length=s.bM.length:=by simp[aR]
  have hw:=hwhy ⟨3,who,(iF s st).n⟩ (CJ.2 rfl);have hso:=G9 hb h.st hw;have hz:=(M8 hw).2
  have hin: ¬bK (iM who (iF s st).n) (cX s).done<0:=by
   rcases hz with⟨hk,_⟩|⟨hk,hi⟩|⟨hk,hi⟩
   ·exact absurd hk (by dsimp only;decide)
   ·exact absurd hk (by dsimp only;decide)
   ·exact hi
  obtain⟨hi1,hi2⟩:=pW hin;have boU:lS c (cX s) ⟨3,who,(iF s st).n⟩= {cX s with told:=(cX s).told++[(cX s).done.getD (bK (iM who (iF s st).n) (cX s).done).toNat default],done:=MT (cX s).done (bK (iM who (iF s st).n) (cX s).done).toNat}:=by simp only[lS,if_false,Int.reduceEq]
  have hso2:=hso.NW;rw[boU] at hso2;simp only[y0];rw[wW,boU];simp only[runM,List.foldl_nil];have hjob:(cX s).done.getD (bK (iM who (iF s st).n) (cX s).done).toNat default=iF s st:=by refine TW (zG h.st.NW) (cC hi1) (BF.2 (BU.2 ⟨st,by omega,cC h2⟩)) ?_;rw[hi2];simp[key,h3']
  have hperm:=A4 hi1;rw[hjob] at hperm
  have aYL:jX (qU (aR c s (.tell who st)))=(cX s).wait:=by
   show jX _=jX _;congr 1;unfold qU;rw[hl,hl2];simp only[List.flatMap_def];congr 2
   ·exact brC fun k _=>by
     unfold jJ;rw[boS];split;·rename_i hk;subst hk;rfl
     ·rfl
   ·exact brC fun k _=>by
     unfold hJ;rw[hS];split;·rename_i hk;subst hk;rfl
     ·rfl
  have bqA:jX (uQ (aR c s (.tell who st)))=MT (cX s).done (bK (iM who (iF s st).n) (cX s).done).toNat:=by apply GN hso2;apply List.Perm.cons_inv (a:=iF s st);refine List.Perm.trans ?_ ((fH _).symm.trans hperm);rw[brV];intro z;have e2:=tE (k:=st) (n:=s.dD.length) (by omega) (f:=fun k=>(aL (aR c s (.tell who st)) k).done) (g:=fun k=>(aL s k).done) (fun i hi=>by rw[hS,if_neg hi]) z;have e5:(aL s st).done=iF s st::(aL (aR c s (.tell who st)) st).done:=(by rw[hS,if_pos rfl];exact gT h2);rw[e5] at e2;unfold uQ;rw[hl];simp only[brS,brW,List.count_nil] at*;omega
  have hA:(aR c s (.tell who st)).bM.map (·.next)=s.bM.map (·.next):=by
   apply br2 (by simp[aR]);intro i hi1 hi2;simp only[aR,bqW,Y5] at hi1;simp only[aR,bsD,List.getElem_set];split;·rename_i hk;subst hk;simp[aF,List.getD,hi1]
   ·rfl
  show TSt.mk _ _ ((aR c s (.tell who st)).bM.map (·.next)) (jX (qU (aR c s (.tell who st)))) (jX (uQ (aR c s (.tell who st)))) (s.told++[iF s st])=_;rw[aYL,bqA,hA,hjob];rfl
theorem WU{α:Type} [Inhabited α]{l:List α} (h:k<l.length):l.Perm (l.getD k default::B3 l k):=by
 have e:l=l.take k++l.getD k default::l.drop (k+1):=by
  have:l.getD k default=l[k]:=by simp[List.getD,h]
  rw[this,←brB h,boN]
 conv=>lhs;rw[e]
 exact brR
theorem akU{α:Type}{l:List α}:(B3 l k).Sublist l:=by unfold B3;have h:=(List.Sublist.refl (l.take k)).append (bsK l (Nat.le_succ k));rwa [boN] at h
theorem RP{α:Type} [Inhabited α]{l:List α} (h:k<l.length):(B3 l k).length+1=l.length:=by have:=(WU h).length_eq;simp at this;omega
theorem ajV{α:Type} [Inhabited α]{p:α→Bool}{l:List α} (h:0≤bK p l):(bK p l).toNat<l.length∧p (l.getD (bK p l).toNat default)=true:=by
 have h1:=PQ (p:=p) (l:=l);refine⟨by omega,?_⟩;unfold bK at*;split at h;·rename_i i hi;have:=Z4.1 hi;obtain⟨q1,q2,_⟩:=this;simpa [List.getD,q1] using q2
 ·omega
theorem PJ{l:List fC} (h: ∃j∈l,j.n=n):(bK (isC n) l).toNat<l.length∧(l.getD (bK (isC n) l).toNat default).n=n:=by obtain⟨j,hj,hn⟩:=h;have h1:0≤bK (isC n) l:=cH.2 ⟨j,hj,by simp[isC,hn]⟩;obtain⟨q1,q2⟩:=ajV h1;exact⟨q1,by simpa [isC] using q2⟩
theorem aj2{l:List fC} (h: ∃j∈l,j.n=n):(PE l n).length+1=l.length:=RP (PJ h).1
theorem amU{l:List fC} (h: ∃j∈l,j.n=n){x:fC} (hx:x∈l) (hn:x.n≠n):x∈PE l n:=by
 obtain⟨h1,h2⟩:=PJ h;have:=(WU h1).mem_iff.1 hx;rcases t3.1 this with rfl|hm;·exact absurd h2 hn
 ·exact hm
theorem TA{l:List fC}:(PE l n).Sublist l:=akU
theorem QF{α:Type} [Inhabited α]{l:List α}{i:Nat}:(l.drop 1).getD i default=l.getD (i+1) default:=by
 cases l with
 |nil=>simp
 |cons x l=>simp
theorem WI{α:Type} [Inhabited α]{l:List α}{x:α}{i:Nat}:(l++[x]).getD i default=if i=l.length then x else l.getD i default:=by
 simp only[List.getD,o5];split;·rw[if_neg (by omega)]
 ·split;·rename_i h;subst h;simp
  ·rename_i h1 h2;rw[Z3 (by simp;omega),Z3 (by omega)]
theorem ZO{l:List fC} (h:l.Pairwise fun a b=>a.n<b.n){a b:fC} (ha:a∈l) (hb:b∈l) (he:a.n=b.n):a=b:=by
 induction l with
 |nil=>simp at ha
 |cons x l ih=>
  rw[G0] at h;rcases t3.1 ha with e1|h1
  ·rcases t3.1 hb with e2|h2;·rw[e1,e2]
   ·have:=h.1 b h2;rw[e1] at he;omega
  ·rcases t3.1 hb with e2|h2;·have:=h.1 a h1;rw[e2] at he;omega
   ·exact ih h.2 h1 h2
theorem S0 (hb:aQ c) (h:st<4):0≤c.lat.getD st default∧c.lat.getD st default≤3:=aj1 hb.2.2.1 (by have:=hb.2.1;omega)
theorem COk.af8 (h:COk c s) (hs:st<4) (hd:0<(aL s st).done.length): ∃j∈(aF s (iF s st).who.toNat).out,j.n=(iF s st).n∧j.left=st:=((h.slv st hs).out _ (M9 (cC hd))).2
theorem Z0.wT{s':CSt} (h:Z0 c s st) (he:aL s' st=aL s st) (ho: ∀x∈cS (aL s st),∀j∈(aF s x.1.toNat).out,j.n=x.2→j.left=st→j∈(aF s' x.1.toNat).out):Z0 c s' st:=by refine⟨by rw[he];exact h.pl,by rw[he];exact h.dl,by rw[he];exact h.last,by rw[he];exact h.inc,fun x hx=> ?_,by rw[he];exact h.rsp,by rw[he];exact h.left⟩;rw[he] at hx;obtain⟨q1,j,q2,q3,q4⟩:=h.out x hx;exact⟨q1,j,ho x hx j q2 q3 q4,q3,q4⟩
theorem mD.tell (h:mD c who p) (hs:st<4):mD c who {p with out:=PE p.out n,last:=st}:=by have hm: ∀j∈PE p.out n,j∈p.out:=fun j hj=>TA.subset hj;exact⟨h.next,h.ql,CQ TA.length_le h.ol,by dsimp only;omega,h.queue,fun j hj=>h.out j (hm j hj),h.acX.sublist TA,fun a ha b hb=>h.akF a (hm a ha) b (hm b hb)⟩
theorem mD.adm (h:mD c who p) (h1:0<p.queue.length) (h2:p.out.length<4) (h3:gZ c.map (bT c who (p.queue.getD 0 default))=st)
 (h4: ∀j∈p.out,(bT c who j.n).id=(bT c who (p.queue.getD 0 default)).id→j.left=st):mD c who {p with queue:=p.queue.drop 1,out:=p.out++[⟨who,p.queue.getD 0 default,st⟩]}:=by
 have hq0:=h.queue 0 h1
 have hn:=h.next
 have hql:=h.ql
 have hl:(p.queue.drop 1).length=p.queue.length-1:=by simp
 refine⟨hn,by dsimp only;omega,by simp;omega,h.last,fun i hi=> ?_,fun j hj=> ?_,?_,fun a ha b hb hab=> ?_⟩
 ·dsimp only at hi ⊢;rw[QF,h.queue (i+1) (by omega)];omega
 ·dsimp only at hj ⊢;rcases o3.1 hj with hj|hj;·have:=h.out j hj;exact⟨this.1,by omega,this.2.2⟩
  ·simp only[CJ] at hj;subst hj;exact⟨rfl,by dsimp only;omega,h3.symm⟩
 ·dsimp only;rw[brM];refine⟨h.acX,by simp,fun a ha b hb=> ?_⟩;simp only[CJ] at hb;subst hb;have:=(h.out a ha).2.1;dsimp only;omega
 ·dsimp only at ha hb;rcases o3.1 ha with ha|ha<;>rcases o3.1 hb with hb|hb;·exact h.akF a ha b hb hab
  ·simp only[CJ] at hb;subst hb;exact h4 a ha hab
  ·simp only[CJ] at ha;subst ha;exact(h4 b hb hab.symm).symm
  ·simp only[CJ] at ha hb;subst ha;subst hb;rfl
theorem mD.ask (h:mD c who p) (h1:p.queue.length<2) (h2:p.next<(c.cP.getD who default).length):mD c who {p with queue:=p.queue++[p.next],next:=p.next+1}:=by
 have hn:=h.next;have hql:=h.ql;refine⟨by dsimp only;omega,by simp;omega,h.ol,h.last,fun i hi=> ?_,fun j hj=> ?_,h.acX,h.akF⟩
 ·simp only[t2,List.length_singleton] at hi ⊢;rw[WI];split;·omega
  ·rw[h.queue i (by omega)];omega
 ·have:=h.out j hj;refine⟨this.1,?_,this.2.2⟩;simp only[t2,List.length_singleton];omega
theorem ajG (hb:aQ c) (h:COk c s) (hg:EH c s m):BA c (cX (aR c s m)):=by
 rw[af6 hb h hg];have hw:=XZ h hg
 cases m with
 |tick st=>exact h.st
 |adm who st=>exact h.st
 |tell who st=>exact G9 hb h.st (hw ⟨3,who,(iF s st).n⟩ (CJ.2 rfl))
 |work st=>exact G9 hb h.st (hw ⟨2,(bI s st).who,(bI s st).n⟩ (CJ.2 rfl))
 |ask who=>exact G9 hb h.st (hw ⟨1,who,(aF s who).next⟩ (CJ.2 rfl))
theorem aa4:(aR c s m).bM.length=s.bM.length∧(aR c s m).dD.length=s.dD.length:=by cases m<;>simp[aR]
theorem am9 (h:COk c s) (hg:EH c s m): ∀k,k<3→mD c k (aF (aR c s m) k):=by
 have hpl:=h.pl;intro k hk;have hp:=h.port k hk
 cases m with
 |tick st=>exact hp
 |work st=>exact hp
 |tell who st=>
  obtain⟨h0,h1,h2,h3⟩:=hg;rw[bL (s:=s) (s':=aR c s (.tell who st)) rfl (by omega)];split;·rename_i e;subst e;exact hp.tell h1
  ·exact hp
 |adm who st=>
  obtain⟨h0,h1,h2,h3,h4,h5,h6⟩:=hg;rw[bL (s:=s) (s':=aR c s (.adm who st)) rfl (by omega)];split;·rename_i e;subst e;exact hp.adm h3 h4 h5 h6
  ·exact hp
 |ask who=>
  obtain⟨h0,h1,h2⟩:=hg;rw[bL (s:=s) (s':=aR c s (.ask who)) rfl (by omega)];split;·rename_i e;subst e;exact hp.ask h1 h2
  ·exact hp
theorem an6 (hb:aQ c) (h:COk c s) (hg:EH c s m): ∀k,k<4→Z0 c (aR c s m) k:=by
 have hpl:=h.pl;have hsl:=h.sl;intro k hk;have hv:=h.slv k hk
 cases m with
 |ask who=>
  obtain⟨h0,h1,h2⟩:=hg;refine hv.wT rfl fun x hx j hj _ _=> ?_;rw[bL (s:=s) (s':=aR c s (.ask who)) rfl (by omega)];split;·rename_i e;rw[e] at hj;exact hj
  ·exact hj
 |tick st=>
  obtain⟨h1,h2,h3⟩:=hg;have hS:=bO (s:=s) (s':=aR c s (.tick st)) rfl (by omega:st<s.dD.length) k;by_cases e:k=st
  ·subst e;rw[if_pos rfl] at hS;have hl0:=hv.left 0 h2
   have hk2:cS (aL (aR c s (.tick k)) k)=cS (aL s k):=by
    rw[hS];unfold cS;dsimp only;congr 1;conv=>rhs;rw[gT h2]
    conv=>lhs;rw[gT h2]
    rfl
   refine⟨by rw[hS];simpa using hv.pl,by rw[hS];exact hv.dl,by rw[hS];exact hv.last,by rw[hk2];exact hv.inc,fun x hx=> ?_,by rw[hS];exact hv.rsp,?_⟩;·rw[hk2] at hx;exact hv.out x hx
   ·rw[hS];simp only[Y5];intro i hi;rw[pY h2];split;·rename_i e;subst e;dsimp only;unfold bI;exact⟨by omega,fun hc=>absurd hc (by omega)⟩
    ·exact hv.left i hi
  ·rw[if_neg e] at hS;exact hv.wT hS fun x hx j hj _ _=>hj
 |work st=>
  obtain⟨h1,h2,h3,h4⟩:=hg;have hS:=bO (s:=s) (s':=aR c s (.work st)) rfl (by omega:st<s.dD.length) k;by_cases e:k=st
  ·subst e;rw[if_pos rfl] at hS
   have hk2:cS (aL (aR c s (.work k)) k)=cS (aL s k):=by
    rw[hS];unfold cS;dsimp only;conv=>rhs;rw[gT h2]
    simp[key,bI]
   have hm:((bI s k).who,(bI s k).n)∈cS (aL s k):=JB (cC h2);obtain⟨q1,q2,q3⟩:=h.vIn h1 hm;dsimp only at q1 q2 q3;refine⟨by rw[hS];have:=hv.pl;simp;omega,by rw[hS];simp;omega,by rw[hS];exact hv.last,by rw[hk2];exact hv.inc,fun x hx=> ?_,?_,?_⟩;·rw[hk2] at hx;exact hv.out x hx
   ·rw[hS];intro j hj;rcases o3.1 hj with hj|hj;·exact hv.rsp j hj
    ·simp only[CJ] at hj;subst hj;have hp:=h.port (bI s k).who.toNat (by omega);have hask:oA c (bI s k).who (bI s k).n:=by have:=hp.asks (n:=(bI s k).n) (by omega) q2 (by have:=hp.ql;omega);have e1:(((bI s k).who.toNat:Nat):Int)=(bI s k).who:=(by omega);rwa [e1] at this
     exact afD h.atm.wr (GK hb hask)
   ·rw[hS];simp only[CI];intro i hi;rw[QF];have:=hv.left (i+1) (by omega);rw[this.2 (by omega)];have:=S0 hb h1;exact⟨by omega,fun _=>rfl⟩
  ·rw[if_neg e] at hS;exact hv.wT hS fun x hx j hj _ _=>hj
 |adm who st=>
  obtain⟨h0,h1,h2,h3,h4,h5,h6⟩:=hg;have hS:=bO (s:=s) (s':=aR c s (.adm who st)) rfl (by omega:st<s.dD.length) k;have boS:=fun w=>bL (s:=s) (s':=aR c s (.adm who st)) rfl (by omega:who<s.bM.length) w
  have hsub: ∀w,∀j∈(aF s w).out,j∈(aF (aR c s (.adm who st)) w).out:=fun w j hj=>by
   rw[boS];split;·rename_i e;subst e;exact brA _ hj
   ·exact hj
  by_cases e:k=st
  ·subst e;rw[if_pos rfl] at hS;have hk2:cS (aL (aR c s (.adm who k)) k)=cS (aL s k)++[((who:Int),(aF s who).queue.getD 0 default)]:=(by rw[hS];unfold cS;simp);have hq0:=(h.port who h0).queue 0 h3;refine⟨by rw[hS];simp;omega,by rw[hS];exact hv.dl,by rw[hS];dsimp only;omega,?_,fun x hx=> ?_,by rw[hS];exact hv.rsp,?_⟩;·rw[hk2,brM];refine⟨hv.inc,by simp,fun a ha b hb' hab=> ?_⟩;simp only[CJ] at hb';subst hb';dsimp only at hab ⊢;have:=(h.vIn h1 ha).2.2;have e:a.1.toNat=who:=(by omega);rw[e] at this;omega
   ·rw[hk2] at hx;rcases o3.1 hx with hx|hx;·obtain⟨q1,j,q2,q3⟩:=hv.out x hx;exact⟨q1,j,hsub _ j q2,q3⟩
    ·simp only[CJ] at hx;subst hx;refine⟨by dsimp only;omega,⟨who,(aF s who).queue.getD 0 default,k⟩,?_,rfl,rfl⟩;rw[boS,if_pos (by simp)];simp
   ·rw[hS];simp only[t2,List.length_singleton];intro i hi;rw[WI];have:=S0 hb h1;split;·exact⟨by dsimp only;omega,fun _=>rfl⟩
    ·exact hv.left i (by omega)
  ·rw[if_neg e] at hS;exact hv.wT hS fun x hx j hj _ _=>hsub _ j hj
 |tell who st=>
  obtain⟨h0,h1,h2,h3⟩:=hg;have h3':(iF s st).who=who:=h3;have hS:=bO (s:=s) (s':=aR c s (.tell who st)) rfl (by omega:st<s.dD.length) k;have boS:=fun w=>bL (s:=s) (s':=aR c s (.tell who st)) rfl (by omega:who<s.bM.length) w;obtain⟨jh,g1,g2,g3⟩:=h.af8 h1 h2;have ew:(iF s st).who.toNat=who:=by omega
  rw[ew] at g1;have hex: ∃j∈(aF s who).out,j.n=(iF s st).n:=⟨jh,g1,g2⟩
  have hsub: ∀w,∀j∈(aF s w).out,(w=who→j.n≠(iF s st).n)→j∈(aF (aR c s (.tell who st)) w).out:=fun w j hj hne=>by
   rw[boS];split;·rename_i e;subst e;exact amU hex hj (hne rfl)
   ·exact hj
  have hcons:cS (aL s st)=key (iF s st)::(((aL s st).done.drop 1).map key++(aL s st).pipe.map fun j=>(j.who,j.n)):=by
   unfold cS;conv=>lhs;rw[gT h2]
   rfl
  by_cases e:k=st
  ·subst e;rw[if_pos rfl] at hS;have hk2:cS (aL (aR c s (.tell who k)) k)=((aL s k).done.drop 1).map key++(aL s k).pipe.map fun j=>(j.who,j.n):=by rw[hS];rfl
   have hinc:=hv.inc;rw[hcons,G0] at hinc;refine⟨by rw[hS];exact hv.pl,by rw[hS];have:=hv.dl;simp;omega,by rw[hS];exact hv.last,by rw[hk2];exact hinc.2,fun x hx=> ?_,?_,by rw[hS];exact hv.left⟩;·rw[hk2] at hx;obtain⟨q1,j,q2,q3,q4⟩:=hv.out x (by rw[hcons];exact bq9 _ hx);refine⟨q1,j,hsub _ j q2 fun he hn=> ?_,q3,q4⟩;have:=hinc.1 x hx (by simp only[key];omega);simp only[key] at this;omega
   ·rw[hS];exact fun j hj=>hv.rsp j (bsE hj)
  ·rw[if_neg e] at hS;refine hv.wT hS fun x hx j hj hn hl=>hsub _ j hj fun he hne=> ?_;subst he;have hp:=h.port x.1.toNat h0;have hu:jh=j:=(by exact ZO hp.acX g1 hj (by omega));subst hu;omega
theorem abB{f g:Nat→Nat} (h:who<3) (hfg: ∀i,i≠who→f i=g i):f 0+f 1+f 2+g who=g 0+g 1+g 2+f who:=by
 have:who=0∨who=1∨who=2:=by omega
 rcases this with rfl|rfl|rfl;·have:=hfg 1 (by omega);have:=hfg 2 (by omega);omega
 ·have:=hfg 0 (by omega);have:=hfg 2 (by omega);omega
 ·have:=hfg 0 (by omega);have:=hfg 1 (by omega);omega
theorem aaC{f g:Nat→Nat} (h:st<4) (hfg: ∀i,i≠st→f i=g i):f 0+f 1+f 2+f 3+g st=g 0+g 1+g 2+g 3+f st:=by
 have:st=0∨st=1∨st=2∨st=3:=by omega
 rcases this with rfl|rfl|rfl|rfl;·have:=hfg 1 (by omega);have:=hfg 2 (by omega);have:=hfg 3 (by omega);omega
 ·have:=hfg 0 (by omega);have:=hfg 2 (by omega);have:=hfg 3 (by omega);omega
 ·have:=hfg 0 (by omega);have:=hfg 1 (by omega);have:=hfg 3 (by omega);omega
 ·have:=hfg 0 (by omega);have:=hfg 1 (by omega);have:=hfg 2 (by omega);omega
theorem ahN (h:COk c s) (hg:EH c s m):(aF (aR c s m) 0).out.length+(aF (aR c s m) 1).out.length+(aF (aR c s m) 2).out.length=hU (aR c s m) 0+hU (aR c s m) 1+hU (aR c s m) 2+hU (aR c s m) 3:=by
 have hpl:=h.pl;have hsl:=h.sl;have hc:=h.count
 cases m with
 |ask who=>
  obtain⟨h0,h1,h2⟩:=hg;have boS:=fun w=>bL (s:=s) (s':=aR c s (.ask who)) rfl (by omega:who<s.bM.length) w
  have: ∀w,(aF (aR c s (.ask who)) w).out=(aF s w).out:=fun w=>by
   rw[boS];split;·rename_i e;subst e;rfl
   ·rfl
  rw[this,this,this];exact hc
 |tick st=>
  obtain⟨h1,h2,h3⟩:=hg;have hS:=fun k=>bO (s:=s) (s':=aR c s (.tick st)) rfl (by omega:st<s.dD.length) k
  have: ∀k,hU (aR c s (.tick st)) k=hU s k:=fun k=>by
   unfold hU;rw[hS];split;·rename_i e;subst e;simp
   ·rfl
  rw[this,this,this,this];exact hc
 |work st=>
  obtain⟨h1,h2,h3,h4⟩:=hg;have hS:=fun k=>bO (s:=s) (s':=aR c s (.work st)) rfl (by omega:st<s.dD.length) k
  have: ∀k,hU (aR c s (.work st)) k=hU s k:=fun k=>by
   unfold hU;rw[hS];split;·rename_i e;subst e;simp;omega
   ·rfl
  rw[this,this,this,this];exact hc
 |adm who st=>
  obtain⟨h0,h1,h2,h3⟩:=hg;have hS:=fun k=>bO (s:=s) (s':=aR c s (.adm who st)) rfl (by omega:st<s.dD.length) k;have boS:=fun w=>bL (s:=s) (s':=aR c s (.adm who st)) rfl (by omega:who<s.bM.length) w;have e1:=abB (f:=fun w=>(aF (aR c s (.adm who st)) w).out.length) (g:=fun w=>(aF s w).out.length) h0 fun i hi=>by rw[boS,if_neg hi]
  have e2:=aaC (f:=hU (aR c s (.adm who st))) (g:=hU s) h1 fun i hi=>by unfold hU;rw[hS,if_neg hi]
  have e3:(aF (aR c s (.adm who st)) who).out.length=(aF s who).out.length+1:=by rw[boS,if_pos rfl];simp
  have e4:hU (aR c s (.adm who st)) st=hU s st+1:=by unfold hU;rw[hS,if_pos rfl];simp;omega
  omega
 |tell who st=>
  obtain⟨h0,h1,h2,h3⟩:=hg;have h3':(iF s st).who=who:=h3;have hS:=fun k=>bO (s:=s) (s':=aR c s (.tell who st)) rfl (by omega:st<s.dD.length) k;have boS:=fun w=>bL (s:=s) (s':=aR c s (.tell who st)) rfl (by omega:who<s.bM.length) w;obtain⟨jh,g1,g2,g3⟩:=h.af8 h1 h2;have ew:(iF s st).who.toNat=who:=by omega
  rw[ew] at g1;have e1:=abB (f:=fun w=>(aF (aR c s (.tell who st)) w).out.length) (g:=fun w=>(aF s w).out.length) h0 fun i hi=>by rw[boS,if_neg hi]
  have e2:=aaC (f:=hU (aR c s (.tell who st))) (g:=hU s) h1 fun i hi=>by unfold hU;rw[hS,if_neg hi]
  have e3:(aF (aR c s (.tell who st)) who).out.length+1=(aF s who).out.length:=by rw[boS,if_pos rfl];exact aj2 ⟨jh,g1,g2⟩
  have e4:hU (aR c s (.tell who st)) st+1=hU s st:=by unfold hU;rw[hS,if_pos rfl];simp;omega
  omega
theorem o9 (hb:aQ c) (h:COk c s) (hg:EH c s m):COk c (aR c s m):=⟨(ajG hb h hg).atm,by rw[aa4.1];exact h.pl,by rw[aa4.2];exact h.sl,am9 h hg,an6 hb h hg,ahN h hg,ajG hb h hg⟩
def wY (c:Cfg):CSt→List Mic→Prop
 |_,[]=>True
 |s,m::l=>EH c s m∧wY c (aR c s m) l
def dR (c:Cfg) (s:CSt) (l:List Mic):CSt:=l.foldl (aR c) s
def iP (c:Cfg):CSt→List Mic→List Ev
 |_,[]=>[]
 |s,m::l=>y0 s m++iP c (aR c s m) l
theorem tB{a b:List Mic}:dR c s (a++b)=dR c (dR c s a) b:=by simp[dR]
theorem HA {c:Cfg}: ∀{a b:List Mic} {s:CSt},wY c s (a++b)↔wY c s a∧wY c (dR c s a) b
 | [],b,s=>by simp[wY,dR]
 |m::a,b,s=>by have:=HA (c:=c) (a:=a) (b:=b) (s:=aR c s m);simp only[List.cons_append,wY,this,and_assoc];rfl
theorem G6 {c:Cfg}: ∀{a b:List Mic} {s:CSt},iP c s (a++b)=iP c s a++iP c (dR c s a) b
 | [],b,s=>by simp[iP,dR]
 |m::a,b,s=>by have:=G6 (c:=c) (a:=a) (b:=b) (s:=aR c s m);simp only[List.cons_append,iP,this,C0];rfl
theorem CV {c:Cfg} (hb:aQ c): ∀{l:List Mic} {s:CSt},COk c s→wY c s l→COk c (dR c s l)∧cX (dR c s l)=runM c (cX s) (iP c s l)∧F9 c (cX s) (iP c s l)
 | [],s,h,_=>⟨h,rfl,pV⟩
 |m::l,s,h,hg=>by
  obtain⟨h1,h2⟩:=hg;obtain⟨q1,q2,q3⟩:=CV hb (l:=l) (o9 hb h h1) h2;have ha:=af6 hb h h1;refine⟨q1,?_,?_⟩;·show cX (dR c (aR c s m) l)=_;rw[q2,ha];show _=runM c (cX s) (y0 s m++iP c (aR c s m) l);rw[ZL]
  ·show F9 c (cX s) (y0 s m++iP c (aR c s m) l);rw[WS];refine⟨?_,by rw[←ha];exact q3⟩;have hw:=XZ h h1
   cases m with
   |tick st=>exact pV
   |adm who st=>exact pV
   |tell who st=>exact xB.2 ⟨hw ⟨3,who,(iF s st).n⟩ (CJ.2 rfl),pV⟩
   |work st=>exact xB.2 ⟨hw ⟨2,(bI s st).who,(bI s st).n⟩ (CJ.2 rfl),pV⟩
   |ask who=>exact xB.2 ⟨hw ⟨1,who,(aF s who).next⟩ (CJ.2 rfl),pV⟩
def pQ (s:CSt) (who k:Nat):Nat:=(((aF s who).last+(k:Int))%4).toNat
def NN (s:CSt) (who st:Nat):Bool:=decide (0<(aL s st).done.length∧((aL s st).done.getD 0 default).who=who)
def vT (i:CIn) (s:CSt) (who:Nat):Option Mic:=if i.ready.getD who default=true then (([1,2,3,4].map (pQ s who)).find? (NN s who)).map (.tell who) else none
def qW (i:CIn) (s:CSt) (st:Nat):Option Mic:=if i.n9.getD st default=true∨(aL s st).pipe.length=0 then none else if 0<(bI s st).left then some (.tick st) else if (aL s st).done.length<2 then some (.work st) else none
def sM (s:CSt) (st k:Nat):Nat:=(((aL s st).last+(k:Int))%3).toNat
def KE (c:Cfg) (s:CSt) (used:List Bool) (st who:Nat):Bool:= !(used.getD who default)&&decide (HV c s who st)
def AO (c:Cfg) (s:CSt) (used:List Bool) (st:Nat):Option Nat:=if (aL s st).pipe.length<2 then ([1,2,3].map (sM s st)).find? (KE c s used st) else none
def PA (c:Cfg) (i:CIn) (s:CSt) (who:Nat):Option Mic:=if i.send.getD who default=true∧(aF s who).queue.length<2∧(aF s who).next<(c.cP.getD who default).length then some (.ask who) else none
def atS (c:Cfg) (s:CSt):Option Mic→CSt
 |none=>s
 |some m=>aR c s m
def vE (c:Cfg) (f:CSt→Nat→Option Mic):CSt→List Nat→List Mic
 |_,[]=>[]
 |s,k::l=>match f s k with
  |none=>vE c f s l
  |some m=>m::vE c f (aR c s m) l
def oP (c:Cfg):CSt→List Bool→List Nat→List Mic
 |_,_,[]=>[]
 |s,u,st::l=>match AO c s u st with
  |none=>oP c s u l
  |some who=>.adm who st::oP c (aR c s (.adm who st)) (u.set who true) l
def KQ (c:Cfg) (i:CIn) (s:CSt):List Mic:=vE c (vT i) s [0,1,2]
def xX (c:Cfg) (i:CIn) (s:CSt):List Mic:=vE c (qW i) s [0,1,2,3]
def ad4 (c:Cfg) (s:CSt):List Mic:=oP c s [false,false,false] [0,1,2,3]
def MV (c:Cfg) (i:CIn) (s:CSt):List Mic:=vE c (PA c i) s [0,1,2]
def CW (c:Cfg) (i:CIn) (s:CSt):CSt:=dR c s (KQ c i s)
def QD (c:Cfg) (i:CIn) (s:CSt):CSt:=dR c (CW c i s) (xX c i (CW c i s))
def OI (c:Cfg) (i:CIn) (s:CSt):CSt:=dR c (QD c i s) (ad4 c (QD c i s))
def vF (c:Cfg) (i:CIn) (s:CSt):CSt:=dR c (OI c i s) (MV c i (OI c i s))
def YC (c:Cfg) (i:CIn) (s:CSt):List Mic:=KQ c i s++xX c i (CW c i s)++ad4 c (QD c i s)++MV c i (OI c i s)
def TK (c:Cfg) (i:CIn) (s:CSt):List Ev:=iP c s (YC c i s)
variable{i:CIn}
theorem PI:vF c i s=dR c s (YC c i s):=by unfold YC vF OI QD CW;simp only[tB]
theorem LW {c:Cfg} (hb:aQ c) {f:CSt→Nat→Option Mic}: ∀{l:List Nat} {s:CSt},COk c s→(∀s k m,COk c s→k∈l→f s k=some m→EH c s m)→wY c s (vE c f s l)
 | [],s,_,_=>trivial
 |k::l,s,h,hf=>by
  unfold vE;split;·exact LW hb h fun s k m hs hk hm=>hf s k m hs (bq9 _ hk) hm
  ·rename_i m hm;have hg:=hf s k m h (by simp) hm;exact⟨hg,LW hb (o9 hb h hg) fun s k m hs hk hm=>hf s k m hs (bq9 _ hk) hm⟩
theorem TB (_:COk c s) (hw:who<3) (hm:vT i s who=some m):EH c s m:=by
 unfold vT at hm;split at hm;·rw[m4] at hm;obtain⟨st,h1,rfl⟩:=hm;have h2:=List.find?_some h1;have h3:=bsM h1;obtain⟨k,_,rfl⟩:=CF.1 h3;obtain⟨q1,q2⟩:=of_decide_eq_true h2;exact⟨hw,by unfold pQ;omega,q1,q2⟩
 ·cases hm
theorem LM (_:COk c s) (hw:st<4) (hm:qW i s st=some m):EH c s m:=by
 unfold qW at hm;split at hm;·cases hm
 ·rename_i h1;split at hm;·rename_i h2;cases hm;exact⟨hw,by omega,h2⟩
  ·rename_i h2;split at hm;·rename_i h3;cases hm;exact⟨hw,by omega,h2,h3⟩
   ·cases hm
variable{u:List Bool}
theorem XH (hs:st<4) (hm:AO c s u st=some who):EH c s (.adm who st):=by
 unfold AO at hm;split at hm;·rename_i h1;have h2:=List.find?_some hm;have h3:=bsM hm;obtain⟨k,_,rfl⟩:=CF.1 h3;unfold KE at h2;rw[q7] at h2;exact⟨by unfold sM;omega,hs,h1,of_decide_eq_true h2.2⟩
 ·cases hm
theorem YH (_:COk c s) (hw:who<3) (hm:PA c i s who=some m):EH c s m:=by
 unfold PA at hm;split at hm;·rename_i h;cases hm;exact⟨hw,h.2.1,h.2.2⟩
 ·cases hm
theorem XU {c:Cfg} (hb:aQ c): ∀{l:List Nat} {s:CSt} {u:List Bool},COk c s→(∀k∈l,k<4)→wY c s (oP c s u l)
 | [],s,u,_,_=>trivial
 |k::l,s,u,h,hl=>by
  unfold oP;split;·exact XU hb h fun k hk=>hl k (bq9 _ hk)
  ·rename_i who hm;have hg:=XH (hl k (by simp)) hm;exact⟨hg,XU hb (o9 hb h hg) fun k hk=>hl k (bq9 _ hk)⟩
theorem tC (h:k∈[0,1,2]):k<3:=by simp at h;omega
theorem w8 (h:k∈[0,1,2,3]):k<4:=by simp at h;omega
theorem aaI (hb:aQ c) (h:COk c s):wY c s (KQ c i s):=LW hb h fun s k m hs hk hm=>TB hs (tC hk) hm
theorem ZB (hb:aQ c) (h:COk c s):wY c s (xX c i s):=LW hb h fun s k m hs hk hm=>LM hs (w8 hk) hm
theorem afK (hb:aQ c) (h:COk c s):wY c s (ad4 c s):=XU hb h fun k hk=>w8 hk
theorem an9 (hb:aQ c) (h:COk c s):wY c s (MV c i s):=LW hb h fun s k m hs hk hm=>YH hs (tC hk) hm
theorem PH (hb:aQ c) (h:COk c s):COk c (CW c i s):=(CV hb h (aaI hb h)).1
theorem PV (hb:aQ c) (h:COk c s):COk c (QD c i s):=(CV hb (PH hb h) (ZB hb (PH hb h))).1
theorem afG (hb:aQ c) (h:COk c s):COk c (OI c i s):=(CV hb (PV hb h) (afK hb (PV hb h))).1
theorem KG (hb:aQ c) (h:COk c s):wY c s (YC c i s):=by
 unfold YC;rw[HA,HA,HA];refine⟨⟨⟨aaI hb h,ZB hb (PH hb h)⟩,?_⟩,?_⟩;·rw[tB];exact afK hb (PV hb h)
 ·rw[tB,tB];exact an9 hb (afG hb h)
theorem PN (hb:aQ c) (h:COk c s):COk c (vF c i s):=by rw[PI];exact(CV hb h (KG hb h)).1
def HY:CSt:=⟨List.replicate 64 0,List.replicate 6 (-1),List.replicate 3 ⟨0,[],[],3⟩,List.replicate 4 ⟨[],[],2⟩,[]⟩
theorem amS:cX HY=st0:=by rfl
theorem MX (hk:k<3):aF HY k=⟨0,[],[],3⟩:=by
 have:k=0∨k=1∨k=2:=by omega
 rcases this with rfl|rfl|rfl<;>rfl
theorem K4 (hk:k<4):aL HY k=⟨[],[],2⟩:=by
 have:k=0∨k=1∨k=2∨k=3:=by omega
 rcases this with rfl|rfl|rfl|rfl<;>rfl
theorem anK (c:Cfg):COk c HY:=by
 have hst:BA c (cX HY):=by rw[amS];exact arF c
 refine⟨hst.atm,rfl,rfl,fun k hk=> ?_,fun k hk=> ?_,rfl,hst⟩;·rw[MX hk];exact⟨by simp,by simp,by simp,by decide,fun i hi=>by simp at hi,fun j hj=>by simp at hj,List.Pairwise.nil,fun a ha=>by simp at ha⟩
 ·refine⟨?_,?_,?_,?_,?_,?_,?_⟩<;>rw[K4 hk];·simp
  ·simp
  ·decide
  ·exact List.Pairwise.nil
  ·intro x hx;simp[cS] at hx
  ·intro j hj;simp at hj
  ·intro i hi;simp at hi
variable{f:CSt→Nat→Option Mic}
theorem GZ{l:List Nat} (h:f s k=none):vE c f s (k::l)=vE c f s l:=by rw[vE,h]
theorem NH{l:List Nat} (h:f s k=some m):vE c f s (k::l)=m::vE c f (aR c s m) l:=by rw[vE,h]
theorem ap4 (h:k<3):[0,1,2].drop k=k::[0,1,2].drop (k+1):=by
 obtain rfl|rfl|rfl:k=0∨k=1∨k=2:=by omega
 all_goals rfl
theorem apX (h:k<4):[0,1,2,3].drop k=k::[0,1,2,3].drop (k+1):=by
 obtain rfl|rfl|rfl|rfl:k=0∨k=1∨k=2∨k=3:=by omega
 all_goals rfl
def vU (c:Cfg) (f:CSt→Nat→Option Mic) (l:List Nat) (s:CSt) (es:List Ev) (S:CSt) (E:List Ev):Prop:=dR c s (vE c f s l)=S∧es++iP c s (vE c f s l)=E
theorem vU.none {c:Cfg} {f:CSt→Nat→Option Mic} {s S:CSt} {es E:List Ev} {k:Nat} {l:List Nat} (hl:vU c f (k::l) s es S E) (h:f s k=none):vU c f l s es S E:=by unfold vU at hl;rw[GZ h] at hl;exact hl
theorem vU.some {c:Cfg} {f:CSt→Nat→Option Mic} {s S:CSt} {es E:List Ev} {k:Nat} {l:List Nat} {m:Mic} (hl:vU c f (k::l) s es S E) (h:f s k=some m):vU c f l (aR c s m) (es++y0 s m) S E:=by unfold vU at hl;rw[NH h] at hl;refine⟨hl.1,?_⟩;rw[C0];exact hl.2
theorem vU.nil{S:CSt}{es E:List Ev} (hl:vU c f [] s es S E):s=S∧es=E:=by refine⟨hl.1,?_⟩;have:=hl.2;rw[vE,iP,bq6] at this;exact this
theorem agJ (h:i.ready.getD k default=false):vT i s k=none:=by unfold vT;rw[if_neg (by rw[h];decide)]
theorem bkW{j:Nat} (h1:1≤j) (h2:j<5):j=1∨j=2∨j=3∨j=4:=by omega
theorem acZ (h: ∀j,1≤j→j<5→NN s k (pQ s k j)=false):vT i s k=none:=by
 unfold vT;split;·simp[List.find?_cons,h 1 (by omega) (by omega),h 2 (by omega) (by omega),h 3 (by omega) (by omega),h 4 (by omega) (by omega)]
 ·rfl
theorem acB{j:Nat} (hr:i.ready.getD k default=true) (h1:1≤j) (h2:j≤4) (h: ∀j',1≤j'→j'<j→NN s k (pQ s k j')=false) (hj:NN s k (pQ s k j)=true):vT i s k=some (.tell k (pQ s k j)):=by
 unfold vT;rw[if_pos hr];rcases bkW h1 (by omega) with rfl|rfl|rfl|rfl;·simp[List.find?_cons,hj]
 ·simp[List.find?_cons,hj,h 1 (by omega) (by omega)]
 ·simp[List.find?_cons,hj,h 1 (by omega) (by omega),h 2 (by omega) (by omega)]
 ·simp[List.find?_cons,hj,h 1 (by omega) (by omega),h 2 (by omega) (by omega),h 3 (by omega) (by omega)]
def LV (c:Cfg) (l:List Nat) (s:CSt) (u:List Bool) (S:CSt):Prop:=dR c s (oP c s u l)=S
theorem LV.none {c:Cfg} {s S:CSt} {u:List Bool} {k:Nat} {l:List Nat} (hl:LV c (k::l) s u S) (h:AO c s u k=none):LV c l s u S:=by unfold LV at hl;rw[oP,h] at hl;exact hl
theorem LV.some {c:Cfg} {s S:CSt} {u:List Bool} {k who:Nat} {l:List Nat} (hl:LV c (k::l) s u S) (h:AO c s u k=some who):LV c l (aR c s (.adm who k)) (u.set who true) S:=by unfold LV at hl;rw[oP,h] at hl;exact hl
theorem anA (h: ¬(aL s st).pipe.length<2):AO c s u st=none:=if_neg h
theorem ah0 (h: ∀j,1≤j→j<4→KE c s u st (sM s st j)=false):AO c s u st=none:=by
 unfold AO;split;·simp[List.find?_cons,h 1 (by omega) (by omega),h 2 (by omega) (by omega),h 3 (by omega) (by omega)]
 ·rfl
theorem ahR{j:Nat} (hr:(aL s st).pipe.length<2) (h1:1≤j) (h2:j≤3) (h: ∀j',1≤j'→j'<j→KE c s u st (sM s st j')=false) (hj:KE c s u st (sM s st j)=true):AO c s u st=some (sM s st j):=by
 unfold AO;rw[if_pos hr];obtain rfl|rfl|rfl:j=1∨j=2∨j=3:=by omega
 ·simp[List.find?_cons,hj]
 ·simp[List.find?_cons,hj,h 1 (by omega) (by omega)]
 ·simp[List.find?_cons,hj,h 1 (by omega) (by omega),h 2 (by omega) (by omega)]
theorem IW {p:Job→Bool}: ∀{A B:List Job},(∀a∈A,p a=false)→(∀b∈B,p b=true)→(A++B).findIdx p=A.length
 | [],[],_,_=>rfl
 | [],b::B,_,hB=>by rw[List.nil_append,List.findIdx_cons,hB b (by simp)];rfl
 |a::A,B,hA,hB=>by rw[List.cons_append,List.findIdx_cons,hA a (by simp)];simp only[cond_false,List.length_cons];rw[IW (fun x hx=>hA x (bq9 _ hx)) hB]
theorem abS{A B:List Job}{x:Job} (hA: ∀a∈A,uL x a=false) (hB: ∀b∈B,uL x b=true):BM (A++B) x=A++x::B:=by
 unfold BM;rw[IW hA hB,List.take_left',List.drop_left'];·rfl
 ·rfl
def A5 (l:List Job) (k:Nat):List Job:=jX (l.take k)
theorem ahI (hk:k≤l.length):(A5 l k).length=k:=by unfold A5;rw[(fH _).length_eq,CG];omega
theorem ac8 (hk:k<l.length):A5 l (k+1)=BM (A5 l k) (l.getD k default):=by unfold A5 jX;rw[nK hk,List.foldl_append];rfl
theorem ah3:A5 l 1=l.take 1:=by
 cases l with
 |nil=>rfl
 |cons x l=>rfl
theorem aiE:A5 l l.length=jX l:=by unfold A5;rw[bq4]
def MS (S:List Job) (x:Job) (j:Nat):List Job:=S.take j++x::S.drop j
theorem amF{S:List Job}{x:Job}{j:Nat} (_:j≤S.length):(MS S x j).length=S.length+1:=by unfold MS;simp;omega
end Go.AM
namespace Go.Proofs.YtmccpdapaccnoaaGreat
open Go Go.AM
def bu2:AC:= (boG [f5 3 0,f5 4 1,dO 6 boD] [2,3,4] (boG [RF 10 2 4,RL 11 10,RM 12 2,e0 13 4 11 12,f8 14 4 13,f7 7 [VZ,OZ,OZ,VZ],g0 4 true 7 14] [2,3,7] (.seq (boG [RF 15 1 7,RL 16 15,f1 17 16,dI 18 .eql 17 (ki 0),RM 19 18,g9 20 2 7 19 false,hD 21 20 19 false,GQ 22 (.len false 21) 19 false,hO 23 .geq 22 (ki 4) 19 false,f3 24 19 boE 23] [2,3,7,24] (.cond 24 (boG [dO 6 boD] [6] .ret) .skip)) (boG [RF 25 2 3,g8 26 25 [11] [] false,RM 27 2,e0 28 1 26 27,g8 29 28 [11] [] false,RF 30 1 7,g8 31 30 [11] [] false,e0 32 1 31 (ki 0),g8 33 32 [11] [] false,e0 34 7 29 33,boF 35 (.load 7 true 34) [11] [] false,f7 8 [VZ,VZ,VZ,VZ,(.v (.bool false)),OZ,OZ],g0 7 true 8 35] [2,3,7,8] (.seq (boG [dO 9 (ki 0)] [2,3,7,8,9] (.block 0 (.loop (.seq (boG [RM 36 9,RF 37 2 7,RL 38 37,f1 39 38,dI 40 .lss 36 39] [2,3,7,8,9,40] (.cond 40 .skip (.exit 0))) (.seq (.block 1 (boG [RF 43 2 3,RL 44 43,RM 45 2,e0 46 1 44 45,RL 47 46,RF 48 2 7,RL 49 48,RM 50 9,e0 51 3 49 50,RF 52 1 51,RL 53 52,e0 54 7 47 53,RF 55 0 54,RL 56 55,RF 57 0 8,RL 58 57,dI 59 .eql 56 58,RM 60 59,g9 61 2 7 60 true,dA (some 62) (.load 1 false 61) (some (60,true)) [] [] true,hG 63 9 60 true,j0 64 3 62 63 60 true,g9 65 2 64 60 true,dA (some 66) (.load 1 false 65) (some (60,true)) [] [] true,g9 67 0 3 60 true,hD 68 67 60 true,GQ 69 (.load 7 true 8) 60 true,dA (some 70) (.call bu0 [68,69]) (some (60,true)) [] [19,23] false,hO 71 .neq 66 70 60 true,f3 72 60 71 boD] [2,3,7,8,9,72] (.cond 72 (boG [dO 6 boD] [6] .ret) .skip))) (m2 [RM 41 9,dI 42 .add 41 (ki 1),RM 9 42] [2,3,7,8,9])))))) (boG [dO 6 boE] [6] .ret))))))
def bvB:List aW:=[.tm 6]
theorem bvM:aO Tryz.prog Tryz.f45 (bnD bu2)=some (bu2,bvB):=by kernel_rfl
theorem bvL:aN Tryz.prog bu7 Tryz.f45 bu2 bvB:=aN.mk Tryz.func45 (by kernel_rfl) bvM
def buY:AC:= (boG [f5 3 1,dO 4 (ki 0)] [0,3] (.seq (boG [RM 5 0,f6 6 wR [5],f4 7 6,RM 8 7,GQ 9 (.load 7 true 3) 8 false,GQ 10 (.call wD [9]) 8 false,hP 11 10 8 false,f3 12 8 boE 11] [0,3,12] (.cond 12 (boG [rq 4 (.move (.kv (.int .i64 (-1))))] [4] .ret) .skip)) (boG [RM 13 0,f8 14 7 3,f6 15 rN [13,14],RM 4 15] [4] .ret)))
def bu5:List aW:=[.tm 4]
theorem bvF:aO Tryz.prog Tryz.f46 (bnD buY)=some (buY,bu5):=by kernel_rfl
theorem bvG:aN Tryz.prog bu0 Tryz.f46 buY bu5:=aN.mk Tryz.func46 (by kernel_rfl) bvF
def bu1:AC:= (boG [dO 4 (ki 0)] [0,1] (boG [RM 8 1,f1 9 8,RM 5 9] [0,1,5] (.seq (boG [RM 10 0,RM 11 5,dI 12 .sub 11 (ki 1),f6 13 cQ [10,(ki 0),12],f4 14 13] [0,1,5,14] (.cond 14 (boG [rq 4 (.move (.kv (.int .i64 (-1))))] [4] .ret) .skip)) (.seq (boG [dO 6 (ki 1)] [0,1,5,6] (.block 0 (.loop (.seq (boG [RM 15 6,RM 16 5,dI 17 .leq 15 16] [0,1,5,6,17] (.cond 17 .skip (.exit 0))) (.seq (.block 1 (boG [RM 20 0,RM 21 6,dI 22 .add 20 21,RM 23 5,dI 24 .rem 22 23,RM 7 24] [0,1,5,6,7] (boG [RM 25 1,RM 26 7,e0 27 1 25 26,RL 28 27] [0,1,5,6,7,28] (.cond 28 (boG [RM 29 7,RM 4 29] [4] .ret) .skip)))) (m2 [RM 18 6,dI 19 .add 18 (ki 1),RM 6 19] [0,1,5,6])))))) (boG [rq 4 (.move (.kv (.int .i64 (-1))))] [4] .ret)))))
def bu8:List aW:=[.tm 4]
theorem bvH:aO Tryz.prog Tryz.f47 (bnD bu1)=some (bu1,bu8):=by kernel_rfl
theorem bvI:aN Tryz.prog bu4 Tryz.f47 bu1 bu8:=aN.mk Tryz.func47 (by kernel_rfl) bvH
def buZ:AC:= (boG [dO 2 boD] [0] (.seq (boG [RM 13 0,f1 14 13,dI 15 .gtr 14 (ki 1048576)] [0,15] (.cond 15 (boG [dO 2 boE] [2] .ret) .skip)) (boG [RM 17 0,f6 18 bl0 [17],RM 16 18,rq 19 (.ext 16 0),rq 20 (.ext 16 1),rq 21 (.ext 16 2),f7 3 [OZ,OZ,OZ],f7 4 [OZ,OZ,OZ,OZ,OZ],f7 5 [OZ,OZ,OZ],g0 3 true 3 19,g0 5 true 4 20,g0 3 true 5 21] [3,4] (.seq (boG [f8 22 3 3,f8 23 5 4,f6 24 aI5 [22,23],f4 25 24] [3,4,25] (.cond 25 (.seq (.region [f8 26 3 3 0,f8 27 5 4 1,boF 29 (.load 3 true 3) [] [] true 3,boF 30 (.load 5 true 4) [] [] true 4,boF 28 (.call mW [26,27]) [] [3,4] false 2,f6 31 aI5 [29,30] 5,rq 32 (.beq false 28 31) 6,RM 33 32 7,GQ 34 (.call E2 []) 33 true 8,f3 35 33 34 boD 9,RM 2 35 10] 11 [2]) .ret) .skip)) (boG [rq 36 (.kY 1 [(.v (.bool false))] (ki 3) (ki 3)),rq 37 (.bC 1 4 [(.v (.bool false))] [(0,1,boE),(1,1,boE),(2,1,boE),(3,1,boE)]),rq 38 (.kY 1 [(.v (.bool false))] (ki 3) (ki 3)),rq 39 (.build [OZ,OZ,OZ] [(0,1,36),(1,1,37),(2,1,38)]),f7 6 [OZ,OZ,OZ],g0 3 true 6 39] [3,4,6] (boG [f8 40 3 3,f8 41 5 4,f8 42 3 6,f6 43 FO [40,41,42],f7 7 [OZ,OZ,OZ,OZ,OZ],g0 5 true 7 43] [3,4,7] (.seq (boG [dO 8 (ki 0)] [3,4,7,8] (.block 0 (.loop (.seq (boG [RM 44 8,dI 45 .leq 44 (ki 3)] [3,4,7,8,45] (.cond 45 .skip (.exit 0))) (.seq (.block 1 (boG [rq 48 (.bC 1 0 [(.v (.bool false))] []),RM 9 48] [3,4,7,8,9] (.seq (boG [dO 10 (ki 0)] [3,4,7,8,9,10] (.block 2 (.loop (.seq (boG [RM 49 10,dI 50 .lss 49 (ki 3)] [3,4,7,8,9,10,50] (.cond 50 .skip (.exit 2))) (.seq (.block 3 (.region [RM 53 9 0,f8 54 3 3 1,f8 55 5 4 2,RM 56 10 3,f6 57 bu7 [54,55,56] 4,RM 58 57 5,g9 59 0 3 58 true 6,hD 60 59 58 true 7,g9 61 2 3 58 true 8,hD 62 61 58 true 9,hG 63 10 58 true 10,j0 64 1 62 63 58 true 11,hD 65 64 58 true 12,g9 66 2 4 58 true 13,hD 67 66 58 true 14,hG 68 10 58 true 15,j0 69 4 67 68 58 true 16,g9 70 1 69 58 true 17,hD 71 70 58 true 18,j0 72 1 71 (ki 0) 58 true 19,hD 73 72 58 true 20,j0 74 7 65 73 58 true 21,GQ 75 (.load 7 true 74) 58 true 22,hG 77 8 58 true 24,GQ 76 (.call bu0 [60,75]) 58 true 23,hO 78 .eql 76 77 58 true 25,f3 79 58 78 boD 26,rq 80 (.bC 1 1 [(.v (.bool false))] [(0,1,79)]) 27,rq 81 (.append 1 53 80) 28,RM 9 81 29] 30 [3,4,7,8,9,10])) (m2 [RM 51 10,dI 52 .add 51 (ki 1),RM 10 52] [3,4,7,8,9,10])))))) (boG [rq 11 (.move (.kv (.int .i64 (-1))))] [3,4,7,8,9,11] (.seq (boG [RF 82 3 4,RL 83 82,RM 84 8,e0 85 3 83 84,RF 86 0 85,RL 87 86,f1 88 87,dI 89 .lss 88 (ki 2)] [3,4,7,8,9,11,89] (.cond 89 (m2 [RF 90 3 4,RL 91 90,RM 92 8,e0 93 3 91 92,RF 94 2 93,RL 95 94,RM 96 9,f6 97 bu4 [95,96],RM 11 97] [3,4,7,8,11]) .skip)) (.seq (boG [RM 98 11,dI 99 .lss 98 (ki 0)] [3,4,7,8,11,99] (.cond 99 (.seq (boG [RF 100 3 7,RL 101 100,RM 102 8,e0 103 3 101 102,RF 104 0 103,RL 105 104,RF 106 3 4,RL 107 106,RM 108 8,e0 109 3 107 108,RF 110 0 109,RL 111 110,f6 112 oJ [105,111],f4 113 112,RM 114 113,g9 115 3 7 114 false,hD 116 115 114 false,hG 117 8 114 false,j0 118 3 116 117 114 false,g9 119 2 118 114 false,hD 120 119 114 false,g9 121 3 4 114 false,hD 122 121 114 false,hG 123 8 114 false,j0 124 3 122 123 114 false,g9 125 2 124 114 false,hD 126 125 114 false,hO 127 .neq 120 126 114 false,f3 128 114 boE 127] [3,4,7,8,128] (.cond 128 (boG [dO 2 boD] [2] .ret) .skip)) (.exit 1)) .skip)) (boG [RF 129 3 4,RL 130 129,RM 131 8,e0 132 3 130 131,RF 133 0 132,RL 134 133,f1 135 134,RM 12 135] [3,4,7,8,11,12] (boG [RF 136 3 7,RL 137 136,RM 138 8,e0 139 3 137 138,RF 140 0 139,RL 141 140,f1 142 141,RM 143 12,dI 144 .add 143 (ki 1),dI 145 .neq 142 144,RM 146 145,g9 147 3 7 146 false,hD 148 147 146 false,hG 149 8 146 false,j0 150 3 148 149 146 false,g9 151 0 150 146 false,hD 152 151 146 false,hG 153 12 146 false,j0 154 3 152 153 146 false,g9 155 0 154 146 false,hD 156 155 146 false,hG 157 11 146 false,hO 158 .neq 156 157 146 false,f3 159 146 boE 158,RM 160 159,g9 161 3 7 160 false,hD 162 161 160 false,hG 163 8 160 false,j0 164 3 162 163 160 false,g9 165 2 164 160 false,hD 166 165 160 false,hG 167 11 160 false,hO 168 .neq 166 167 160 false,f3 169 160 boE 168,RM 170 169,g9 171 3 7 170 false,hD 172 171 170 false,hG 173 8 170 false,j0 174 3 172 173 170 false,g9 175 0 174 170 false,hD 176 175 170 false,hG 177 12 170 false,j0 178 3 176 177 170 false,g9 179 1 178 170 false,hD 180 179 170 false,g9 181 2 4 170 false,hD 182 181 170 false,hG 183 11 170 false,j0 184 4 182 183 170 false,g9 185 1 184 170 false,hD 186 185 170 false,j0 187 1 186 (ki 0) 170 false,hD 188 187 170 false,hO 189 .neq 180 188 170 false,f3 190 170 boE 189] [3,4,7,8,190] (.cond 190 (boG [dO 2 boD] [2] .ret) .skip))))))))) (m2 [RM 46 8,dI 47 .add 46 (ki 1),RM 8 47] [3,4,7,8])))))) (boG [f6 191 E2 [],RM 2 191] [2] .ret))))))))
def bu6:List aW:=[.tm 2]
theorem bvE:aO Tryz.prog Tryz.f8 (bnD buZ)=some (buZ,bu6):=by kernel_rfl
end Go.Proofs.YtmccpdapaccnoaaGreat
namespace Go.AM
open Go.RowKit
def asV (k:IntKind) (w:World) (a:Option Addr) (len cap:Nat) (zs:List Int):Prop:=
 (a=none∧len=0∧cap=0∧zs=[])∨
 ∃x,a=some x∧len≤cap∧cap≤maxLen∧zs.length=cap∧(∀i,i<zs.length→w.cell? (x.add i)=some (.int k (zs.getD i 0)))∧ ∀n∈zs,(Lit.int k n).wf=true
theorem abA {P:Program} {f:FuncId} {l:List Int} {w:World} {v:Value} {I:Nat→Prop} (h:aB P f [dS (l.map eU8)] .nil 0 fun rr _ _=>rr.plain=true∧rr=dB true) (hI: ∀b,I b→b<w.heap.size) (hv:Imm I w (.isl (l.map eU8)) v):
 Calls P f #[v] w fun e w'=>e= .returned (.bool true)∧Below w.heap.size w w':=by
 have hno: ∀b,¬uG ⟨fun _=>(0,0),fun _=>False,I,w⟩ .nil b:=by rintro b ⟨id,o,h,_⟩;cases h
 have hst:St ⟨fun _=>(0,0),fun _=>False,I,w⟩ .nil:=⟨fun id o h=>(by cases h),fun id o h=>(by cases h),fun id o h=>(by cases h),fun id o i j r d h=>(by cases h),fun id id' o o' h=>(by cases h),fun id o h=>(by cases h),hI⟩
 refine(h.2 ⟨fun _=>(0,0),fun _=>False,I,w⟩ [v] hst (fun i hi=>hi.elim) rfl (fun i d u h1 h2=> ?_)).mono ?_
 ·match i with
  |0=>simp at h1 h2;subst h1;subst h2;exact hv
  |i+1=>simp at h1
 ·rintro x w' ⟨u,c',r,H',nx',rfl,rfl,p1,p2,p3,p4,p5,p6,rfl⟩;have hu:u= .bool true:=by simp only[fD,jZ,Rel,bY] at p5;cases p5;rfl
  subst hu;exact⟨rfl,p2.os,p2.tape,p2.output,p2.size,fun k hk=>p2.frame k hk (hno k)⟩
theorem atQ {P:Program} {f:FuncId} (h: ∀l:List Int,(∀x∈l,0≤x∧x<256)→aB P f [dS (l.map eU8)] .nil 0 fun rr _ _=>rr.plain=true∧rr=dB true) (az5:Option Addr) (len0 cap0:Nat) (blY:List Int) (w:World) (bk1:asV .u8 w az5 len0 cap0 blY):
 Calls P f #[.slice az5 len0 cap0] w fun e w'=>e= .returned (.bool true)∧Below w.heap.size w w':=by
 rcases bk1 with⟨rfl,rfl,rfl,rfl⟩|⟨x,rfl,hl,hm,hz,hc,hw⟩
 ·refine abA (I:=fun _=>False) (h [] (fun x hx=>by cases hx)) (fun b hb=>hb.elim) ?_;exact .isl [] none 0 1 0 0 (fun _ _=>.int .u8 0) (fun h=>absurd rfl h) (m5 _) (fun i r h=>by simp at h) (fun i j r d h=>by simp at h) (fun i j r d h=>by simp at h)
 ·have hlt:(blY.take len0).length=len0:=by simp;omega
  have hby: ∀y∈blY.take len0,0≤y∧y<256:=fun y hy=>by have:=bounds_u8 (hw y (List.take_subset _ _ hy));omega
  refine abA (I:=fun b=>b=x.block∧0<len0) (h (blY.take len0) hby) (fun b hb=> ?_) ?_;·obtain⟨rfl,h0⟩:=hb;have:=World.block_lt_of_cell? w _ (hc 0 (by omega));simpa [Addr.add] using this
  ·have key:=Imm.isl (I:=fun b=>b=x.block∧0<len0) (w:=w) ((blY.take len0).map eU8) (some x) cap0 1 x.block x.off (fun i _=>.int .u8 (blY.getD i 0)) (fun hne=> ?_) (by simp;omega) (fun i r hr=> ?_) (fun i j r d hr hd=> ?_) (fun i j r d hr hd=> ?_);·rw[bqW,hlt] at key;exact key
   ·have h0:0<len0:=by
     rcases CR len0 with h0|h0
     ·subst h0;exact absurd (by simp) hne
     ·exact h0
    have hsp:=World.cell?_spot (hc 0 (by omega))
    refine⟨?_,rfl,h0⟩
    obtain⟨b,o,s⟩:=x
    simp only[Addr.add,if_true] at hsp
    subst hsp
    rfl
   ·obtain⟨y,_,rfl⟩:=CF.1 (s3 hr);rfl
   ·rw[p0] at hr;obtain⟨y,hy,rfl⟩:=m4.1 hr
    match j with
    |0=>
     have hi:i<len0:=(by have:=(m3.1 hy).1;omega);have h1:=hc i (by omega);have hsp:=World.cell?_spot (hc 0 (by omega));obtain⟨b,o,s⟩:=x;simp only[Addr.add,if_true] at hsp;subst hsp
     have e:(Addr.mk b o none).add i=⟨b,o+(i*1+0),none⟩:=by
      unfold Addr.add;split;·rename_i h;subst h;simp
      ·simp
     rw[e] at h1;exact h1
    |j+1=>simp[eU8] at hd
   ·rw[p0] at hr;obtain⟨y,hy,rfl⟩:=m4.1 hr
    match j with
    |0=>
     simp only[eU8,List.getElem?_cons_zero,Option.some.injEq] at hd;subst hd
     have hyz:y=blY.getD i 0:=by
      rw[s4] at hy;split at hy;·simp[List.getD,hy]
      ·cases hy
     subst hyz;exact .v _ rfl
    |j+1=>simp[eU8] at hd
end Go.AM
