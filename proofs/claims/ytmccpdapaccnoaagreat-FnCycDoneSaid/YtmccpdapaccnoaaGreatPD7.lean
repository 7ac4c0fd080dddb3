/- Texts laid together by a program: rules, contracts and the walk that leads to the law. -/
import Derived.Test.YtmccpdapaccnoaaGreatPD4
import Derived.Test.YtmccpdapaccnoaaGreatPD3
set_option linter.unusedVariables false
set_option linter.unusedSimpArgs false
set_option linter.unusedSectionVars false
set_option maxRecDepth 100000
set_option maxHeartbeats 8000000
namespace Go.AM
variable{k:Nat}
theorem pY{α:Type} [Inhabited α]{l:List α}{i:Nat}{x:α} (hk:k<l.length):(l.set k x).getD i default=if i=k then x else l.getD i default:=by
 simp only[List.getD,D0];by_cases h:k=i;·subst h;simp[hk]
 ·simp[h,Ne.symm h,eq_comm]
structure mD (c:Cfg) (who:Nat) (p:fR):Prop where
 next:0≤p.next∧p.next≤(c.cP.getD who default).length
 ql:p.queue.length≤2∧(p.queue.length:Int)≤p.next
 ol:p.out.length≤4
 last:0≤p.last∧p.last≤3
 queue: ∀i,i<p.queue.length→p.queue.getD i default=p.next-p.queue.length+i
 out: ∀j∈p.out,j.who=who∧(0≤j.n∧j.n<p.next-p.queue.length)∧j.left=gZ c.map (bT c who j.n)
 acX:p.out.Pairwise fun a b=>a.n<b.n
 akF: ∀a∈p.out,∀b∈p.out,(bT c who a.n).id=(bT c who b.n).id→a.left=b.left
def cS (v:nY):List (Int×Int):=v.done.map key++v.pipe.map fun j=>(j.who,j.n)
structure Z0 (c:Cfg) (s:CSt) (st:Nat):Prop where
 pl:(aL s st).pipe.length≤2
 dl:(aL s st).done.length≤2
 last:0≤(aL s st).last∧(aL s st).last≤2
 inc:(cS (aL s st)).Pairwise fun a b=>a.1=b.1→a.2<b.2
 out: ∀x∈cS (aL s st),(0≤x.1∧x.1≤2)∧ ∃j∈(aF s x.1.toNat).out,j.n=x.2∧j.left=st
 rsp: ∀j∈(aL s st).done,as5 c j
 left: ∀i,i<(aL s st).pipe.length→(0≤((aL s st).pipe.getD i default).left∧((aL s st).pipe.getD i default).left≤c.lat.getD st default)∧(0<i→((aL s st).pipe.getD i default).left=c.lat.getD st default)
def hU (s:CSt) (k:Nat):Nat:=(aL s k).pipe.length+(aL s k).done.length
structure COk (c:Cfg) (s:CSt):Prop where
 atm:WK s.words s.holds
 pl:s.bM.length=3
 sl:s.dD.length=4
 port: ∀k,k<3→mD c k (aF s k)
 slv: ∀k,k<4→Z0 c s k
 count:(aF s 0).out.length+(aF s 1).out.length+(aF s 2).out.length=hU s 0+hU s 1+hU s 2+hU s 3
 st:BA c (cX s)
variable{s:CSt}
theorem wU{j:Job}:j∈qU s↔(∃k,k<s.bM.length∧ ∃m∈(aF s k).queue,j=⟨k,m,oW⟩)∨(∃st,st<s.dD.length∧ ∃x∈(aL s st).pipe,j=⟨x.who,x.n,oW⟩):=by
 unfold qU jJ hJ;simp only[o3,Y8,C2,CF];constructor
 ·rintro(⟨k,hk,m,hm,rfl⟩|⟨st,hs,x,hx,rfl⟩);·exact .inl ⟨k,hk,m,hm,rfl⟩
  ·exact .inr ⟨st,hs,x,hx,rfl⟩
 ·rintro(⟨k,hk,m,hm,rfl⟩|⟨st,hs,x,hx,rfl⟩);·exact .inl ⟨k,hk,m,hm,rfl⟩
  ·exact .inr ⟨st,hs,x,hx,rfl⟩
theorem BU{j:Job}:j∈uQ s↔∃st,st<s.dD.length∧j∈(aL s st).done:=by unfold uQ;simp only[Y8,C2]
variable{c:Cfg}{who:Nat}{p:fR}{n:Int}
theorem mD.asks (h:mD c who p) (hw:who<3) (h0:0≤n) (h1:n<p.next):oA c who n:=by have:=h.next;refine⟨by omega,h0,?_⟩;rw[Int.toNat_natCast];omega
theorem mD.qIn (h:mD c who p){m:Int} (hm:m∈p.queue):p.next-p.queue.length≤m∧m<p.next:=by obtain⟨i,hi,rfl⟩:=bqY.1 hm;have:=h.queue i hi;simp only[List.getD,hi,n1,Option.getD_some] at this;omega
variable{st:Nat}
theorem COk.vIn (h:COk c s) (hs:st<4){x:Int×Int} (hx:x∈cS (aL s st)):(0≤x.1∧x.1≤2)∧0≤x.2∧x.2<(aF s x.1.toNat).next-(aF s x.1.toNat).queue.length:=by obtain⟨h1,j,hj,h2,h3⟩:=(h.slv st hs).out x hx;have:=(h.port x.1.toNat (by omega)).out j hj;exact⟨h1,by omega,by omega⟩
theorem COk.same (h:COk c s){st':Nat} (hs:st<4) (hs':st'<4){x y:Int×Int} (hx:x∈cS (aL s st)) (hy:y∈cS (aL s st')) (he:x.1=y.1) (hi:(bT c x.1 x.2).id=(bT c y.1 y.2).id):st=st':=by
 obtain⟨h1,j,hj,h2,h3⟩:=(h.slv st hs).out x hx;obtain⟨h4,j',hj',h5,h6⟩:=(h.slv st' hs').out y hy;have hp:=h.port x.1.toNat (by omega);rw[←he] at hj'
 have:=hp.akF j hj j' hj' (by
  have e1:((x.1.toNat:Nat):Int)=x.1:=by omega
  rw[e1,h2,h5,hi,he])
 omega
theorem JB{v:nY}{x:fC} (h:x∈v.pipe):(x.who,x.n)∈cS v:=brH _ (CF.2 ⟨x,h,rfl⟩)
theorem M9{v:nY}{x:Job} (h:x∈v.done):key x∈cS v:=brA _ (brI h)
theorem gT{α:Type} [Inhabited α]{l:List α} (h:0<l.length):l=l.getD 0 default::l.drop 1:=by
 cases l with
 |nil=>simp at h
 |cons x l=>simp
variable{l:List Job}
theorem BF{j:Job}:j∈jX l↔j∈l:=(fH l).mem_iff
theorem R6 (hk:k<s.bM.length):(cX s).asked.getD k default=(aF s k).next:=by simp[cX,aF,List.getD,hk]
variable{m:Mic}
theorem XZ (h:COk c s) (hg:EH c s m): ∀e∈y0 s m,X6 c (cX s) e=0:=by
 intro e he;have hpl:=h.pl;have hsl:=h.sl
 cases m with
 |tick st=>simp[y0] at he
 |adm who st=>simp[y0] at he
 |ask who=>
  simp only[y0,CJ] at he;subst he;obtain⟨h1,h2,h3⟩:=hg;have hp:=h.port who h1;have hask:oA c (who:Int) (aF s who).next:=by refine⟨by omega,hp.next.1,?_⟩;rw[Int.toNat_natCast];omega
  unfold X6;dsimp only;rw[if_neg (by exact fun hn=>hn ⟨hask,by omega,by omega⟩),if_pos rfl,if_neg];rw[Int.toNat_natCast,R6 (by omega)];simp
 |work st=>
  simp only[y0,CJ] at he;subst he;obtain⟨h1,h2,h3,h4⟩:=hg;have hmem:bI s st∈(aL s st).pipe:=cC h2;have hk:=JB hmem;obtain⟨hv1,hv2,hv3⟩:=h.vIn h1 hk;dsimp only at hv1 hv2 hv3;have hp:=h.port (bI s st).who.toNat (by omega);have e1:(((bI s st).who.toNat:Nat):Int)=(bI s st).who:=by omega
  have hask:oA c (bI s st).who (bI s st).n:=by have:=hp.asks (n:=(bI s st).n) (by omega) hv2 (by have:=hp.ql;omega);rwa [e1] at this
  have hin: ¬bK (iM (bI s st).who (bI s st).n) (cX s).wait<0:=by have:0≤bK (iM (bI s st).who (bI s st).n) (cX s).wait:=ZP.2 (CF.2 ⟨⟨(bI s st).who,(bI s st).n,oW⟩,BF.2 (wU.2 (.inr ⟨st,by omega,bI s st,hmem,rfl⟩)),rfl⟩);omega
  unfold X6;dsimp only;rw[if_neg (by exact fun hn=>hn ⟨hask,by omega,by omega⟩),if_neg (by omega),if_pos rfl,if_neg hin,if_neg];rw[cH];rintro⟨x,hx,hxa⟩;obtain⟨⟨ha1,ha2⟩,ha3⟩:=of_decide_eq_true hxa;dsimp only at ha1 ha2 ha3;rcases wU.1 (BF.1 hx) with⟨k,hkl,m,hm,rfl⟩|⟨st',hst',y,hy,rfl⟩
  ·dsimp only at ha1 ha2 ha3;have hq:=(h.port k (by omega)).qIn hm;have:(bI s st).who.toNat=k:=(by omega);rw[this] at hv3;omega
  ·dsimp only at ha1 ha2 ha3;have hss:=h.same (by omega) h1 (JB hy) hk ha1 ha3;subst hss;have hinc:=(brM.1 (h.slv st' h1).inc).2.1;rw[gT h2,n3,G0] at hinc;rw[gT h2] at hy;rcases t3.1 hy with rfl|hy;·unfold bI at ha2;omega
   ·have:=hinc.1 (y.who,y.n) (CF.2 ⟨y,hy,rfl⟩);dsimp only at this;unfold bI at ha1 ha2;have:=this ha1.symm;omega
 |tell who st=>
  simp only[y0,CJ] at he;subst he;obtain⟨h0,h1,h2,h3⟩:=hg;have hmem:iF s st∈(aL s st).done:=cC h2;have hk:=M9 hmem;have h3':(iF s st).who=who:=h3;obtain⟨hv1,hv2,hv3⟩:=h.vIn h1 hk;simp only[key] at hv1 hv2 hv3;rw[h3',Int.toNat_natCast] at hv3;have hp:=h.port who h0;have hask:oA c (who:Int) (iF s st).n:=hp.asks h0 hv2 (by have:=hp.ql;omega);have hin: ¬bK (iM who (iF s st).n) (cX s).done<0:=by have:0≤bK (iM who (iF s st).n) (cX s).done:=ZP.2 (CF.2 ⟨iF s st,BF.2 (BU.2 ⟨st,by omega,hmem⟩),by simp[key,h3']⟩);omega
  have hinc:=(h.slv st h1).inc;unfold cS at hinc;rw[gT h2,n3,List.cons_append,G0] at hinc;unfold X6;dsimp only;rw[if_neg (by exact fun hn=>hn ⟨hask,by omega,by omega⟩),if_neg (by omega),if_neg (by omega),if_neg hin,if_neg];rw[cH,cH];rintro(⟨x,hx,hxa⟩|⟨x,hx,hxa⟩)
  ·obtain⟨⟨ha1,ha2⟩,ha3⟩:=of_decide_eq_true hxa;dsimp only at ha1 ha2 ha3;rcases wU.1 (BF.1 hx) with⟨k,hkl,m,hm,rfl⟩|⟨st',hst',y,hy,rfl⟩
   ·dsimp only at ha1 ha2 ha3;have hq:=(h.port k (by omega)).qIn hm;have:who=k:=(by omega);subst this;omega
   ·dsimp only at ha1 ha2 ha3;have hss:=h.same (by omega) h1 (JB hy) hk (by simp only[key];rw[h3'];exact ha1) (by simp only[key];rw[h3'];exact ha3);subst hss;have:=hinc.1 (y.who,y.n) (brH _ (CF.2 ⟨y,hy,rfl⟩));have:=this (by show (iF s st').who=y.who;rw[h3',ha1]);have e2:(key ((aL s st').done.getD 0 default)).2=(iF s st').n:=rfl;dsimp only at this;omega
  ·obtain⟨⟨ha1,ha2⟩,ha3⟩:=of_decide_eq_true hxa;dsimp only at ha1 ha2 ha3;obtain⟨st',hst',hy⟩:=BU.1 (BF.1 hx);have hss:=h.same (by omega) h1 (M9 hy) hk (by simp only[key];rw[h3'];exact ha1) (by simp only[key];rw[h3'];rw[ha1] at ha3;rw[ha1];exact ha3);subst hss;rw[gT h2] at hy;rcases t3.1 hy with rfl|hy;·unfold iF at ha2;omega
   ·have:=hinc.1 (key x) (brA _ (brI hy));have:=this (by show (iF s st').who=x.who;rw[h3',ha1]);have e2:(key ((aL s st').done.getD 0 default)).2=(iF s st').n:=rfl;simp only[key] at this e2;omega
theorem TW (h:(l.map key).Nodup){a b:Job} (ha:a∈l) (hb:b∈l) (he:key a=key b):a=b:=by
 induction l with
 |nil=>simp at ha
 |cons x l ih=>
  rw[n3,bq8] at h;rcases t3.1 ha with e1|h1
  ·rcases t3.1 hb with e2|h2;·rw[e1,e2]
   ·exact absurd (CF.2 ⟨b,h2,by rw[←he,e1]⟩) h.1
  ·rcases t3.1 hb with e2|h2;·exact absurd (CF.2 ⟨a,h1,by rw[he,e2]⟩) h.1
   ·exact ih h.2 h1 h2
theorem bL{s':CSt} (h:s'.bM=s.bM.set who p) (hw:who<s.bM.length) (k:Nat):aF s' k=if k=who then p else aF s k:=by unfold aF;rw[h,pY hw]
theorem bO{s':CSt}{v:nY} (h:s'.dD=s.dD.set st v) (hw:st<s.dD.length) (k:Nat):aL s' k=if k=st then v else aL s k:=by unfold aL;rw[h,pY hw]
theorem af6 (hb:aQ c) (h:COk c s) (hg:EH c s m):cX (aR c s m)=runM c (cX s) (y0 s m):=by
 have hpl:=h.pl;have hsl:=h.sl;have hwhy:=XZ h hg
 cases m with
 |tick st=>
  obtain⟨h1,h2,h3⟩:=hg;have hS:=fun k=>bO (s:=s) (s':=aR c s (.tick st)) rfl (by omega:st<s.dD.length) k;have boS: ∀k,aF (aR c s (.tick st)) k=aF s k:=fun k=>rfl
  have hq: ∀k,hJ (aR c s (.tick st)) k=hJ s k:=fun k=>by
   unfold hJ;rw[hS];split;·rename_i hk;subst hk;rw[gT h2];simp[bI]
   ·rfl
  have hd: ∀k,(aL (aR c s (.tick st)) k).done=(aL s k).done:=fun k=>by
   rw[hS];split;·rename_i hk;subst hk;rfl
   ·rfl
  have hl:(aR c s (.tick st)).dD.length=s.dD.length:=by simp[aR]
  simp only[y0,runM,List.foldl_nil,cX,TSt.mk.injEq];refine⟨rfl,rfl,rfl,?_,?_,rfl⟩;·congr 1;unfold qU;rw[hl];simp only[List.flatMap_def];congr 2;exact brC fun k _=>hq k
  ·congr 1;unfold uQ;rw[hl];simp only[List.flatMap_def];congr 1;exact brC fun k _=>hd k
 |adm who st=>
  obtain⟨h0,h1,h2,h3⟩:=hg;have hS:=fun k=>bO (s:=s) (s':=aR c s (.adm who st)) rfl (by omega:st<s.dD.length) k;have boS:=fun k=>bL (s:=s) (s':=aR c s (.adm who st)) rfl (by omega:who<s.bM.length) k;have hl:(aR c s (.adm who st)).dD.length=s.dD.length:=by simp[aR]
  have hl2:(aR c s (.adm who st)).bM.length=s.bM.length:=by simp[aR]
  have hd: ∀k,(aL (aR c s (.adm who st)) k).done=(aL s k).done:=fun k=>by
   rw[hS];split;·rename_i hk;subst hk;rfl
   ·rfl
  simp only[y0,runM,List.foldl_nil,cX,TSt.mk.injEq];refine⟨rfl,rfl,?_,?_,?_,rfl⟩
  ·apply br2 (by simp[aR]);intro i hi1 hi2;simp only[aR,bqW,Y5] at hi1;simp only[aR,bsD,List.getElem_set];split;·rename_i hk;subst hk;simp[aF,List.getD,hi1]
   ·rfl
  ·apply GN h.st.NR;refine List.Perm.trans ?_ (fH _).symm;rw[brV];intro z;have e1:=tE (k:=who) (n:=s.bM.length) (by omega) (f:=jJ (aR c s (.adm who st))) (g:=jJ s) (fun i hi=>by unfold jJ;rw[boS,if_neg hi]) z;have e2:=tE (k:=st) (n:=s.dD.length) (by omega) (f:=hJ (aR c s (.adm who st))) (g:=hJ s) (fun i hi=>by unfold hJ;rw[hS,if_neg hi]) z;have e3:jJ (aR c s (.adm who st)) who=((aF s who).queue.drop 1).map fun n=>⟨who,n,oW⟩:=by unfold jJ;rw[boS,if_pos rfl]
   have e4:jJ s who=⟨who,(aF s who).queue.getD 0 default,oW⟩::((aF s who).queue.drop 1).map fun n=>⟨who,n,oW⟩:=by
    unfold jJ;conv=>lhs;rw[gT h3.1]
    rfl
   have e5:hJ (aR c s (.adm who st)) st=hJ s st++[⟨who,(aF s who).queue.getD 0 default,oW⟩]:=(by unfold hJ;rw[hS,if_pos rfl];simp);rw[e3,e4] at e1;rw[e5] at e2;unfold qU;rw[hl,hl2];simp only[brS,brW,List.count_nil] at*;omega
  ·congr 1;unfold uQ;rw[hl];simp only[List.flatMap_def];congr 1;exact brC fun k _=>hd k
 |ask who=>
  obtain⟨h0,h1,h2⟩:=hg;have boS:=fun k=>bL (s:=s) (s':=aR c s (.ask who)) rfl (by omega:who<s.bM.length) k;have hl2:(aR c s (.ask who)).bM.length=s.bM.length:=by simp[aR]
  have hso:=G9 hb h.st (hwhy ⟨1,who,(aF s who).next⟩ (CJ.2 rfl));have boU:lS c (cX s) ⟨1,who,(aF s who).next⟩= {cX s with asked:=(cX s).asked.set who ((aF s who).next+1),wait:=BM (cX s).wait ⟨who,(aF s who).next,oW⟩}:=by simp[lS]
  have hso1:=hso.NR;rw[boU] at hso1;simp only[y0];rw[wW,boU];simp only[runM,List.foldl_nil,cX,TSt.mk.injEq];refine⟨rfl,rfl,?_,?_,rfl,rfl⟩;·simp[aR,brD]
  ·apply GN hso1;refine List.Perm.trans ?_ ((nE _ _).trans ((fH _).cons _)).symm;rw[brV];intro z;have e1:=tE (k:=who) (n:=s.bM.length) (by omega) (f:=jJ (aR c s (.ask who))) (g:=jJ s) (fun i hi=>by unfold jJ;rw[boS,if_neg hi]) z;have e3:jJ (aR c s (.ask who)) who=jJ s who++[⟨who,(aF s who).next,oW⟩]:=(by unfold jJ;rw[boS,if_pos rfl];simp);have e6:(List.range (aR c s (.ask who)).dD.length).flatMap (hJ (aR c s (.ask who)))=(List.range s.dD.length).flatMap (hJ s):=rfl;rw[e3] at e1;unfold qU;rw[hl2,e6];simp only[brS,brW,List.count_nil] at*;omega
 |work st=>
  obtain⟨h1,h2,h3,h4⟩:=hg;have hS:=fun k=>bO (s:=s) (s':=aR c s (.work st)) rfl (by omega:st<s.dD.length) k;have hl:(aR c s (.work st)).dD.length=s.dD.length:=by simp[aR]
  have hw:=hwhy ⟨2,(bI s st).who,(bI s st).n⟩ (CJ.2 rfl);have hso:=G9 hb h.st hw;have hz:=(M8 hw).2
  have hin: ¬bK (iM (bI s st).who (bI s st).n) (cX s).wait<0:=by
   rcases hz with⟨hk,_⟩|⟨hk,hi⟩|⟨hk,_⟩
   ·exact absurd hk (by dsimp only;decide)
   ·exact hi
   ·exact absurd hk (by dsimp only;decide)
  obtain⟨hi1,hi2⟩:=pW hin;have boU:lS c (cX s) ⟨2,(bI s st).who,(bI s st).n⟩= {cX s with words:=(jD c s st).1.1,holds:=(jD c s st).1.2,wait:=MT (cX s).wait (bK (iM (bI s st).who (bI s st).n) (cX s).wait).toNat,done:=BM (cX s).done ⟨(bI s st).who,(bI s st).n,(jD c s st).2⟩}:=by simp only[lS,jD,cX,if_true,if_false,Int.reduceEq]
  have hso1:=hso.NR;have hso2:=hso.NW;rw[boU] at hso1 hso2;simp only[y0];rw[wW,boU];simp only[runM,List.foldl_nil];have hjob:(cX s).wait.getD (bK (iM (bI s st).who (bI s st).n) (cX s).wait).toNat default=⟨(bI s st).who,(bI s st).n,oW⟩:=by have hm:=cC hi1;have hr:=h.st.P4 _ hm;generalize (cX s).wait.getD (bK (iM (bI s st).who (bI s st).n) (cX s).wait).toNat default=x at hi2 hr;obtain⟨x1,bpZ,aYM⟩:=x;simp only[key,Prod.mk.injEq] at hi2;dsimp only at hr;rw[hi2.1,hi2.2,hr]
  have hperm:=A4 hi1;rw[hjob] at hperm
  have aYL:jX (qU (aR c s (.work st)))=MT (cX s).wait (bK (iM (bI s st).who (bI s st).n) (cX s).wait).toNat:=by
   apply GN hso1;refine List.Perm.cons_inv (a:=⟨(bI s st).who,(bI s st).n,oW⟩) ?_;refine List.Perm.trans ?_ ((fH _).symm.trans hperm);rw[brV];intro z;have e2:=tE (k:=st) (n:=s.dD.length) (by omega) (f:=hJ (aR c s (.work st))) (g:=hJ s) (fun i hi=>by unfold hJ;rw[hS,if_neg hi]) z
   have e5:hJ s st=⟨(bI s st).who,(bI s st).n,oW⟩::hJ (aR c s (.work st)) st:=by
    unfold hJ;rw[hS,if_pos rfl];conv=>lhs;rw[gT h2]
    rfl
   have e6:(List.range (aR c s (.work st)).bM.length).flatMap (jJ (aR c s (.work st)))=(List.range s.bM.length).flatMap (jJ s):=rfl;rw[e5] at e2;unfold qU;rw[hl,e6];simp only[brS,brW,List.count_nil] at*;omega
  have bqA:jX (uQ (aR c s (.work st)))=BM (cX s).done ⟨(bI s st).who,(bI s st).n,(jD c s st).2⟩:=by apply GN hso2;refine List.Perm.trans ?_ ((nE _ _).trans ((fH _).cons _)).symm;rw[brV];intro z;have e2:=tE (k:=st) (n:=s.dD.length) (by omega) (f:=fun k=>(aL (aR c s (.work st)) k).done) (g:=fun k=>(aL s k).done) (fun i hi=>by rw[hS,if_neg hi]) z;have e5:(aL (aR c s (.work st)) st).done=(aL s st).done++[⟨(bI s st).who,(bI s st).n,(jD c s st).2⟩]:=(by rw[hS,if_pos rfl]);rw[e5] at e2;unfold uQ;rw[hl];simp only[brS,brW,List.count_nil] at*;omega
  show TSt.mk _ _ _ (jX (qU (aR c s (.work st)))) (jX (uQ (aR c s (.work st)))) _=_;rw[aYL,bqA];rfl
 |tell who st=>
  obtain⟨h0,h1,h2,h3⟩:=hg;have h3':(iF s st).who=who:=h3;have hS:=fun k=>bO (s:=s) (s':=aR c s (.tell who st)) rfl (by omega:st<s.dD.length) k;have boS:=fun k=>bL (s:=s) (s':=aR c s (.tell who st)) rfl (by omega:who<s.bM.length) k;have hl:(aR c s (.tell who st)).dD.length=s.dD.length:=by simp[aR]
  have hl2:(aR c s (.tell who st)).bM.length=s.bM.length:=by simp[aR]
  have hw:=hwhy ⟨3,who,(iF s st).n⟩ (CJ.2 rfl);have hso:=G9 hb h.st hw;have hz:=(M8 hw).2
  have hin: ¬bK (iM who (iF s st).n) (cX s).done<0:=by
   rcases hz with⟨hk,_⟩|⟨hk,hi⟩|⟨hk,hi⟩
   ·exact absurd hk (by dsimp only;decide)
   ·exact absurd hk (by dsimp only;decide)
   ·exact hi
  obtain⟨hi1,hi2⟩:=pW hin;have boU:lS c (cX s) ⟨3,who,(iF s st).n⟩= {cX s with told:=(cX s).told++[(cX s).done.getD (bK (iM who (iF s st).n) (cX s).done).toNat default],done:=MT (cX s).done (bK (iM who (iF s st).n) (cX s).done).toNat}:=by simp only[lS,if_false,Int.reduceEq]
  have hso2:=hso.NW;rw[boU] at hso2;simp only[y0];rw[wW,boU];simp only[runM,List.foldl_nil];have hjob:(cX s).done.getD (bK (iM who (iF s st).n) (cX s).done).toNat default=iF s st:=by refine TW (zG h.st.NW) (cC hi1) (BF.2 (BU.2 ⟨st,by omega,cC h2⟩)) ?_;rw[hi2];simp[key,h3']
  have hperm:=A4 hi1;rw[hjob] at hperm
  have aYL:jX (qU (aR c s (.tell who st)))=(cX s).wait:=by
   show jX _=jX _;congr 1;unfold qU;rw[hl,hl2];simp only[List.flatMap_def];congr 2
   ·exact brC fun k _=>by
     unfold jJ;rw[boS];split;·rename_i hk;subst hk;rfl
     ·rfl
   ·exact brC fun k _=>by
     unfold hJ;rw[hS];split;·rename_i hk;subst hk;rfl
     ·rfl
  have bqA:jX (uQ (aR c s (.tell who st)))=MT (cX s).done (bK (iM who (iF s st).n) (cX s).done).toNat:=by apply GN hso2;apply List.Perm.cons_inv (a:=iF s st);refine List.Perm.trans ?_ ((fH _).symm.trans hperm);rw[brV];intro z;have e2:=tE (k:=st) (n:=s.dD.length) (by omega) (f:=fun k=>(aL (aR c s (.tell who st)) k).done) (g:=fun k=>(aL s k).done) (fun i hi=>by rw[hS,if_neg hi]) z;have e5:(aL s st).done=iF s st::(aL (aR c s (.tell who st)) st).done:=(by rw[hS,if_pos rfl];exact gT h2);rw[e5] at e2;unfold uQ;rw[hl];simp only[brS,brW,List.count_nil] at*;omega
  have hA:(aR c s (.tell who st)).bM.map (·.next)=s.bM.map (·.next):=by
   apply br2 (by simp[aR]);intro i hi1 hi2;simp only[aR,bqW,Y5] at hi1;simp only[aR,bsD,List.getElem_set];split;·rename_i hk;subst hk;simp[aF,List.getD,hi1]
   ·rfl
  show TSt.mk _ _ ((aR c s (.tell who st)).bM.map (·.next)) (jX (qU (aR c s (.tell who st)))) (jX (uQ (aR c s (.tell who st)))) (s.told++[iF s st])=_;rw[aYL,bqA,hA,hjob];rfl
theorem WU{α:Type} [Inhabited α]{l:List α} (h:k<l.length):l.Perm (l.getD k default::B3 l k):=by
 have e:l=l.take k++l.getD k default::l.drop (k+1):=by
  have:l.getD k default=l[k]:=by simp[List.getD,h]
  rw[this,←brB h,boN]
 conv=>lhs;rw[e]
 exact brR
theorem akU{α:Type}{l:List α}:(B3 l k).Sublist l:=by unfold B3;have h:=(List.Sublist.refl (l.take k)).append (bsK l (Nat.le_succ k));rwa [boN] at h
theorem RP{α:Type} [Inhabited α]{l:List α} (h:k<l.length):(B3 l k).length+1=l.length:=by have:=(WU h).length_eq;simp at this;omega
theorem ajV{α:Type} [Inhabited α]{p:α→Bool}{l:List α} (h:0≤bK p l):(bK p l).toNat<l.length∧p (l.getD (bK p l).toNat default)=true:=by
 have h1:=PQ (p:=p) (l:=l);refine⟨by omega,?_⟩;unfold bK at*;split at h;·rename_i i hi;have:=Z4.1 hi;obtain⟨q1,q2,_⟩:=this;simpa [List.getD,q1] using q2
 ·omega
theorem PJ{l:List fC} (h: ∃j∈l,j.n=n):(bK (isC n) l).toNat<l.length∧(l.getD (bK (isC n) l).toNat default).n=n:=by obtain⟨j,hj,hn⟩:=h;have h1:0≤bK (isC n) l:=cH.2 ⟨j,hj,by simp[isC,hn]⟩;obtain⟨q1,q2⟩:=ajV h1;exact⟨q1,by simpa [isC] using q2⟩
theorem aj2{l:List fC} (h: ∃j∈l,j.n=n):(PE l n).length+1=l.length:=RP (PJ h).1
theorem amU{l:List fC} (h: ∃j∈l,j.n=n){x:fC} (hx:x∈l) (hn:x.n≠n):x∈PE l n:=by
 obtain⟨h1,h2⟩:=PJ h;have:=(WU h1).mem_iff.1 hx;rcases t3.1 this with rfl|hm;·exact absurd h2 hn
 ·exact hm
theorem TA{l:List fC}:(PE l n).Sublist l:=akU
theorem QF{α:Type} [Inhabited α]{l:List α}{i:Nat}:(l.drop 1).getD i default=l.getD (i+1) default:=by
 cases l with
 |nil=>simp
 |cons x l=>simp
theorem WI{α:Type} [Inhabited α]{l:List α}{x:α}{i:Nat}:(l++[x]).getD i default=if i=l.length then x else l.getD i default:=by
 simp only[List.getD,o5];split;·rw[if_neg (by omega)]
 ·split;·rename_i h;subst h;simp
  ·rename_i h1 h2;rw[Z3 (by simp;omega),Z3 (by omega)]
theorem ZO{l:List fC} (h:l.Pairwise fun a b=>a.n<b.n){a b:fC} (ha:a∈l) (hb:b∈l) (he:a.n=b.n):a=b:=by
 induction l with
 |nil=>simp at ha
 |cons x l ih=>
  rw[G0] at h;rcases t3.1 ha with e1|h1
  ·rcases t3.1 hb with e2|h2;·rw[e1,e2]
   ·have:=h.1 b h2;rw[e1] at he;omega
  ·rcases t3.1 hb with e2|h2;·have:=h.1 a h1;rw[e2] at he;omega
   ·exact ih h.2 h1 h2
theorem S0 (hb:aQ c) (h:st<4):0≤c.lat.getD st default∧c.lat.getD st default≤3:=aj1 hb.2.2.1 (by have:=hb.2.1;omega)
theorem COk.af8 (h:COk c s) (hs:st<4) (hd:0<(aL s st).done.length): ∃j∈(aF s (iF s st).who.toNat).out,j.n=(iF s st).n∧j.left=st:=((h.slv st hs).out _ (M9 (cC hd))).2
theorem Z0.wT{s':CSt} (h:Z0 c s st) (he:aL s' st=aL s st) (ho: ∀x∈cS (aL s st),∀j∈(aF s x.1.toNat).out,j.n=x.2→j.left=st→j∈(aF s' x.1.toNat).out):Z0 c s' st:=by refine⟨by rw[he];exact h.pl,by rw[he];exact h.dl,by rw[he];exact h.last,by rw[he];exact h.inc,fun x hx=> ?_,by rw[he];exact h.rsp,by rw[he];exact h.left⟩;rw[he] at hx;obtain⟨q1,j,q2,q3,q4⟩:=h.out x hx;exact⟨q1,j,ho x hx j q2 q3 q4,q3,q4⟩
theorem mD.tell (h:mD c who p) (hs:st<4):mD c who {p with out:=PE p.out n,last:=st}:=by have hm: ∀j∈PE p.out n,j∈p.out:=fun j hj=>TA.subset hj;exact⟨h.next,h.ql,CQ TA.length_le h.ol,by dsimp only;omega,h.queue,fun j hj=>h.out j (hm j hj),h.acX.sublist TA,fun a ha b hb=>h.akF a (hm a ha) b (hm b hb)⟩
theorem mD.adm (h:mD c who p) (h1:0<p.queue.length) (h2:p.out.length<4) (h3:gZ c.map (bT c who (p.queue.getD 0 default))=st)
 (h4: ∀j∈p.out,(bT c who j.n).id=(bT c who (p.queue.getD 0 default)).id→j.left=st):mD c who {p with queue:=p.queue.drop 1,out:=p.out++[⟨who,p.queue.getD 0 default,st⟩]}:=by
 have hq0:=h.queue 0 h1
 have hn:=h.next
 have hql:=h.ql
 have hl:(p.queue.drop 1).length=p.queue.length-1:=by simp
 refine⟨hn,by dsimp only;omega,by simp;omega,h.last,fun i hi=> ?_,fun j hj=> ?_,?_,fun a ha b hb hab=> ?_⟩
 ·dsimp only at hi ⊢;rw[QF,h.queue (i+1) (by omega)];omega
 ·dsimp only at hj ⊢;rcases o3.1 hj with hj|hj;·have:=h.out j hj;exact⟨this.1,by omega,this.2.2⟩
  ·simp only[CJ] at hj;subst hj;exact⟨rfl,by dsimp only;omega,h3.symm⟩
 ·dsimp only;rw[brM];refine⟨h.acX,by simp,fun a ha b hb=> ?_⟩;simp only[CJ] at hb;subst hb;have:=(h.out a ha).2.1;dsimp only;omega
 ·dsimp only at ha hb;rcases o3.1 ha with ha|ha<;>rcases o3.1 hb with hb|hb;·exact h.akF a ha b hb hab
  ·simp only[CJ] at hb;subst hb;exact h4 a ha hab
  ·simp only[CJ] at ha;subst ha;exact(h4 b hb hab.symm).symm
  ·simp only[CJ] at ha hb;subst ha;subst hb;rfl
theorem mD.ask (h:mD c who p) (h1:p.queue.length<2) (h2:p.next<(c.cP.getD who default).length):mD c who {p with queue:=p.queue++[p.next],next:=p.next+1}:=by
 have hn:=h.next;have hql:=h.ql;refine⟨by dsimp only;omega,by simp;omega,h.ol,h.last,fun i hi=> ?_,fun j hj=> ?_,h.acX,h.akF⟩
 ·simp only[t2,List.length_singleton] at hi ⊢;rw[WI];split;·omega
  ·rw[h.queue i (by omega)];omega
 ·have:=h.out j hj;refine⟨this.1,?_,this.2.2⟩;simp only[t2,List.length_singleton];omega
theorem ajG (hb:aQ c) (h:COk c s) (hg:EH c s m):BA c (cX (aR c s m)):=by
 rw[af6 hb h hg];have hw:=XZ h hg
 cases m with
 |tick st=>exact h.st
 |adm who st=>exact h.st
 |tell who st=>exact G9 hb h.st (hw ⟨3,who,(iF s st).n⟩ (CJ.2 rfl))
 |work st=>exact G9 hb h.st (hw ⟨2,(bI s st).who,(bI s st).n⟩ (CJ.2 rfl))
 |ask who=>exact G9 hb h.st (hw ⟨1,who,(aF s who).next⟩ (CJ.2 rfl))
theorem aa4:(aR c s m).bM.length=s.bM.length∧(aR c s m).dD.length=s.dD.length:=by cases m<;>simp[aR]
theorem am9 (h:COk c s) (hg:EH c s m): ∀k,k<3→mD c k (aF (aR c s m) k):=by
 have hpl:=h.pl;intro k hk;have hp:=h.port k hk
 cases m with
 |tick st=>exact hp
 |work st=>exact hp
 |tell who st=>
  obtain⟨h0,h1,h2,h3⟩:=hg;rw[bL (s:=s) (s':=aR c s (.tell who st)) rfl (by omega)];split;·rename_i e;subst e;exact hp.tell h1
  ·exact hp
 |adm who st=>
  obtain⟨h0,h1,h2,h3,h4,h5,h6⟩:=hg;rw[bL (s:=s) (s':=aR c s (.adm who st)) rfl (by omega)];split;·rename_i e;subst e;exact hp.adm h3 h4 h5 h6
  ·exact hp
 |ask who=>
  obtain⟨h0,h1,h2⟩:=hg;rw[bL (s:=s) (s':=aR c s (.ask who)) rfl (by omega)];split;·rename_i e;subst e;exact hp.ask h1 h2
  ·exact hp
theorem an6 (hb:aQ c) (h:COk c s) (hg:EH c s m): ∀k,k<4→Z0 c (aR c s m) k:=by
 have hpl:=h.pl;have hsl:=h.sl;intro k hk;have hv:=h.slv k hk
 cases m with
 |ask who=>
  obtain⟨h0,h1,h2⟩:=hg;refine hv.wT rfl fun x hx j hj _ _=> ?_;rw[bL (s:=s) (s':=aR c s (.ask who)) rfl (by omega)];split;·rename_i e;rw[e] at hj;exact hj
  ·exact hj
 |tick st=>
  obtain⟨h1,h2,h3⟩:=hg;have hS:=bO (s:=s) (s':=aR c s (.tick st)) rfl (by omega:st<s.dD.length) k;by_cases e:k=st
  ·subst e;rw[if_pos rfl] at hS;have hl0:=hv.left 0 h2
   have hk2:cS (aL (aR c s (.tick k)) k)=cS (aL s k):=by
    rw[hS];unfold cS;dsimp only;congr 1;conv=>rhs;rw[gT h2]
    conv=>lhs;rw[gT h2]
    rfl
   refine⟨by rw[hS];simpa using hv.pl,by rw[hS];exact hv.dl,by rw[hS];exact hv.last,by rw[hk2];exact hv.inc,fun x hx=> ?_,by rw[hS];exact hv.rsp,?_⟩;·rw[hk2] at hx;exact hv.out x hx
   ·rw[hS];simp only[Y5];intro i hi;rw[pY h2];split;·rename_i e;subst e;dsimp only;unfold bI;exact⟨by omega,fun hc=>absurd hc (by omega)⟩
    ·exact hv.left i hi
  ·rw[if_neg e] at hS;exact hv.wT hS fun x hx j hj _ _=>hj
 |work st=>
  obtain⟨h1,h2,h3,h4⟩:=hg;have hS:=bO (s:=s) (s':=aR c s (.work st)) rfl (by omega:st<s.dD.length) k;by_cases e:k=st
  ·subst e;rw[if_pos rfl] at hS
   have hk2:cS (aL (aR c s (.work k)) k)=cS (aL s k):=by
    rw[hS];unfold cS;dsimp only;conv=>rhs;rw[gT h2]
    simp[key,bI]
   have hm:((bI s k).who,(bI s k).n)∈cS (aL s k):=JB (cC h2);obtain⟨q1,q2,q3⟩:=h.vIn h1 hm;dsimp only at q1 q2 q3;refine⟨by rw[hS];have:=hv.pl;simp;omega,by rw[hS];simp;omega,by rw[hS];exact hv.last,by rw[hk2];exact hv.inc,fun x hx=> ?_,?_,?_⟩;·rw[hk2] at hx;exact hv.out x hx
   ·rw[hS];intro j hj;rcases o3.1 hj with hj|hj;·exact hv.rsp j hj
    ·simp only[CJ] at hj;subst hj;have hp:=h.port (bI s k).who.toNat (by omega);have hask:oA c (bI s k).who (bI s k).n:=by have:=hp.asks (n:=(bI s k).n) (by omega) q2 (by have:=hp.ql;omega);have e1:(((bI s k).who.toNat:Nat):Int)=(bI s k).who:=(by omega);rwa [e1] at this
     exact afD h.atm.wr (GK hb hask)
   ·rw[hS];simp only[CI];intro i hi;rw[QF];have:=hv.left (i+1) (by omega);rw[this.2 (by omega)];have:=S0 hb h1;exact⟨by omega,fun _=>rfl⟩
  ·rw[if_neg e] at hS;exact hv.wT hS fun x hx j hj _ _=>hj
 |adm who st=>
  obtain⟨h0,h1,h2,h3,h4,h5,h6⟩:=hg;have hS:=bO (s:=s) (s':=aR c s (.adm who st)) rfl (by omega:st<s.dD.length) k;have boS:=fun w=>bL (s:=s) (s':=aR c s (.adm who st)) rfl (by omega:who<s.bM.length) w
  have hsub: ∀w,∀j∈(aF s w).out,j∈(aF (aR c s (.adm who st)) w).out:=fun w j hj=>by
   rw[boS];split;·rename_i e;subst e;exact brA _ hj
   ·exact hj
  by_cases e:k=st
  ·subst e;rw[if_pos rfl] at hS;have hk2:cS (aL (aR c s (.adm who k)) k)=cS (aL s k)++[((who:Int),(aF s who).queue.getD 0 default)]:=(by rw[hS];unfold cS;simp);have hq0:=(h.port who h0).queue 0 h3;refine⟨by rw[hS];simp;omega,by rw[hS];exact hv.dl,by rw[hS];dsimp only;omega,?_,fun x hx=> ?_,by rw[hS];exact hv.rsp,?_⟩;·rw[hk2,brM];refine⟨hv.inc,by simp,fun a ha b hb' hab=> ?_⟩;simp only[CJ] at hb';subst hb';dsimp only at hab ⊢;have:=(h.vIn h1 ha).2.2;have e:a.1.toNat=who:=(by omega);rw[e] at this;omega
   ·rw[hk2] at hx;rcases o3.1 hx with hx|hx;·obtain⟨q1,j,q2,q3⟩:=hv.out x hx;exact⟨q1,j,hsub _ j q2,q3⟩
    ·simp only[CJ] at hx;subst hx;refine⟨by dsimp only;omega,⟨who,(aF s who).queue.getD 0 default,k⟩,?_,rfl,rfl⟩;rw[boS,if_pos (by simp)];simp
   ·rw[hS];simp only[t2,List.length_singleton];intro i hi;rw[WI];have:=S0 hb h1;split;·exact⟨by dsimp only;omega,fun _=>rfl⟩
    ·exact hv.left i (by omega)
  ·rw[if_neg e] at hS;exact hv.wT hS fun x hx j hj _ _=>hsub _ j hj
 |tell who st=>
  obtain⟨h0,h1,h2,h3⟩:=hg;have h3':(iF s st).who=who:=h3;have hS:=bO (s:=s) (s':=aR c s (.tell who st)) rfl (by omega:st<s.dD.length) k;have boS:=fun w=>bL (s:=s) (s':=aR c s (.tell who st)) rfl (by omega:who<s.bM.length) w;obtain⟨jh,g1,g2,g3⟩:=h.af8 h1 h2;have ew:(iF s st).who.toNat=who:=by omega
  rw[ew] at g1;have hex: ∃j∈(aF s who).out,j.n=(iF s st).n:=⟨jh,g1,g2⟩
  have hsub: ∀w,∀j∈(aF s w).out,(w=who→j.n≠(iF s st).n)→j∈(aF (aR c s (.tell who st)) w).out:=fun w j hj hne=>by
   rw[boS];split;·rename_i e;subst e;exact amU hex hj (hne rfl)
   ·exact hj
  have hcons:cS (aL s st)=key (iF s st)::(((aL s st).done.drop 1).map key++(aL s st).pipe.map fun j=>(j.who,j.n)):=by
   unfold cS;conv=>lhs;rw[gT h2]
   rfl
  by_cases e:k=st
  ·subst e;rw[if_pos rfl] at hS;have hk2:cS (aL (aR c s (.tell who k)) k)=((aL s k).done.drop 1).map key++(aL s k).pipe.map fun j=>(j.who,j.n):=by rw[hS];rfl
   have hinc:=hv.inc;rw[hcons,G0] at hinc;refine⟨by rw[hS];exact hv.pl,by rw[hS];have:=hv.dl;simp;omega,by rw[hS];exact hv.last,by rw[hk2];exact hinc.2,fun x hx=> ?_,?_,by rw[hS];exact hv.left⟩;·rw[hk2] at hx;obtain⟨q1,j,q2,q3,q4⟩:=hv.out x (by rw[hcons];exact bq9 _ hx);refine⟨q1,j,hsub _ j q2 fun he hn=> ?_,q3,q4⟩;have:=hinc.1 x hx (by simp only[key];omega);simp only[key] at this;omega
   ·rw[hS];exact fun j hj=>hv.rsp j (bsE hj)
  ·rw[if_neg e] at hS;refine hv.wT hS fun x hx j hj hn hl=>hsub _ j hj fun he hne=> ?_;subst he;have hp:=h.port x.1.toNat h0;have hu:jh=j:=(by exact ZO hp.acX g1 hj (by omega));subst hu;omega
theorem abB{f g:Nat→Nat} (h:who<3) (hfg: ∀i,i≠who→f i=g i):f 0+f 1+f 2+g who=g 0+g 1+g 2+f who:=by
 have:who=0∨who=1∨who=2:=by omega
 rcases this with rfl|rfl|rfl;·have:=hfg 1 (by omega);have:=hfg 2 (by omega);omega
 ·have:=hfg 0 (by omega);have:=hfg 2 (by omega);omega
 ·have:=hfg 0 (by omega);have:=hfg 1 (by omega);omega
theorem aaC{f g:Nat→Nat} (h:st<4) (hfg: ∀i,i≠st→f i=g i):f 0+f 1+f 2+f 3+g st=g 0+g 1+g 2+g 3+f st:=by
 have:st=0∨st=1∨st=2∨st=3:=by omega
 rcases this with rfl|rfl|rfl|rfl;·have:=hfg 1 (by omega);have:=hfg 2 (by omega);have:=hfg 3 (by omega);omega
 ·have:=hfg 0 (by omega);have:=hfg 2 (by omega);have:=hfg 3 (by omega);omega
 ·have:=hfg 0 (by omega);have:=hfg 1 (by omega);have:=hfg 3 (by omega);omega
 ·have:=hfg 0 (by omega);have:=hfg 1 (by omega);have:=hfg 2 (by omega);omega
theorem ahN (h:COk c s) (hg:EH c s m):(aF (aR c s m) 0).out.length+(aF (aR c s m) 1).out.length+(aF (aR c s m) 2).out.length=hU (aR c s m) 0+hU (aR c s m) 1+hU (aR c s m) 2+hU (aR c s m) 3:=by
 have hpl:=h.pl;have hsl:=h.sl;have hc:=h.count
 cases m with
 |ask who=>
  obtain⟨h0,h1,h2⟩:=hg;have boS:=fun w=>bL (s:=s) (s':=aR c s (.ask who)) rfl (by omega:who<s.bM.length) w
  have: ∀w,(aF (aR c s (.ask who)) w).out=(aF s w).out:=fun w=>by
   rw[boS];split;·rename_i e;subst e;rfl
   ·rfl
  rw[this,this,this];exact hc
 |tick st=>
  obtain⟨h1,h2,h3⟩:=hg;have hS:=fun k=>bO (s:=s) (s':=aR c s (.tick st)) rfl (by omega:st<s.dD.length) k
  have: ∀k,hU (aR c s (.tick st)) k=hU s k:=fun k=>by
   unfold hU;rw[hS];split;·rename_i e;subst e;simp
   ·rfl
  rw[this,this,this,this];exact hc
 |work st=>
  obtain⟨h1,h2,h3,h4⟩:=hg;have hS:=fun k=>bO (s:=s) (s':=aR c s (.work st)) rfl (by omega:st<s.dD.length) k
  have: ∀k,hU (aR c s (.work st)) k=hU s k:=fun k=>by
   unfold hU;rw[hS];split;·rename_i e;subst e;simp;omega
   ·rfl
  rw[this,this,this,this];exact hc
 |adm who st=>
  obtain⟨h0,h1,h2,h3⟩:=hg;have hS:=fun k=>bO (s:=s) (s':=aR c s (.adm who st)) rfl (by omega:st<s.dD.length) k;have boS:=fun w=>bL (s:=s) (s':=aR c s (.adm who st)) rfl (by omega:who<s.bM.length) w;have e1:=abB (f:=fun w=>(aF (aR c s (.adm who st)) w).out.length) (g:=fun w=>(aF s w).out.length) h0 fun i hi=>by rw[boS,if_neg hi]
  have e2:=aaC (f:=hU (aR c s (.adm who st))) (g:=hU s) h1 fun i hi=>by unfold hU;rw[hS,if_neg hi]
  have e3:(aF (aR c s (.adm who st)) who).out.length=(aF s who).out.length+1:=by rw[boS,if_pos rfl];simp
  have e4:hU (aR c s (.adm who st)) st=hU s st+1:=by unfold hU;rw[hS,if_pos rfl];simp;omega
  omega
 |tell who st=>
  obtain⟨h0,h1,h2,h3⟩:=hg;have h3':(iF s st).who=who:=h3;have hS:=fun k=>bO (s:=s) (s':=aR c s (.tell who st)) rfl (by omega:st<s.dD.length) k;have boS:=fun w=>bL (s:=s) (s':=aR c s (.tell who st)) rfl (by omega:who<s.bM.length) w;obtain⟨jh,g1,g2,g3⟩:=h.af8 h1 h2;have ew:(iF s st).who.toNat=who:=by omega
  rw[ew] at g1;have e1:=abB (f:=fun w=>(aF (aR c s (.tell who st)) w).out.length) (g:=fun w=>(aF s w).out.length) h0 fun i hi=>by rw[boS,if_neg hi]
  have e2:=aaC (f:=hU (aR c s (.tell who st))) (g:=hU s) h1 fun i hi=>by unfold hU;rw[hS,if_neg hi]
  have e3:(aF (aR c s (.tell who st)) who).out.length+1=(aF s who).out.length:=by rw[boS,if_pos rfl];exact aj2 ⟨jh,g1,g2⟩
  have e4:hU (aR c s (.tell who st)) st+1=hU s st:=by unfold hU;rw[hS,if_pos rfl];simp;omega
  omega
theorem o9 (hb:aQ c) (h:COk c s) (hg:EH c s m):COk c (aR c s m):=⟨(ajG hb h hg).atm,by rw[aa4.1];exact h.pl,by rw[aa4.2];exact h.sl,am9 h hg,an6 hb h hg,ahN h hg,ajG hb h hg⟩
def wY (c:Cfg):CSt→List Mic→Prop
 |_,[]=>True
 |s,m::l=>EH c s m∧wY c (aR c s m) l
def dR (c:Cfg) (s:CSt) (l:List Mic):CSt:=l.foldl (aR c) s
def iP (c:Cfg):CSt→List Mic→List Ev
 |_,[]=>[]
 |s,m::l=>y0 s m++iP c (aR c s m) l
theorem tB{a b:List Mic}:dR c s (a++b)=dR c (dR c s a) b:=by simp[dR]
theorem HA {c:Cfg}: ∀{a b:List Mic} {s:CSt},wY c s (a++b)↔wY c s a∧wY c (dR c s a) b
 | [],b,s=>by simp[wY,dR]
 |m::a,b,s=>by have:=HA (c:=c) (a:=a) (b:=b) (s:=aR c s m);simp only[List.cons_append,wY,this,and_assoc];rfl
theorem G6 {c:Cfg}: ∀{a b:List Mic} {s:CSt},iP c s (a++b)=iP c s a++iP c (dR c s a) b
 | [],b,s=>by simp[iP,dR]
 |m::a,b,s=>by have:=G6 (c:=c) (a:=a) (b:=b) (s:=aR c s m);simp only[List.cons_append,iP,this,C0];rfl
theorem CV {c:Cfg} (hb:aQ c): ∀{l:List Mic} {s:CSt},COk c s→wY c s l→COk c (dR c s l)∧cX (dR c s l)=runM c (cX s) (iP c s l)∧F9 c (cX s) (iP c s l)
 | [],s,h,_=>⟨h,rfl,pV⟩
 |m::l,s,h,hg=>by
  obtain⟨h1,h2⟩:=hg;obtain⟨q1,q2,q3⟩:=CV hb (l:=l) (o9 hb h h1) h2;have ha:=af6 hb h h1;refine⟨q1,?_,?_⟩;·show cX (dR c (aR c s m) l)=_;rw[q2,ha];show _=runM c (cX s) (y0 s m++iP c (aR c s m) l);rw[ZL]
  ·show F9 c (cX s) (y0 s m++iP c (aR c s m) l);rw[WS];refine⟨?_,by rw[←ha];exact q3⟩;have hw:=XZ h h1
   cases m with
   |tick st=>exact pV
   |adm who st=>exact pV
   |tell who st=>exact xB.2 ⟨hw ⟨3,who,(iF s st).n⟩ (CJ.2 rfl),pV⟩
   |work st=>exact xB.2 ⟨hw ⟨2,(bI s st).who,(bI s st).n⟩ (CJ.2 rfl),pV⟩
   |ask who=>exact xB.2 ⟨hw ⟨1,who,(aF s who).next⟩ (CJ.2 rfl),pV⟩
def pQ (s:CSt) (who k:Nat):Nat:=(((aF s who).last+(k:Int))%4).toNat
def NN (s:CSt) (who st:Nat):Bool:=decide (0<(aL s st).done.length∧((aL s st).done.getD 0 default).who=who)
def vT (i:CIn) (s:CSt) (who:Nat):Option Mic:=if i.ready.getD who default=true then (([1,2,3,4].map (pQ s who)).find? (NN s who)).map (.tell who) else none
def qW (i:CIn) (s:CSt) (st:Nat):Option Mic:=if i.n9.getD st default=true∨(aL s st).pipe.length=0 then none else if 0<(bI s st).left then some (.tick st) else if (aL s st).done.length<2 then some (.work st) else none
def sM (s:CSt) (st k:Nat):Nat:=(((aL s st).last+(k:Int))%3).toNat
def KE (c:Cfg) (s:CSt) (used:List Bool) (st who:Nat):Bool:= !(used.getD who default)&&decide (HV c s who st)
def AO (c:Cfg) (s:CSt) (used:List Bool) (st:Nat):Option Nat:=if (aL s st).pipe.length<2 then ([1,2,3].map (sM s st)).find? (KE c s used st) else none
def PA (c:Cfg) (i:CIn) (s:CSt) (who:Nat):Option Mic:=if i.send.getD who default=true∧(aF s who).queue.length<2∧(aF s who).next<(c.cP.getD who default).length then some (.ask who) else none
def atS (c:Cfg) (s:CSt):Option Mic→CSt
 |none=>s
 |some m=>aR c s m
def vE (c:Cfg) (f:CSt→Nat→Option Mic):CSt→List Nat→List Mic
 |_,[]=>[]
 |s,k::l=>match f s k with
  |none=>vE c f s l
  |some m=>m::vE c f (aR c s m) l
def oP (c:Cfg):CSt→List Bool→List Nat→List Mic
 |_,_,[]=>[]
 |s,u,st::l=>match AO c s u st with
  |none=>oP c s u l
  |some who=>.adm who st::oP c (aR c s (.adm who st)) (u.set who true) l
def KQ (c:Cfg) (i:CIn) (s:CSt):List Mic:=vE c (vT i) s [0,1,2]
def xX (c:Cfg) (i:CIn) (s:CSt):List Mic:=vE c (qW i) s [0,1,2,3]
def ad4 (c:Cfg) (s:CSt):List Mic:=oP c s [false,false,false] [0,1,2,3]
def MV (c:Cfg) (i:CIn) (s:CSt):List Mic:=vE c (PA c i) s [0,1,2]
def CW (c:Cfg) (i:CIn) (s:CSt):CSt:=dR c s (KQ c i s)
def QD (c:Cfg) (i:CIn) (s:CSt):CSt:=dR c (CW c i s) (xX c i (CW c i s))
def OI (c:Cfg) (i:CIn) (s:CSt):CSt:=dR c (QD c i s) (ad4 c (QD c i s))
def vF (c:Cfg) (i:CIn) (s:CSt):CSt:=dR c (OI c i s) (MV c i (OI c i s))
def YC (c:Cfg) (i:CIn) (s:CSt):List Mic:=KQ c i s++xX c i (CW c i s)++ad4 c (QD c i s)++MV c i (OI c i s)
def TK (c:Cfg) (i:CIn) (s:CSt):List Ev:=iP c s (YC c i s)
variable{i:CIn}
theorem PI:vF c i s=dR c s (YC c i s):=by unfold YC vF OI QD CW;simp only[tB]
theorem LW {c:Cfg} (hb:aQ c) {f:CSt→Nat→Option Mic}: ∀{l:List Nat} {s:CSt},COk c s→(∀s k m,COk c s→k∈l→f s k=some m→EH c s m)→wY c s (vE c f s l)
 | [],s,_,_=>trivial
 |k::l,s,h,hf=>by
  unfold vE;split;·exact LW hb h fun s k m hs hk hm=>hf s k m hs (bq9 _ hk) hm
  ·rename_i m hm;have hg:=hf s k m h (by simp) hm;exact⟨hg,LW hb (o9 hb h hg) fun s k m hs hk hm=>hf s k m hs (bq9 _ hk) hm⟩
theorem TB (_:COk c s) (hw:who<3) (hm:vT i s who=some m):EH c s m:=by
 unfold vT at hm;split at hm;·rw[m4] at hm;obtain⟨st,h1,rfl⟩:=hm;have h2:=List.find?_some h1;have h3:=bsM h1;obtain⟨k,_,rfl⟩:=CF.1 h3;obtain⟨q1,q2⟩:=of_decide_eq_true h2;exact⟨hw,by unfold pQ;omega,q1,q2⟩
 ·cases hm
theorem LM (_:COk c s) (hw:st<4) (hm:qW i s st=some m):EH c s m:=by
 unfold qW at hm;split at hm;·cases hm
 ·rename_i h1;split at hm;·rename_i h2;cases hm;exact⟨hw,by omega,h2⟩
  ·rename_i h2;split at hm;·rename_i h3;cases hm;exact⟨hw,by omega,h2,h3⟩
   ·cases hm
variable{u:List Bool}
theorem XH (hs:st<4) (hm:AO c s u st=some who):EH c s (.adm who st):=by
 unfold AO at hm;split at hm;·rename_i h1;have h2:=List.find?_some hm;have h3:=bsM hm;obtain⟨k,_,rfl⟩:=CF.1 h3;unfold KE at h2;rw[q7] at h2;exact⟨by unfold sM;omega,hs,h1,of_decide_eq_true h2.2⟩
 ·cases hm
theorem YH (_:COk c s) (hw:who<3) (hm:PA c i s who=some m):EH c s m:=by
 unfold PA at hm;split at hm;·rename_i h;cases hm;exact⟨hw,h.2.1,h.2.2⟩
 ·cases hm
theorem XU {c:Cfg} (hb:aQ c): ∀{l:List Nat} {s:CSt} {u:List Bool},COk c s→(∀k∈l,k<4)→wY c s (oP c s u l)
 | [],s,u,_,_=>trivial
 |k::l,s,u,h,hl=>by
  unfold oP;split;·exact XU hb h fun k hk=>hl k (bq9 _ hk)
  ·rename_i who hm;have hg:=XH (hl k (by simp)) hm;exact⟨hg,XU hb (o9 hb h hg) fun k hk=>hl k (bq9 _ hk)⟩
theorem tC (h:k∈[0,1,2]):k<3:=by simp at h;omega
theorem w8 (h:k∈[0,1,2,3]):k<4:=by simp at h;omega
theorem aaI (hb:aQ c) (h:COk c s):wY c s (KQ c i s):=LW hb h fun s k m hs hk hm=>TB hs (tC hk) hm
theorem ZB (hb:aQ c) (h:COk c s):wY c s (xX c i s):=LW hb h fun s k m hs hk hm=>LM hs (w8 hk) hm
theorem afK (hb:aQ c) (h:COk c s):wY c s (ad4 c s):=XU hb h fun k hk=>w8 hk
theorem an9 (hb:aQ c) (h:COk c s):wY c s (MV c i s):=LW hb h fun s k m hs hk hm=>YH hs (tC hk) hm
theorem PH (hb:aQ c) (h:COk c s):COk c (CW c i s):=(CV hb h (aaI hb h)).1
theorem PV (hb:aQ c) (h:COk c s):COk c (QD c i s):=(CV hb (PH hb h) (ZB hb (PH hb h))).1
theorem afG (hb:aQ c) (h:COk c s):COk c (OI c i s):=(CV hb (PV hb h) (afK hb (PV hb h))).1
theorem KG (hb:aQ c) (h:COk c s):wY c s (YC c i s):=by
 unfold YC;rw[HA,HA,HA];refine⟨⟨⟨aaI hb h,ZB hb (PH hb h)⟩,?_⟩,?_⟩;·rw[tB];exact afK hb (PV hb h)
 ·rw[tB,tB];exact an9 hb (afG hb h)
theorem PN (hb:aQ c) (h:COk c s):COk c (vF c i s):=by rw[PI];exact(CV hb h (KG hb h)).1
theorem anV (hb:aQ c) (h:COk c s):cX (vF c i s)=runM c (cX s) (TK c i s):=by rw[PI];exact(CV hb h (KG hb h)).2.1
theorem aiV (hb:aQ c) (h:COk c s):F9 c (cX s) (TK c i s):=(CV hb h (KG hb h)).2.2
def sQ (c:Cfg) (s:CSt) (l:List CIn):CSt:=l.foldl (fun s i=>vF c i s) s
def RJ (c:Cfg):CSt→List CIn→List Ev
 |_,[]=>[]
 |s,i::l=>TK c i s++RJ c (vF c i s) l
theorem afM {c:Cfg} (hb:aQ c): ∀{l:List CIn} {s:CSt},COk c s→COk c (sQ c s l)∧cX (sQ c s l)=runM c (cX s) (RJ c s l)∧F9 c (cX s) (RJ c s l)
 | [],s,h=>⟨h,rfl,pV⟩
 |i::l,s,h=>by
  obtain⟨q1,q2,q3⟩:=afM hb (l:=l) (PN hb (i:=i) h);have ha:=anV hb (i:=i) h;refine⟨q1,?_,?_⟩;·show cX (sQ c (vF c i s) l)=runM c (cX s) (TK c i s++RJ c (vF c i s) l);rw[q2,ha,ZL]
  ·show F9 c (cX s) (TK c i s++RJ c (vF c i s) l);rw[WS];exact⟨aiV hb h,by rw[←ha];exact q3⟩
def HY:CSt:=⟨List.replicate 64 0,List.replicate 6 (-1),List.replicate 3 ⟨0,[],[],3⟩,List.replicate 4 ⟨[],[],2⟩,[]⟩
theorem amS:cX HY=st0:=by rfl
theorem MX (hk:k<3):aF HY k=⟨0,[],[],3⟩:=by
 have:k=0∨k=1∨k=2:=by omega
 rcases this with rfl|rfl|rfl<;>rfl
theorem K4 (hk:k<4):aL HY k=⟨[],[],2⟩:=by
 have:k=0∨k=1∨k=2∨k=3:=by omega
 rcases this with rfl|rfl|rfl|rfl<;>rfl
theorem anK (c:Cfg):COk c HY:=by
 have hst:BA c (cX HY):=by rw[amS];exact arF c
 refine⟨hst.atm,rfl,rfl,fun k hk=> ?_,fun k hk=> ?_,rfl,hst⟩;·rw[MX hk];exact⟨by simp,by simp,by simp,by decide,fun i hi=>by simp at hi,fun j hj=>by simp at hj,List.Pairwise.nil,fun a ha=>by simp at ha⟩
 ·refine⟨?_,?_,?_,?_,?_,?_,?_⟩<;>rw[K4 hk];·simp
  ·simp
  ·decide
  ·exact List.Pairwise.nil
  ·intro x hx;simp[cS] at hx
  ·intro j hj;simp at hj
  ·intro i hi;simp at hi
def Fin (c:Cfg) (s:CSt):Prop:=∀k,k<3→(aF s k).next=(c.cP.getD k default).length∧(aF s k).queue=[]∧(aF s k).out=[]
def pU:CIn:=⟨[true,true,true],[false,false,false,false],[true,true,true]⟩
theorem WV (h:COk c s) (hf:Fin c s): ∀k,k<4→(aL s k).pipe=[]∧(aL s k).done=[]:=by
 have hc:=h.count;unfold hU at hc;rw[(hf 0 (by omega)).2.2,(hf 1 (by omega)).2.2,(hf 2 (by omega)).2.2] at hc;simp only[List.length_nil] at hc;intro k hk;have:k=0∨k=1∨k=2∨k=3:=by omega
 rcases this with rfl|rfl|rfl|rfl<;>exact⟨H4.1 (by omega),H4.1 (by omega)⟩
theorem afO (h:COk c s) (hf:Fin c s):(cX s).wait=[]∧(cX s).done=[]:=by
 have he:=WV h hf;have hpl:=h.pl;have hsl:=h.sl
 have h1:qU s=[]:=by
  rw[btP];intro j hj;rcases wU.1 hj with⟨k,hk,m,hm,_⟩|⟨st,hs,x,hx,_⟩
  ·rw[(hf k (by omega)).2.1] at hm;cases hm
  ·rw[(he st (by omega)).1] at hx;cases hx
 have h2:uQ s=[]:=by rw[btP];intro j hj;obtain⟨st,hs,hm⟩:=BU.1 hj;rw[(he st (by omega)).2] at hm;cases hm
 exact⟨by simp only[cX,h1];rfl,by simp only[cX,h2];rfl⟩
theorem GZ{f:CSt→Nat→Option Mic}{l:List Nat} (h:f s k=none):vE c f s (k::l)=vE c f s l:=by rw[vE,h]
theorem NH{f:CSt→Nat→Option Mic}{l:List Nat} (h:f s k=some m):vE c f s (k::l)=m::vE c f (aR c s m) l:=by rw[vE,h]
theorem ap4 (h:k<3):[0,1,2].drop k=k::[0,1,2].drop (k+1):=by
 obtain rfl|rfl|rfl:k=0∨k=1∨k=2:=by omega
 all_goals rfl
theorem apX (h:k<4):[0,1,2,3].drop k=k::[0,1,2,3].drop (k+1):=by
 obtain rfl|rfl|rfl|rfl:k=0∨k=1∨k=2∨k=3:=by omega
 all_goals rfl
def vU (c:Cfg) (f:CSt→Nat→Option Mic) (l:List Nat) (s:CSt) (es:List Ev) (S:CSt) (E:List Ev):Prop:=dR c s (vE c f s l)=S∧es++iP c s (vE c f s l)=E
theorem vU.none {c:Cfg} {f:CSt→Nat→Option Mic} {s S:CSt} {es E:List Ev} {k:Nat} {l:List Nat} (hl:vU c f (k::l) s es S E) (h:f s k=none):vU c f l s es S E:=by unfold vU at hl;rw[GZ h] at hl;exact hl
theorem vU.some {c:Cfg} {f:CSt→Nat→Option Mic} {s S:CSt} {es E:List Ev} {k:Nat} {l:List Nat} {m:Mic} (hl:vU c f (k::l) s es S E) (h:f s k=some m):vU c f l (aR c s m) (es++y0 s m) S E:=by unfold vU at hl;rw[NH h] at hl;refine⟨hl.1,?_⟩;rw[C0];exact hl.2
theorem vU.nil {c:Cfg} {f:CSt→Nat→Option Mic} {s S:CSt} {es E:List Ev} (hl:vU c f [] s es S E):s=S∧es=E:=by refine⟨hl.1,?_⟩;have:=hl.2;rw[vE,iP,bq6] at this;exact this
theorem agJ (h:i.ready.getD k default=false):vT i s k=none:=by unfold vT;rw[if_neg (by rw[h];decide)]
theorem bkW{j:Nat} (h1:1≤j) (h2:j<5):j=1∨j=2∨j=3∨j=4:=by omega
theorem acZ (h: ∀j,1≤j→j<5→NN s k (pQ s k j)=false):vT i s k=none:=by
 unfold vT;split;·simp[List.find?_cons,h 1 (by omega) (by omega),h 2 (by omega) (by omega),h 3 (by omega) (by omega),h 4 (by omega) (by omega)]
 ·rfl
theorem acB{j:Nat} (hr:i.ready.getD k default=true) (h1:1≤j) (h2:j≤4) (h: ∀j',1≤j'→j'<j→NN s k (pQ s k j')=false) (hj:NN s k (pQ s k j)=true):vT i s k=some (.tell k (pQ s k j)):=by
 unfold vT;rw[if_pos hr];rcases bkW h1 (by omega) with rfl|rfl|rfl|rfl;·simp[List.find?_cons,hj]
 ·simp[List.find?_cons,hj,h 1 (by omega) (by omega)]
 ·simp[List.find?_cons,hj,h 1 (by omega) (by omega),h 2 (by omega) (by omega)]
 ·simp[List.find?_cons,hj,h 1 (by omega) (by omega),h 2 (by omega) (by omega),h 3 (by omega) (by omega)]
def LV (c:Cfg) (l:List Nat) (s:CSt) (u:List Bool) (S:CSt):Prop:=dR c s (oP c s u l)=S
theorem LV.none {c:Cfg} {s S:CSt} {u:List Bool} {k:Nat} {l:List Nat} (hl:LV c (k::l) s u S) (h:AO c s u k=none):LV c l s u S:=by unfold LV at hl;rw[oP,h] at hl;exact hl
theorem LV.some {c:Cfg} {s S:CSt} {u:List Bool} {k who:Nat} {l:List Nat} (hl:LV c (k::l) s u S) (h:AO c s u k=some who):LV c l (aR c s (.adm who k)) (u.set who true) S:=by unfold LV at hl;rw[oP,h] at hl;exact hl
theorem anA (h: ¬(aL s st).pipe.length<2):AO c s u st=none:=if_neg h
theorem ah0 (h: ∀j,1≤j→j<4→KE c s u st (sM s st j)=false):AO c s u st=none:=by
 unfold AO;split;·simp[List.find?_cons,h 1 (by omega) (by omega),h 2 (by omega) (by omega),h 3 (by omega) (by omega)]
 ·rfl
theorem ahR{j:Nat} (hr:(aL s st).pipe.length<2) (h1:1≤j) (h2:j≤3) (h: ∀j',1≤j'→j'<j→KE c s u st (sM s st j')=false) (hj:KE c s u st (sM s st j)=true):AO c s u st=some (sM s st j):=by
 unfold AO;rw[if_pos hr];obtain rfl|rfl|rfl:j=1∨j=2∨j=3:=by omega
 ·simp[List.find?_cons,hj]
 ·simp[List.find?_cons,hj,h 1 (by omega) (by omega)]
 ·simp[List.find?_cons,hj,h 1 (by omega) (by omega),h 2 (by omega) (by omega)]
theorem IW {p:Job→Bool}: ∀{A B:List Job},(∀a∈A,p a=false)→(∀b∈B,p b=true)→(A++B).findIdx p=A.length
 | [],[],_,_=>rfl
 | [],b::B,_,hB=>by rw[List.nil_append,List.findIdx_cons,hB b (by simp)];rfl
 |a::A,B,hA,hB=>by rw[List.cons_append,List.findIdx_cons,hA a (by simp)];simp only[cond_false,List.length_cons];rw[IW (fun x hx=>hA x (bq9 _ hx)) hB]
theorem abS{A B:List Job}{x:Job} (hA: ∀a∈A,uL x a=false) (hB: ∀b∈B,uL x b=true):BM (A++B) x=A++x::B:=by
 unfold BM;rw[IW hA hB,List.take_left',List.drop_left'];·rfl
 ·rfl
def A5 (l:List Job) (k:Nat):List Job:=jX (l.take k)
theorem ahI (hk:k≤l.length):(A5 l k).length=k:=by unfold A5;rw[(fH _).length_eq,CG];omega
theorem ac8 (hk:k<l.length):A5 l (k+1)=BM (A5 l k) (l.getD k default):=by unfold A5 jX;rw[nK hk,btR];rfl
theorem ah3:A5 l 1=l.take 1:=by
 cases l with
 |nil=>rfl
 |cons x l=>rfl
theorem aiE:A5 l l.length=jX l:=by unfold A5;rw[bq4]
def MS (S:List Job) (x:Job) (j:Nat):List Job:=S.take j++x::S.drop j
theorem amF{S:List Job}{x:Job}{j:Nat} (_:j≤S.length):(MS S x j).length=S.length+1:=by unfold MS;simp;omega
end Go.AM
namespace Go.Proofs.YtmccpdapaccnoaaGreat
open Go Go.AM
def aJP:AC:= (boG [f5 2 0,f5 3 1,dO 4 boD] [2,3] (.seq (boG [f8 9 3 2,f6 10 aIV [9],f4 11 10,RM 12 11,g9 13 0 3 12 false,GQ 14 (.load 2 true 13) 12 false,GQ 15 (.call aIU [14]) 12 false,hP 16 15 12 false,f3 17 12 boE 16,RM 18 17,g9 19 2 3 18 false,hD 20 19 18 false,GQ 21 (.len false 20) 18 false,hO 22 .neq 21 (ki 3) 18 false,f3 23 18 boE 22] [2,3,23] (.cond 23 (boG [dO 4 boD] [4] .ret) .skip)) (boG [dO 5 (ki 0)] [2,3,5] (.seq (boG [dO 6 (ki 0)] [2,3,5,6] (.block 0 (.loop (.seq (boG [RM 24 6,dI 25 .lss 24 (ki 3)] [2,3,5,6,25] (.cond 25 .skip (.exit 0))) (.seq (.block 1 (.seq (boG [RF 28 2 3,RL 29 28,RM 30 6,e0 31 1 29 30,RL 32 31,RF 33 2 2,RL 34 33,RM 35 6,e0 36 1 34 35,RL 37 36,f1 38 37,f6 39 y2 [32,(ki 0),38],f4 40 39] [2,3,5,6,40] (.cond 40 (boG [dO 4 boD] [4] .ret) .skip)) (m2 [RM 41 5,RF 42 2 3,RL 43 42,RM 44 6,e0 45 1 43 44,RL 46 45,dI 47 .add 41 46,RM 5 47] [2,3,5,6]))) (m2 [RM 26 6,dI 27 .add 26 (ki 1),RM 6 27] [2,3,5,6])))))) (.seq (boG [f8 48 3 2,RF 49 2 3,RL 50 49,RF 51 3 3,RL 52 51,f6 53 aIQ [48,50,52,boD],f4 54 53,RM 55 54,GQ 56 (.load 3 true 2) 55 false,g9 57 2 3 55 false,hD 58 57 55 false,g9 59 4 3 55 false,hD 60 59 55 false,GQ 61 (.call aIQ [56,58,60,boE]) 55 false,hP 62 61 55 false,f3 63 55 boE 62,RM 64 63,GQ 65 (.load 3 true 2) 64 false,GQ 66 (.load 6 true 3) 64 false,GQ 67 (.call aIX [65,66]) 64 false,hP 68 67 64 false,f3 69 64 boE 68,RM 70 69,g9 71 3 3 70 false,hD 72 71 70 false,GQ 73 (.len false 72) 70 false,g9 74 4 3 70 false,hD 75 74 70 false,GQ 76 (.len false 75) 70 false,hO 77 .add 73 76 70 false,g9 78 5 3 70 false,hD 79 78 70 false,GQ 80 (.len false 79) 70 false,hO 81 .add 77 80 70 false,hG 82 5 70 false,hO 83 .neq 81 82 70 false,f3 84 70 boE 83] [3,84] (.cond 84 (boG [dO 4 boD] [4] .ret) .skip)) (.seq (boG [dO 7 (ki 0)] [3,7] (.block 2 (.loop (.seq (boG [RM 85 7,RF 86 5 3,RL 87 86,f1 88 87,dI 89 .lss 85 88] [3,7,89] (.cond 89 .skip (.exit 2))) (.seq (.block 3 (boG [RF 92 3 3,RL 93 92,RF 94 5 3,RL 95 94,RM 96 7,e0 97 5 95 96,RF 98 0 97,RL 99 98,RF 100 5 3,RL 101 100,RM 102 7,e0 103 5 101 102,RF 104 1 103,RL 105 104,f6 106 aIN [93,99,105],dI 107 .geq 106 (ki 0),RM 108 107,g9 109 4 3 108 false,hD 110 109 108 false,g9 111 5 3 108 false,hD 112 111 108 false,hG 113 7 108 false,j0 114 5 112 113 108 false,g9 115 0 114 108 false,hD 116 115 108 false,g9 117 5 3 108 false,hD 118 117 108 false,hG 119 7 108 false,j0 120 5 118 119 108 false,g9 121 1 120 108 false,hD 122 121 108 false,GQ 123 (.call aIN [110,116,122]) 108 false,hO 124 .geq 123 (ki 0) 108 false,f3 125 108 boE 124] [3,7,125] (.cond 125 (boG [dO 4 boD] [4] .ret) .skip))) (m2 [RM 90 7,dI 91 .add 90 (ki 1),RM 7 91] [3,7])))))) (.seq (boG [dO 8 (ki 0)] [3,8] (.block 4 (.loop (.seq (boG [RM 126 8,RF 127 4 3,RL 128 127,f1 129 128,dI 130 .lss 126 129] [3,8,130] (.cond 130 .skip (.exit 4))) (.seq (.block 5 (boG [RF 133 3 3,RL 134 133,RF 135 4 3,RL 136 135,RM 137 8,e0 138 5 136 137,RF 139 0 138,RL 140 139,RF 141 4 3,RL 142 141,RM 143 8,e0 144 5 142 143,RF 145 1 144,RL 146 145,f6 147 aIN [134,140,146],dI 148 .geq 147 (ki 0)] [3,8,148] (.cond 148 (boG [dO 4 boD] [4] .ret) .skip))) (m2 [RM 131 8,dI 132 .add 131 (ki 1),RM 8 132] [3,8])))))) (boG [dO 4 boE] [4] .ret))))))))
def aKC:List aW:=[.tm 4]
theorem aMJ:aO Tryz.prog Tryz.f72 (bnD aJP)=some (aJP,aKC):=by kernel_rfl
theorem aMM:aN Tryz.prog aI6 Tryz.f72 aJP aKC:=aN.mk Tryz.func72 (by kernel_rfl) aMJ
def aI9:AC:= (boG [f5 4 0,dO 8 boD] [1,2,3,4] (.seq (boG [dO 9 (ki 0)] [1,2,3,4,9] (.block 0 (.loop (.seq (boG [RM 11 9,RM 12 2,f1 13 12,dI 14 .lss 11 13] [1,2,3,4,9,14] (.cond 14 .skip (.exit 0))) (.seq (.block 1 (boG [RM 17 2,RM 18 9,e0 19 5 17 18,f8 20 5 19,f7 10 [VZ,VZ,VZ,VZ,OZ],g0 5 true 10 20] [1,2,3,4,9,10] (.seq (boG [RF 21 0 10,RL 22 21,f6 23 y2 [22,(ki 0),(ki 2)],f4 24 23,RM 25 24,g9 26 1 10 25 false,hD 27 26 25 false,hG 28 1 25 false,g9 29 0 10 25 false,hD 30 29 25 false,j0 31 1 28 30 25 false,hD 32 31 25 false,hO 33 .sub 32 (ki 1) 25 false,GQ 34 (.call y2 [27,(ki 0),33]) 25 false,hP 35 34 25 false,f3 36 25 boE 35,RM 37 36,hG 38 9 37 false,hO 39 .gtr 38 (ki 0) 37 false,hG 40 39 37 false,hG 41 2 40 true,hG 42 9 40 true,hO 43 .sub 42 (ki 1) 40 true,j0 44 5 41 43 40 true,GQ 45 (.load 5 true 44) 40 true,GQ 46 (.load 5 true 10) 40 true,GQ 47 (.call aKL [45,46]) 40 true,hP 48 47 40 true,GQ 49 (.pick 40 48 boD) 37 false,f3 50 37 boE 49] [1,2,3,4,9,10,50] (.cond 50 (boG [dO 8 boD] [8] .ret) .skip)) (boG [RM 51 3,RM 52 51,g9 53 2 10 52 true,GQ 54 (.load 3 true 53) 52 true,GQ 55 (.call aIP [54]) 52 true,hP 56 55 52 true,hG 57 56 52 true,g9 58 2 10 57 false,g9 59 0 58 57 false,hD 60 59 57 false,g9 61 2 4 57 false,hD 62 61 57 false,g9 63 0 10 57 false,hD 64 63 57 false,j0 65 1 62 64 57 false,hD 66 65 57 false,g9 67 1 10 57 false,hD 68 67 57 false,j0 69 7 66 68 57 false,g9 70 0 69 57 false,hD 71 70 57 false,hO 72 .neq 60 71 57 false,GQ 73 (.pick 57 boE 72) 52 true,f3 74 52 73 boD,RM 75 74,hG 76 3 75 false,hP 77 76 75 false,hG 78 77 75 false,g9 79 2 10 78 true,g9 80 0 79 78 true,hD 81 80 78 true,hO 82 .neq 81 (ki 0) 78 true,hG 83 82 78 true,g9 84 2 10 83 false,g9 85 1 84 83 false,hD 86 85 83 false,hO 87 .neq 86 (ki 0) 83 false,GQ 88 (.pick 83 boE 87) 78 true,hG 89 88 78 true,g9 90 2 10 89 false,g9 91 2 90 89 false,hD 92 91 89 false,GQ 93 (.len false 92) 89 false,hO 94 .neq 93 (ki 0) 89 false,GQ 95 (.pick 89 boE 94) 78 true,GQ 96 (.pick 78 95 boD) 75 false,f3 97 75 boE 96] [1,2,3,4,9,97] (.cond 97 (boG [dO 8 boD] [8] .ret) .skip))))) (m2 [RM 15 9,dI 16 .add 15 (ki 1),RM 9 16] [1,2,3,4,9])))))) (boG [dO 8 boE] [8] .ret)))
def aJ1:List aW:=[.tm 8]
theorem aKV:aO Tryz.prog Tryz.f150 (bnD aI9)=some (aI9,aJ1):=by kernel_rfl
theorem aKZ:aN Tryz.prog aIQ Tryz.f150 aI9 aJ1:=aN.mk Tryz.func150 (by kernel_rfl) aKV
def aJD:AC:= (boG [f5 2 0,f5 3 1,dO 4 boD] [2,3] (.seq (boG [dO 5 (ki 0)] [2,3,5] (.block 0 (.loop (.seq (boG [RM 7 5,RF 8 5 3,RL 9 8,f1 10 9,dI 11 .lss 7 10] [2,3,5,11] (.cond 11 .skip (.exit 0))) (.seq (.block 1 (boG [RF 14 5 3,RL 15 14,RM 16 5,e0 17 5 15 16,f8 18 5 17,f7 6 [VZ,VZ,VZ,VZ,OZ],g0 5 true 6 18] [2,3,5,6] (boG [RF 19 0 6,RL 20 19,f6 21 y2 [20,(ki 0),(ki 2)],f4 22 21,RM 23 22,g9 24 1 6 23 false,hD 25 24 23 false,g9 26 2 3 23 false,hD 27 26 23 false,g9 28 0 6 23 false,hD 29 28 23 false,j0 30 1 27 29 23 false,hD 31 30 23 false,hO 32 .sub 31 (ki 1) 23 false,GQ 33 (.call y2 [25,(ki 0),32]) 23 false,hP 34 33 23 false,f3 35 23 boE 34,RM 36 35,g9 37 2 6 36 false,GQ 38 (.load 3 true 37) 36 false,GQ 39 (.call aIP [38]) 36 false,hP 40 39 36 false,f3 41 36 boE 40,RM 42 41,g9 43 2 6 42 false,g9 44 0 43 42 false,hD 45 44 42 false,g9 46 2 2 42 false,hD 47 46 42 false,g9 48 0 6 42 false,hD 49 48 42 false,j0 50 1 47 49 42 false,hD 51 50 42 false,g9 52 1 6 42 false,hD 53 52 42 false,j0 54 7 51 53 42 false,g9 55 0 54 42 false,hD 56 55 42 false,hO 57 .neq 45 56 42 false,f3 58 42 boE 57,RM 59 58,g9 60 5 3 59 false,hD 61 60 59 false,hG 62 5 59 false,GQ 63 (.slc 5 61 none (some 62) none) 59 false,g9 64 0 6 59 false,hD 65 64 59 false,g9 66 1 6 59 false,hD 67 66 59 false,GQ 68 (.call aIN [63,65,67]) 59 false,hO 69 .geq 68 (ki 0) 59 false,f3 70 59 boE 69] [2,3,5,70] (.cond 70 (boG [dO 4 boD] [4] .ret) .skip)))) (m2 [RM 12 5,dI 13 .add 12 (ki 1),RM 5 13] [2,3,5])))))) (boG [dO 4 boE] [4] .ret)))
def aJY:List aW:=[.tm 4]
theorem aK1:aO Tryz.prog Tryz.f151 (bnD aJD)=some (aJD,aJY):=by kernel_rfl
theorem aK7:aN Tryz.prog aIX Tryz.f151 aJD aJY:=aN.mk Tryz.func151 (by kernel_rfl) aK1
def AS:AC:= (boG [f5 2 0,f5 3 1,dO 4 boD] [2,3] (.seq (boG [RF 11 0 2,f8 12 2 11,RF 13 0 3,f8 14 2 13,f6 15 wK [12,14],f4 16 15,RM 17 16,g9 18 2 2 17 false,hD 19 18 17 false,GQ 20 (.len false 19) 17 false,g9 21 2 3 17 false,hD 22 21 17 false,GQ 23 (.len false 22) 17 false,hO 24 .neq 20 23 17 false,f3 25 17 boE 24,RM 26 25,g9 27 3 2 26 false,hD 28 27 26 false,GQ 29 (.len false 28) 26 false,g9 30 3 3 26 false,hD 31 30 26 false,GQ 32 (.len false 31) 26 false,hO 33 .neq 29 32 26 false,f3 34 26 boE 33,RM 35 34,g9 36 4 2 35 false,hD 37 36 35 false,g9 38 4 3 35 false,hD 39 38 35 false,GQ 40 (.call jN [37,39]) 35 false,hP 41 40 35 false,f3 42 35 boE 41] [2,3,42] (.cond 42 (boG [dO 4 boD] [4] .ret) .skip)) (.seq (boG [dO 5 (ki 0)] [2,3,5] (.block 0 (.loop (.seq (boG [RM 43 5,RF 44 2 2,RL 45 44,f1 46 45,dI 47 .lss 43 46] [2,3,5,47] (.cond 47 .skip (.exit 0))) (.seq (.block 1 (boG [RF 50 2 2,RL 51 50,RM 52 5,e0 53 4 51 52,f8 54 4 53,f7 6 [VZ,OZ,OZ,VZ],g0 4 true 6 54] [2,3,5,6] (boG [RF 55 2 3,RL 56 55,RM 57 5,e0 58 4 56 57,f8 59 4 58,f7 7 [VZ,OZ,OZ,VZ],g0 4 true 7 59] [2,3,5,6,7] (boG [RF 60 0 6,RL 61 60,RF 62 0 7,RL 63 62,dI 64 .neq 61 63,RM 65 64,g9 66 3 6 65 false,hD 67 66 65 false,g9 68 3 7 65 false,hD 69 68 65 false,hO 70 .neq 67 69 65 false,f3 71 65 boE 70,RM 72 71,g9 73 1 6 72 false,hD 74 73 72 false,g9 75 1 7 72 false,hD 76 75 72 false,GQ 77 (.call jM [74,76]) 72 false,hP 78 77 72 false,f3 79 72 boE 78,RM 80 79,g9 81 2 6 80 false,hD 82 81 80 false,g9 83 2 7 80 false,hD 84 83 80 false,GQ 85 (.call oJ [82,84]) 80 false,hP 86 85 80 false,f3 87 80 boE 86] [2,3,5,87] (.cond 87 (boG [dO 4 boD] [4] .ret) .skip))))) (m2 [RM 48 5,dI 49 .add 48 (ki 1),RM 5 49] [2,3,5])))))) (.seq (boG [dO 8 (ki 0)] [2,3,8] (.block 2 (.loop (.seq (boG [RM 88 8,RF 89 3 2,RL 90 89,f1 91 90,dI 92 .lss 88 91] [2,3,8,92] (.cond 92 .skip (.exit 2))) (.seq (.block 3 (boG [RF 95 3 2,RL 96 95,RM 97 8,e0 98 3 96 97,f8 99 3 98,f7 9 [OZ,OZ,VZ],g0 3 true 9 99] [2,3,8,9] (boG [RF 100 3 3,RL 101 100,RM 102 8,e0 103 3 101 102,f8 104 3 103,f7 10 [OZ,OZ,VZ],g0 3 true 10 104] [2,3,8,9,10] (boG [RF 105 2 9,RL 106 105,RF 107 2 10,RL 108 107,dI 109 .neq 106 108,RM 110 109,g9 111 0 9 110 false,hD 112 111 110 false,g9 113 0 10 110 false,hD 114 113 110 false,GQ 115 (.call oJ [112,114]) 110 false,hP 116 115 110 false,f3 117 110 boE 116,RM 118 117,g9 119 1 9 118 false,hD 120 119 118 false,g9 121 1 10 118 false,hD 122 121 118 false,GQ 123 (.call jN [120,122]) 118 false,hP 124 123 118 false,f3 125 118 boE 124] [2,3,8,125] (.cond 125 (boG [dO 4 boD] [4] .ret) .skip))))) (m2 [RM 93 8,dI 94 .add 93 (ki 1),RM 8 94] [2,3,8])))))) (boG [dO 4 boE] [4] .ret)))))
def I4:List aW:=[.tm 4]
theorem TS:aO Tryz.prog Tryz.f52 (bnD AS)=some (AS,I4):=by kernel_rfl
end Go.Proofs.YtmccpdapaccnoaaGreat
