/- Texts laid together by a program: rules, contracts and the walk that leads to the law. -/
import Derived.Test.YtmccpdapaccnoaaGreatPT8
set_option linter.unusedVariables false
set_option linter.unusedSimpArgs false
set_option linter.unusedSectionVars false
set_option maxRecDepth 100000
set_option maxHeartbeats 8000000
namespace Go.AM
theorem TW{l:List Job} (h:(l.map key).Nodup){a b:Job} (ha:a∈l) (hb:b∈l) (he:key a=key b):a=b:=by
 induction l with
 |nil=>simp at ha
 |cons x l ih=>
  rw[n3,bq8] at h
  rcases t3.1 ha with e1|h1
  ·rcases t3.1 hb with e2|h2
   ·rw[e1,e2]
   ·exact absurd (CF.2 ⟨b,h2,by rw[←he,e1]⟩) h.1
  ·rcases t3.1 hb with e2|h2
   ·exact absurd (CF.2 ⟨a,h1,by rw[he,e2]⟩) h.1
   ·exact ih h.2 h1 h2
variable{s:CSt}{who:Nat}{p:fR}
theorem bL{s':CSt} (h:s'.bM=s.bM.set who p) (hw:who<s.bM.length) (k:Nat):aF s' k=if k=who then p else aF s k:=by
 unfold aF;rw[h,pY hw]
variable{st:Nat}{v:nY}
theorem bO{s':CSt} (h:s'.dD=s.dD.set st v) (hw:st<s.dD.length) (k:Nat):aL s' k=if k=st then v else aL s k:=by
 unfold aL;rw[h,pY hw]
variable{c:Cfg}{m:Mic}
theorem af6 (hb:aQ c) (h:COk c s) (hg:EH c s m):cX (aR c s m)=runM c (cX s) (y0 s m):=by
 have hpl:=h.pl
 have hsl:=h.sl
 have hwhy:=XZ h hg
 cases m with
 |tick st=>
  obtain⟨h1,h2,h3⟩:=hg
  have hS:=fun k=>bO (s:=s) (s':=aR c s (.tick st)) rfl (by omega:st<s.dD.length) k
  have boS: ∀k,aF (aR c s (.tick st)) k=aF s k:=fun k=>rfl
  have hq: ∀k,hJ (aR c s (.tick st)) k=hJ s k:=fun k=>by
   unfold hJ
   rw[hS]
   split
   ·rename_i hk;subst hk
    rw[gT h2]
    simp[bI]
   ·rfl
  have hd: ∀k,(aL (aR c s (.tick st)) k).done=(aL s k).done:=fun k=>by
   rw[hS]
   split
   ·rename_i hk;subst hk;rfl
   ·rfl
  have hl:(aR c s (.tick st)).dD.length=s.dD.length:=by simp[aR]
  simp only[y0,runM,List.foldl_nil,cX,TSt.mk.injEq]
  refine⟨rfl,rfl,rfl,?_,?_,rfl⟩
  ·congr 1
   unfold qU
   rw[hl]
   simp only[List.flatMap_def]
   congr 2
   exact brC fun k _=>hq k
  ·congr 1
   unfold uQ
   rw[hl]
   simp only[List.flatMap_def]
   congr 1
   exact brC fun k _=>hd k
 |adm who st=>
  obtain⟨h0,h1,h2,h3⟩:=hg
  have hS:=fun k=>bO (s:=s) (s':=aR c s (.adm who st)) rfl (by omega:st<s.dD.length) k
  have boS:=fun k=>bL (s:=s) (s':=aR c s (.adm who st)) rfl (by omega:who<s.bM.length) k
  have hl:(aR c s (.adm who st)).dD.length=s.dD.length:=by simp[aR]
  have hl2:(aR c s (.adm who st)).bM.length=s.bM.length:=by simp[aR]
  have hd: ∀k,(aL (aR c s (.adm who st)) k).done=(aL s k).done:=fun k=>by
   rw[hS]
   split
   ·rename_i hk;subst hk;rfl
   ·rfl
  simp only[y0,runM,List.foldl_nil,cX,TSt.mk.injEq]
  refine⟨rfl,rfl,?_,?_,?_,rfl⟩
  ·apply br2 (by simp[aR])
   intro i hi1 hi2
   simp only[aR,bqW,Y5] at hi1
   simp only[aR,bsD,List.getElem_set]
   split
   ·rename_i hk;subst hk;simp[aF,List.getD,hi1]
   ·rfl
  ·apply GN h.st.NR
   refine List.Perm.trans ?_ (fH _).symm
   rw[brV]
   intro z
   have e1:=tE (k:=who) (n:=s.bM.length) (by omega) (f:=jJ (aR c s (.adm who st))) (g:=jJ s) (fun i hi=>by unfold jJ;rw[boS,if_neg hi]) z
   have e2:=tE (k:=st) (n:=s.dD.length) (by omega) (f:=hJ (aR c s (.adm who st))) (g:=hJ s) (fun i hi=>by unfold hJ;rw[hS,if_neg hi]) z
   have e3:jJ (aR c s (.adm who st)) who=((aF s who).queue.drop 1).map fun n=>⟨who,n,oW⟩:=by unfold jJ;rw[boS,if_pos rfl]
   have e4:jJ s who=⟨who,(aF s who).queue.getD 0 default,oW⟩::((aF s who).queue.drop 1).map fun n=>⟨who,n,oW⟩:=by
    unfold jJ
    conv=>lhs;rw[gT h3.1]
    rfl
   have e5:hJ (aR c s (.adm who st)) st=hJ s st++[⟨who,(aF s who).queue.getD 0 default,oW⟩]:=by unfold hJ;rw[hS,if_pos rfl];simp
   rw[e3,e4] at e1
   rw[e5] at e2
   unfold qU
   rw[hl,hl2]
   simp only[brS,brW,List.count_nil] at*
   omega
  ·congr 1
   unfold uQ
   rw[hl]
   simp only[List.flatMap_def]
   congr 1
   exact brC fun k _=>hd k
 |ask who=>
  obtain⟨h0,h1,h2⟩:=hg
  have boS:=fun k=>bL (s:=s) (s':=aR c s (.ask who)) rfl (by omega:who<s.bM.length) k
  have hl2:(aR c s (.ask who)).bM.length=s.bM.length:=by simp[aR]
  have hso:=G9 hb h.st (hwhy ⟨1,who,(aF s who).next⟩ (CJ.2 rfl))
  have boU:lS c (cX s) ⟨1,who,(aF s who).next⟩= {cX s with asked:=(cX s).asked.set who ((aF s who).next+1),wait:=BM (cX s).wait ⟨who,(aF s who).next,oW⟩}:=by simp[lS]
  have hso1:=hso.NR
  rw[boU] at hso1
  simp only[y0]
  rw[wW,boU]
  simp only[runM,List.foldl_nil,cX,TSt.mk.injEq]
  refine⟨rfl,rfl,?_,?_,rfl,rfl⟩
  ·simp[aR,brD]
  ·apply GN hso1
   refine List.Perm.trans ?_ ((nE _ _).trans ((fH _).cons _)).symm
   rw[brV]
   intro z
   have e1:=tE (k:=who) (n:=s.bM.length) (by omega) (f:=jJ (aR c s (.ask who))) (g:=jJ s) (fun i hi=>by unfold jJ;rw[boS,if_neg hi]) z
   have e3:jJ (aR c s (.ask who)) who=jJ s who++[⟨who,(aF s who).next,oW⟩]:=by unfold jJ;rw[boS,if_pos rfl];simp
   have e6:(List.range (aR c s (.ask who)).dD.length).flatMap (hJ (aR c s (.ask who)))=(List.range s.dD.length).flatMap (hJ s):=rfl
   rw[e3] at e1
   unfold qU
   rw[hl2,e6]
   simp only[brS,brW,List.count_nil] at*
   omega
 |work st=>
  obtain⟨h1,h2,h3,h4⟩:=hg
  have hS:=fun k=>bO (s:=s) (s':=aR c s (.work st)) rfl (by omega:st<s.dD.length) k
  have hl:(aR c s (.work st)).dD.length=s.dD.length:=by simp[aR]
  have hw:=hwhy ⟨2,(bI s st).who,(bI s st).n⟩ (CJ.2 rfl)
  have hso:=G9 hb h.st hw
  have hz:=(M8 hw).2
  have hin: ¬bK (iM (bI s st).who (bI s st).n) (cX s).wait<0:=by
   rcases hz with⟨hk,_⟩|⟨hk,hi⟩|⟨hk,_⟩
   ·exact absurd hk (by dsimp only;decide)
   ·exact hi
   ·exact absurd hk (by dsimp only;decide)
  obtain⟨hi1,hi2⟩:=pW hin
  have boU:lS c (cX s) ⟨2,(bI s st).who,(bI s st).n⟩= {cX s with words:=(jD c s st).1.1,holds:=(jD c s st).1.2,wait:=MT (cX s).wait (bK (iM (bI s st).who (bI s st).n) (cX s).wait).toNat,done:=BM (cX s).done ⟨(bI s st).who,(bI s st).n,(jD c s st).2⟩}:=by
   simp only[lS,jD,cX,if_true,if_false,Int.reduceEq]
  have hso1:=hso.NR
  have hso2:=hso.NW
  rw[boU] at hso1 hso2
  simp only[y0]
  rw[wW,boU]
  simp only[runM,List.foldl_nil]
  have hjob:(cX s).wait.getD (bK (iM (bI s st).who (bI s st).n) (cX s).wait).toNat default=⟨(bI s st).who,(bI s st).n,oW⟩:=by
   have hm:=cC hi1
   have hr:=h.st.P4 _ hm
   generalize (cX s).wait.getD (bK (iM (bI s st).who (bI s st).n) (cX s).wait).toNat default=x at hi2 hr
   obtain⟨x1,bpZ,aYM⟩:=x
   simp only[key,Prod.mk.injEq] at hi2
   dsimp only at hr
   rw[hi2.1,hi2.2,hr]
  have hperm:=A4 hi1
  rw[hjob] at hperm
  have aYL:jX (qU (aR c s (.work st)))=MT (cX s).wait (bK (iM (bI s st).who (bI s st).n) (cX s).wait).toNat:=by
   apply GN hso1
   refine List.Perm.cons_inv (a:=⟨(bI s st).who,(bI s st).n,oW⟩) ?_
   refine List.Perm.trans ?_ ((fH _).symm.trans hperm)
   rw[brV]
   intro z
   have e2:=tE (k:=st) (n:=s.dD.length) (by omega) (f:=hJ (aR c s (.work st))) (g:=hJ s) (fun i hi=>by unfold hJ;rw[hS,if_neg hi]) z
   have e5:hJ s st=⟨(bI s st).who,(bI s st).n,oW⟩::hJ (aR c s (.work st)) st:=by
    unfold hJ;rw[hS,if_pos rfl]
    conv=>lhs;rw[gT h2]
    rfl
   have e6:(List.range (aR c s (.work st)).bM.length).flatMap (jJ (aR c s (.work st)))=(List.range s.bM.length).flatMap (jJ s):=rfl
   rw[e5] at e2
   unfold qU
   rw[hl,e6]
   simp only[brS,brW,List.count_nil] at*
   omega
  have bqA:jX (uQ (aR c s (.work st)))=BM (cX s).done ⟨(bI s st).who,(bI s st).n,(jD c s st).2⟩:=by
   apply GN hso2
   refine List.Perm.trans ?_ ((nE _ _).trans ((fH _).cons _)).symm
   rw[brV]
   intro z
   have e2:=tE (k:=st) (n:=s.dD.length) (by omega) (f:=fun k=>(aL (aR c s (.work st)) k).done) (g:=fun k=>(aL s k).done) (fun i hi=>by rw[hS,if_neg hi]) z
   have e5:(aL (aR c s (.work st)) st).done=(aL s st).done++[⟨(bI s st).who,(bI s st).n,(jD c s st).2⟩]:=by rw[hS,if_pos rfl]
   rw[e5] at e2
   unfold uQ
   rw[hl]
   simp only[brS,brW,List.count_nil] at*
   omega
  show TSt.mk _ _ _ (jX (qU (aR c s (.work st)))) (jX (uQ (aR c s (.work st)))) _=_
  rw[aYL,bqA]
  rfl
 |tell who st=>
  obtain⟨h0,h1,h2,h3⟩:=hg
  have h3':(iF s st).who=who:=h3
  have hS:=fun k=>bO (s:=s) (s':=aR c s (.tell who st)) rfl (by omega:st<s.dD.length) k
  have boS:=fun k=>bL (s:=s) (s':=aR c s (.tell who st)) rfl (by omega:who<s.bM.length) k
  have hl:(aR c s (.tell who st)).dD.length=s.dD.length:=by simp[aR]
  have hl2:(aR c s (.tell who st)).bM.length=s.bM.length:=by simp[aR]
  have hw:=hwhy ⟨3,who,(iF s st).n⟩ (CJ.2 rfl)
  have hso:=G9 hb h.st hw
  have hz:=(M8 hw).2
  have hin: ¬bK (iM who (iF s st).n) (cX s).done<0:=by
   rcases hz with⟨hk,_⟩|⟨hk,hi⟩|⟨hk,hi⟩
   ·exact absurd hk (by dsimp only;decide)
   ·exact absurd hk (by dsimp only;decide)
   ·exact hi
  obtain⟨hi1,hi2⟩:=pW hin
  have boU:lS c (cX s) ⟨3,who,(iF s st).n⟩= {cX s with told:=(cX s).told++[(cX s).done.getD (bK (iM who (iF s st).n) (cX s).done).toNat default],done:=MT (cX s).done (bK (iM who (iF s st).n) (cX s).done).toNat}:=by
   simp only[lS,if_false,Int.reduceEq]
  have hso2:=hso.NW
  rw[boU] at hso2
  simp only[y0]
  rw[wW,boU]
  simp only[runM,List.foldl_nil]
  have hjob:(cX s).done.getD (bK (iM who (iF s st).n) (cX s).done).toNat default=iF s st:=by
   refine TW (zG h.st.NW) (cC hi1) (BF.2 (BU.2 ⟨st,by omega,cC h2⟩)) ?_
   rw[hi2];simp[key,h3']
  have hperm:=A4 hi1
  rw[hjob] at hperm
  have aYL:jX (qU (aR c s (.tell who st)))=(cX s).wait:=by
   show jX _=jX _
   congr 1
   unfold qU
   rw[hl,hl2]
   simp only[List.flatMap_def]
   congr 2
   ·exact brC fun k _=>by
     unfold jJ;rw[boS];split
     ·rename_i hk;subst hk;rfl
     ·rfl
   ·exact brC fun k _=>by
     unfold hJ;rw[hS];split
     ·rename_i hk;subst hk;rfl
     ·rfl
  have bqA:jX (uQ (aR c s (.tell who st)))=MT (cX s).done (bK (iM who (iF s st).n) (cX s).done).toNat:=by
   apply GN hso2
   apply List.Perm.cons_inv (a:=iF s st)
   refine List.Perm.trans ?_ ((fH _).symm.trans hperm)
   rw[brV]
   intro z
   have e2:=tE (k:=st) (n:=s.dD.length) (by omega) (f:=fun k=>(aL (aR c s (.tell who st)) k).done) (g:=fun k=>(aL s k).done) (fun i hi=>by rw[hS,if_neg hi]) z
   have e5:(aL s st).done=iF s st::(aL (aR c s (.tell who st)) st).done:=by
    rw[hS,if_pos rfl]
    exact gT h2
   rw[e5] at e2
   unfold uQ
   rw[hl]
   simp only[brS,brW,List.count_nil] at*
   omega
  have hA:(aR c s (.tell who st)).bM.map (·.next)=s.bM.map (·.next):=by
   apply br2 (by simp[aR])
   intro i hi1 hi2
   simp only[aR,bqW,Y5] at hi1
   simp only[aR,bsD,List.getElem_set]
   split
   ·rename_i hk;subst hk;simp[aF,List.getD,hi1]
   ·rfl
  show TSt.mk _ _ ((aR c s (.tell who st)).bM.map (·.next)) (jX (qU (aR c s (.tell who st)))) (jX (uQ (aR c s (.tell who st)))) (s.told++[iF s st])=_
  rw[aYL,bqA,hA,hjob]
  rfl
variable{k:Nat}
theorem WU{α:Type} [Inhabited α]{l:List α} (h:k<l.length):l.Perm (l.getD k default::B3 l k):=by
 have e:l=l.take k++l.getD k default::l.drop (k+1):=by
  have:l.getD k default=l[k]:=by simp[List.getD,h]
  rw[this,←brB h,boN]
 conv=>lhs;rw[e]
 exact brR
theorem akU{α:Type}{l:List α}:(B3 l k).Sublist l:=by
 unfold B3
 have h:=(List.Sublist.refl (l.take k)).append (bsK l (Nat.le_succ k))
 rwa [boN] at h
theorem RP{α:Type} [Inhabited α]{l:List α} (h:k<l.length):(B3 l k).length+1=l.length:=by
 have:=(WU h).length_eq
 simp at this;omega
theorem ajV{α:Type} [Inhabited α]{p:α→Bool}{l:List α} (h:0≤bK p l):(bK p l).toNat<l.length∧p (l.getD (bK p l).toNat default)=true:=by
 have h1:=PQ (p:=p) (l:=l)
 refine⟨by omega,?_⟩
 unfold bK at*
 split at h
 ·rename_i i hi
  have:=Z4.1 hi
  obtain⟨q1,q2,_⟩:=this
  simpa [List.getD,q1] using q2
 ·omega
variable{l:List fC}
theorem PJ{n:Int} (h: ∃j∈l,j.n=n):(bK (isC n) l).toNat<l.length∧(l.getD (bK (isC n) l).toNat default).n=n:=by
 obtain⟨j,hj,hn⟩:=h
 have h1:0≤bK (isC n) l:=cH.2 ⟨j,hj,by simp[isC,hn]⟩
 obtain⟨q1,q2⟩:=ajV h1
 exact⟨q1,by simpa [isC] using q2⟩
theorem aj2{n:Int} (h: ∃j∈l,j.n=n):(PE l n).length+1=l.length:=RP (PJ h).1
theorem amU{n:Int} (h: ∃j∈l,j.n=n){x:fC} (hx:x∈l) (hn:x.n≠n):x∈PE l n:=by
 obtain⟨h1,h2⟩:=PJ h
 have:=(WU h1).mem_iff.1 hx
 rcases t3.1 this with rfl|hm
 ·exact absurd h2 hn
 ·exact hm
theorem TA{n:Int}:(PE l n).Sublist l:=akU
theorem QF{α:Type} [Inhabited α]{l:List α}{i:Nat}:(l.drop 1).getD i default=l.getD (i+1) default:=by
 cases l with
 |nil=>simp
 |cons x l=>simp
theorem WI{α:Type} [Inhabited α]{l:List α}{x:α}{i:Nat}:(l++[x]).getD i default=if i=l.length then x else l.getD i default:=by
 simp only[List.getD,o5]
 split
 ·rw[if_neg (by omega)]
 ·split
  ·rename_i h;subst h;simp
  ·rename_i h1 h2
   rw[Z3 (by simp;omega),Z3 (by omega)]
theorem ZO (h:l.Pairwise fun a b=>a.n<b.n){a b:fC} (ha:a∈l) (hb:b∈l) (he:a.n=b.n):a=b:=by
 induction l with
 |nil=>simp at ha
 |cons x l ih=>
  rw[G0] at h
  rcases t3.1 ha with e1|h1
  ·rcases t3.1 hb with e2|h2
   ·rw[e1,e2]
   ·have:=h.1 b h2;rw[e1] at he;omega
  ·rcases t3.1 hb with e2|h2
   ·have:=h.1 a h1;rw[e2] at he;omega
   ·exact ih h.2 h1 h2
theorem S0 (hb:aQ c) (h:st<4):0≤c.lat.getD st default∧c.lat.getD st default≤3:=aj1 hb.2.2.1 (by have:=hb.2.1;omega)
theorem COk.af8 (h:COk c s) (hs:st<4) (hd:0<(aL s st).done.length): ∃j∈(aF s (iF s st).who.toNat).out,j.n=(iF s st).n∧j.left=st:=
 ((h.slv st hs).out _ (M9 (cC hd))).2
theorem Z0.wT{s':CSt} (h:Z0 c s st) (he:aL s' st=aL s st) (ho: ∀x∈cS (aL s st),∀j∈(aF s x.1.toNat).out,j.n=x.2→j.left=st→j∈(aF s' x.1.toNat).out):Z0 c s' st:=by
 refine⟨by rw[he];exact h.pl,by rw[he];exact h.dl,by rw[he];exact h.last,by rw[he];exact h.inc,fun x hx=> ?_,by rw[he];exact h.rsp,by rw[he];exact h.left⟩
 rw[he] at hx
 obtain⟨q1,j,q2,q3,q4⟩:=h.out x hx
 exact⟨q1,j,ho x hx j q2 q3 q4,q3,q4⟩
theorem mD.tell (h:mD c who p){n:Int} (hs:st<4):mD c who {p with out:=PE p.out n,last:=st}:=by
 have hm: ∀j∈PE p.out n,j∈p.out:=fun j hj=>TA.subset hj
 exact⟨h.next,h.ql,CQ TA.length_le h.ol,by dsimp only;omega,h.queue,fun j hj=>h.out j (hm j hj),h.acX.sublist TA,fun a ha b hb=>h.akF a (hm a ha) b (hm b hb)⟩
theorem mD.adm (h:mD c who p) (h1:0<p.queue.length) (h2:p.out.length<4) (h3:gZ c.map (bT c who (p.queue.getD 0 default))=st)
 (h4: ∀j∈p.out,(bT c who j.n).id=(bT c who (p.queue.getD 0 default)).id→j.left=st):mD c who {p with queue:=p.queue.drop 1,out:=p.out++[⟨who,p.queue.getD 0 default,st⟩]}:=by
 have hq0:=h.queue 0 h1
 have hn:=h.next
 have hql:=h.ql
 have hl:(p.queue.drop 1).length=p.queue.length-1:=by simp
 refine⟨hn,by dsimp only;omega,by simp;omega,h.last,fun i hi=> ?_,fun j hj=> ?_,?_,fun a ha b hb hab=> ?_⟩
 ·dsimp only at hi ⊢
  rw[QF,h.queue (i+1) (by omega)];omega
 ·dsimp only at hj ⊢
  rcases o3.1 hj with hj|hj
  ·have:=h.out j hj
   exact⟨this.1,by omega,this.2.2⟩
  ·simp only[CJ] at hj
   subst hj
   exact⟨rfl,by dsimp only;omega,h3.symm⟩
 ·dsimp only
  rw[brM]
  refine⟨h.acX,by simp,fun a ha b hb=> ?_⟩
  simp only[CJ] at hb
  subst hb
  have:=(h.out a ha).2.1
  dsimp only;omega
 ·dsimp only at ha hb
  rcases o3.1 ha with ha|ha<;>rcases o3.1 hb with hb|hb
  ·exact h.akF a ha b hb hab
  ·simp only[CJ] at hb;subst hb;exact h4 a ha hab
  ·simp only[CJ] at ha;subst ha;exact(h4 b hb hab.symm).symm
  ·simp only[CJ] at ha hb;subst ha;subst hb;rfl
theorem mD.ask (h:mD c who p) (h1:p.queue.length<2) (h2:p.next<(c.cP.getD who default).length):mD c who {p with queue:=p.queue++[p.next],next:=p.next+1}:=by
 have hn:=h.next
 have hql:=h.ql
 refine⟨by dsimp only;omega,by simp;omega,h.ol,h.last,fun i hi=> ?_,fun j hj=> ?_,h.acX,h.akF⟩
 ·simp only[t2,List.length_singleton] at hi ⊢
  rw[WI]
  split
  ·omega
  ·rw[h.queue i (by omega)];omega
 ·have:=h.out j hj
  refine⟨this.1,?_,this.2.2⟩
  simp only[t2,List.length_singleton];omega
theorem ajG (hb:aQ c) (h:COk c s) (hg:EH c s m):BA c (cX (aR c s m)):=by
 rw[af6 hb h hg]
 have hw:=XZ h hg
 cases m with
 |tick st=>exact h.st
 |adm who st=>exact h.st
 |tell who st=>exact G9 hb h.st (hw ⟨3,who,(iF s st).n⟩ (CJ.2 rfl))
 |work st=>exact G9 hb h.st (hw ⟨2,(bI s st).who,(bI s st).n⟩ (CJ.2 rfl))
 |ask who=>exact G9 hb h.st (hw ⟨1,who,(aF s who).next⟩ (CJ.2 rfl))
theorem aa4:(aR c s m).bM.length=s.bM.length∧(aR c s m).dD.length=s.dD.length:=by
 cases m<;>simp[aR]
theorem am9 (h:COk c s) (hg:EH c s m): ∀k,k<3→mD c k (aF (aR c s m) k):=by
 have hpl:=h.pl
 intro k hk
 have hp:=h.port k hk
 cases m with
 |tick st=>exact hp
 |work st=>exact hp
 |tell who st=>
  obtain⟨h0,h1,h2,h3⟩:=hg
  rw[bL (s:=s) (s':=aR c s (.tell who st)) rfl (by omega)]
  split
  ·rename_i e;subst e;exact hp.tell h1
  ·exact hp
 |adm who st=>
  obtain⟨h0,h1,h2,h3,h4,h5,h6⟩:=hg
  rw[bL (s:=s) (s':=aR c s (.adm who st)) rfl (by omega)]
  split
  ·rename_i e;subst e;exact hp.adm h3 h4 h5 h6
  ·exact hp
 |ask who=>
  obtain⟨h0,h1,h2⟩:=hg
  rw[bL (s:=s) (s':=aR c s (.ask who)) rfl (by omega)]
  split
  ·rename_i e;subst e;exact hp.ask h1 h2
  ·exact hp
theorem an6 (hb:aQ c) (h:COk c s) (hg:EH c s m): ∀k,k<4→Z0 c (aR c s m) k:=by
 have hpl:=h.pl
 have hsl:=h.sl
 intro k hk
 have hv:=h.slv k hk
 cases m with
 |ask who=>
  obtain⟨h0,h1,h2⟩:=hg
  refine hv.wT rfl fun x hx j hj _ _=> ?_
  rw[bL (s:=s) (s':=aR c s (.ask who)) rfl (by omega)]
  split
  ·rename_i e;rw[e] at hj;exact hj
  ·exact hj
 |tick st=>
  obtain⟨h1,h2,h3⟩:=hg
  have hS:=bO (s:=s) (s':=aR c s (.tick st)) rfl (by omega:st<s.dD.length) k
  by_cases e:k=st
  ·subst e
   rw[if_pos rfl] at hS
   have hl0:=hv.left 0 h2
   have hk2:cS (aL (aR c s (.tick k)) k)=cS (aL s k):=by
    rw[hS];unfold cS;dsimp only
    congr 1
    conv=>rhs;rw[gT h2]
    conv=>lhs;rw[gT h2]
    rfl
   refine⟨by rw[hS];simpa using hv.pl,by rw[hS];exact hv.dl,by rw[hS];exact hv.last,by rw[hk2];exact hv.inc,fun x hx=> ?_,by rw[hS];exact hv.rsp,?_⟩
   ·rw[hk2] at hx;exact hv.out x hx
   ·rw[hS]
    simp only[Y5]
    intro i hi
    rw[pY h2]
    split
    ·rename_i e;subst e
     dsimp only
     unfold bI
     exact⟨by omega,fun hc=>absurd hc (by omega)⟩
    ·exact hv.left i hi
  ·rw[if_neg e] at hS
   exact hv.wT hS fun x hx j hj _ _=>hj
 |work st=>
  obtain⟨h1,h2,h3,h4⟩:=hg
  have hS:=bO (s:=s) (s':=aR c s (.work st)) rfl (by omega:st<s.dD.length) k
  by_cases e:k=st
  ·subst e
   rw[if_pos rfl] at hS
   have hk2:cS (aL (aR c s (.work k)) k)=cS (aL s k):=by
    rw[hS];unfold cS;dsimp only
    conv=>rhs;rw[gT h2]
    simp[key,bI]
   have hm:((bI s k).who,(bI s k).n)∈cS (aL s k):=JB (cC h2)
   obtain⟨q1,q2,q3⟩:=h.vIn h1 hm
   dsimp only at q1 q2 q3
   refine⟨by rw[hS];have:=hv.pl;simp;omega,by rw[hS];simp;omega,by rw[hS];exact hv.last,by rw[hk2];exact hv.inc,fun x hx=> ?_,?_,?_⟩
   ·rw[hk2] at hx;exact hv.out x hx
   ·rw[hS]
    intro j hj
    rcases o3.1 hj with hj|hj
    ·exact hv.rsp j hj
    ·simp only[CJ] at hj
     subst hj
     have hp:=h.port (bI s k).who.toNat (by omega)
     have hask:oA c (bI s k).who (bI s k).n:=by
      have:=hp.asks (n:=(bI s k).n) (by omega) q2 (by have:=hp.ql;omega)
      have e1:(((bI s k).who.toNat:Nat):Int)=(bI s k).who:=by omega
      rwa [e1] at this
     exact afD h.atm.wr (GK hb hask)
   ·rw[hS]
    simp only[CI]
    intro i hi
    rw[QF]
    have:=hv.left (i+1) (by omega)
    rw[this.2 (by omega)]
    have:=S0 hb h1
    exact⟨by omega,fun _=>rfl⟩
  ·rw[if_neg e] at hS
   exact hv.wT hS fun x hx j hj _ _=>hj
 |adm who st=>
  obtain⟨h0,h1,h2,h3,h4,h5,h6⟩:=hg
  have hS:=bO (s:=s) (s':=aR c s (.adm who st)) rfl (by omega:st<s.dD.length) k
  have boS:=fun w=>bL (s:=s) (s':=aR c s (.adm who st)) rfl (by omega:who<s.bM.length) w
  have hsub: ∀w,∀j∈(aF s w).out,j∈(aF (aR c s (.adm who st)) w).out:=fun w j hj=>by
   rw[boS]
   split
   ·rename_i e;subst e;exact brA _ hj
   ·exact hj
  by_cases e:k=st
  ·subst e
   rw[if_pos rfl] at hS
   have hk2:cS (aL (aR c s (.adm who k)) k)=cS (aL s k)++[((who:Int),(aF s who).queue.getD 0 default)]:=by
    rw[hS];unfold cS;simp
   have hq0:=(h.port who h0).queue 0 h3
   refine⟨by rw[hS];simp;omega,by rw[hS];exact hv.dl,by rw[hS];dsimp only;omega,?_,fun x hx=> ?_,by rw[hS];exact hv.rsp,?_⟩
   ·rw[hk2,brM]
    refine⟨hv.inc,by simp,fun a ha b hb' hab=> ?_⟩
    simp only[CJ] at hb'
    subst hb'
    dsimp only at hab ⊢
    have:=(h.vIn h1 ha).2.2
    have e:a.1.toNat=who:=by omega
    rw[e] at this
    omega
   ·rw[hk2] at hx
    rcases o3.1 hx with hx|hx
    ·obtain⟨q1,j,q2,q3⟩:=hv.out x hx
     exact⟨q1,j,hsub _ j q2,q3⟩
    ·simp only[CJ] at hx
     subst hx
     refine⟨by dsimp only;omega,⟨who,(aF s who).queue.getD 0 default,k⟩,?_,rfl,rfl⟩
     rw[boS,if_pos (by simp)]
     simp
   ·rw[hS]
    simp only[t2,List.length_singleton]
    intro i hi
    rw[WI]
    have:=S0 hb h1
    split
    ·exact⟨by dsimp only;omega,fun _=>rfl⟩
    ·exact hv.left i (by omega)
  ·rw[if_neg e] at hS
   exact hv.wT hS fun x hx j hj _ _=>hsub _ j hj
 |tell who st=>
  obtain⟨h0,h1,h2,h3⟩:=hg
  have h3':(iF s st).who=who:=h3
  have hS:=bO (s:=s) (s':=aR c s (.tell who st)) rfl (by omega:st<s.dD.length) k
  have boS:=fun w=>bL (s:=s) (s':=aR c s (.tell who st)) rfl (by omega:who<s.bM.length) w
  obtain⟨jh,g1,g2,g3⟩:=h.af8 h1 h2
  have ew:(iF s st).who.toNat=who:=by omega
  rw[ew] at g1
  have hex: ∃j∈(aF s who).out,j.n=(iF s st).n:=⟨jh,g1,g2⟩
  have hsub: ∀w,∀j∈(aF s w).out,(w=who→j.n≠(iF s st).n)→j∈(aF (aR c s (.tell who st)) w).out:=fun w j hj hne=>by
   rw[boS]
   split
   ·rename_i e;subst e;exact amU hex hj (hne rfl)
   ·exact hj
  have hcons:cS (aL s st)=key (iF s st)::(((aL s st).done.drop 1).map key++(aL s st).pipe.map fun j=>(j.who,j.n)):=by
   unfold cS
   conv=>lhs;rw[gT h2]
   rfl
  by_cases e:k=st
  ·subst e
   rw[if_pos rfl] at hS
   have hk2:cS (aL (aR c s (.tell who k)) k)=((aL s k).done.drop 1).map key++(aL s k).pipe.map fun j=>(j.who,j.n):=by
    rw[hS];rfl
   have hinc:=hv.inc
   rw[hcons,G0] at hinc
   refine⟨by rw[hS];exact hv.pl,by rw[hS];have:=hv.dl;simp;omega,by rw[hS];exact hv.last,by rw[hk2];exact hinc.2,fun x hx=> ?_,?_,by rw[hS];exact hv.left⟩
   ·rw[hk2] at hx
    obtain⟨q1,j,q2,q3,q4⟩:=hv.out x (by rw[hcons];exact bq9 _ hx)
    refine⟨q1,j,hsub _ j q2 fun he hn=> ?_,q3,q4⟩
    have:=hinc.1 x hx (by simp only[key];omega)
    simp only[key] at this
    omega
   ·rw[hS]
    exact fun j hj=>hv.rsp j (bsE hj)
  ·rw[if_neg e] at hS
   refine hv.wT hS fun x hx j hj hn hl=>hsub _ j hj fun he hne=> ?_
   subst he
   have hp:=h.port x.1.toNat h0
   have hu:jh=j:=by
    exact ZO hp.acX g1 hj (by omega)
   subst hu
   omega
theorem abB{f g:Nat→Nat} (h:who<3) (hfg: ∀i,i≠who→f i=g i):f 0+f 1+f 2+g who=g 0+g 1+g 2+f who:=by
 have:who=0∨who=1∨who=2:=by omega
 rcases this with rfl|rfl|rfl
 ·have:=hfg 1 (by omega);have:=hfg 2 (by omega);omega
 ·have:=hfg 0 (by omega);have:=hfg 2 (by omega);omega
 ·have:=hfg 0 (by omega);have:=hfg 1 (by omega);omega
theorem aaC{f g:Nat→Nat} (h:st<4) (hfg: ∀i,i≠st→f i=g i):f 0+f 1+f 2+f 3+g st=g 0+g 1+g 2+g 3+f st:=by
 have:st=0∨st=1∨st=2∨st=3:=by omega
 rcases this with rfl|rfl|rfl|rfl
 ·have:=hfg 1 (by omega);have:=hfg 2 (by omega);have:=hfg 3 (by omega);omega
 ·have:=hfg 0 (by omega);have:=hfg 2 (by omega);have:=hfg 3 (by omega);omega
 ·have:=hfg 0 (by omega);have:=hfg 1 (by omega);have:=hfg 3 (by omega);omega
 ·have:=hfg 0 (by omega);have:=hfg 1 (by omega);have:=hfg 2 (by omega);omega
theorem ahN (h:COk c s) (hg:EH c s m):(aF (aR c s m) 0).out.length+(aF (aR c s m) 1).out.length+(aF (aR c s m) 2).out.length=hU (aR c s m) 0+hU (aR c s m) 1+hU (aR c s m) 2+hU (aR c s m) 3:=by
 have hpl:=h.pl
 have hsl:=h.sl
 have hc:=h.count
 cases m with
 |ask who=>
  obtain⟨h0,h1,h2⟩:=hg
  have boS:=fun w=>bL (s:=s) (s':=aR c s (.ask who)) rfl (by omega:who<s.bM.length) w
  have: ∀w,(aF (aR c s (.ask who)) w).out=(aF s w).out:=fun w=>by
   rw[boS];split
   ·rename_i e;subst e;rfl
   ·rfl
  rw[this,this,this];exact hc
 |tick st=>
  obtain⟨h1,h2,h3⟩:=hg
  have hS:=fun k=>bO (s:=s) (s':=aR c s (.tick st)) rfl (by omega:st<s.dD.length) k
  have: ∀k,hU (aR c s (.tick st)) k=hU s k:=fun k=>by
   unfold hU;rw[hS];split
   ·rename_i e;subst e;simp
   ·rfl
  rw[this,this,this,this];exact hc
 |work st=>
  obtain⟨h1,h2,h3,h4⟩:=hg
  have hS:=fun k=>bO (s:=s) (s':=aR c s (.work st)) rfl (by omega:st<s.dD.length) k
  have: ∀k,hU (aR c s (.work st)) k=hU s k:=fun k=>by
   unfold hU;rw[hS];split
   ·rename_i e;subst e;simp;omega
   ·rfl
  rw[this,this,this,this];exact hc
 |adm who st=>
  obtain⟨h0,h1,h2,h3⟩:=hg
  have hS:=fun k=>bO (s:=s) (s':=aR c s (.adm who st)) rfl (by omega:st<s.dD.length) k
  have boS:=fun w=>bL (s:=s) (s':=aR c s (.adm who st)) rfl (by omega:who<s.bM.length) w
  have e1:=abB (f:=fun w=>(aF (aR c s (.adm who st)) w).out.length) (g:=fun w=>(aF s w).out.length) h0 fun i hi=>by rw[boS,if_neg hi]
  have e2:=aaC (f:=hU (aR c s (.adm who st))) (g:=hU s) h1 fun i hi=>by unfold hU;rw[hS,if_neg hi]
  have e3:(aF (aR c s (.adm who st)) who).out.length=(aF s who).out.length+1:=by rw[boS,if_pos rfl];simp
  have e4:hU (aR c s (.adm who st)) st=hU s st+1:=by unfold hU;rw[hS,if_pos rfl];simp;omega
  omega
 |tell who st=>
  obtain⟨h0,h1,h2,h3⟩:=hg
  have h3':(iF s st).who=who:=h3
  have hS:=fun k=>bO (s:=s) (s':=aR c s (.tell who st)) rfl (by omega:st<s.dD.length) k
  have boS:=fun w=>bL (s:=s) (s':=aR c s (.tell who st)) rfl (by omega:who<s.bM.length) w
  obtain⟨jh,g1,g2,g3⟩:=h.af8 h1 h2
  have ew:(iF s st).who.toNat=who:=by omega
  rw[ew] at g1
  have e1:=abB (f:=fun w=>(aF (aR c s (.tell who st)) w).out.length) (g:=fun w=>(aF s w).out.length) h0 fun i hi=>by rw[boS,if_neg hi]
  have e2:=aaC (f:=hU (aR c s (.tell who st))) (g:=hU s) h1 fun i hi=>by unfold hU;rw[hS,if_neg hi]
  have e3:(aF (aR c s (.tell who st)) who).out.length+1=(aF s who).out.length:=by rw[boS,if_pos rfl];exact aj2 ⟨jh,g1,g2⟩
  have e4:hU (aR c s (.tell who st)) st+1=hU s st:=by unfold hU;rw[hS,if_pos rfl];simp;omega
  omega
theorem o9 (hb:aQ c) (h:COk c s) (hg:EH c s m):COk c (aR c s m):=
 ⟨(ajG hb h hg).atm,by rw[aa4.1];exact h.pl,by rw[aa4.2];exact h.sl,am9 h hg,an6 hb h hg,ahN h hg,ajG hb h hg⟩
def wY (c:Cfg):CSt→List Mic→Prop
 |_,[]=>True
 |s,m::l=>EH c s m∧wY c (aR c s m) l
def dR (c:Cfg) (s:CSt) (l:List Mic):CSt:=l.foldl (aR c) s
def iP (c:Cfg):CSt→List Mic→List Ev
 |_,[]=>[]
 |s,m::l=>y0 s m++iP c (aR c s m) l
theorem tB{a b:List Mic}:dR c s (a++b)=dR c (dR c s a) b:=by simp[dR]
theorem HA {c:Cfg}: ∀{a b:List Mic} {s:CSt},wY c s (a++b)↔wY c s a∧wY c (dR c s a) b
 | [],b,s=>by simp[wY,dR]
 |m::a,b,s=>by
  have:=HA (c:=c) (a:=a) (b:=b) (s:=aR c s m)
  simp only[List.cons_append,wY,this,and_assoc]
  rfl
theorem G6 {c:Cfg}: ∀{a b:List Mic} {s:CSt},iP c s (a++b)=iP c s a++iP c (dR c s a) b
 | [],b,s=>by simp[iP,dR]
 |m::a,b,s=>by
  have:=G6 (c:=c) (a:=a) (b:=b) (s:=aR c s m)
  simp only[List.cons_append,iP,this,C0]
  rfl
theorem CV {c:Cfg} (hb:aQ c): ∀{l:List Mic} {s:CSt},COk c s→wY c s l→COk c (dR c s l)∧cX (dR c s l)=runM c (cX s) (iP c s l)∧F9 c (cX s) (iP c s l)
 | [],s,h,_=>⟨h,rfl,pV⟩
 |m::l,s,h,hg=>by
  obtain⟨h1,h2⟩:=hg
  obtain⟨q1,q2,q3⟩:=CV hb (l:=l) (o9 hb h h1) h2
  have ha:=af6 hb h h1
  refine⟨q1,?_,?_⟩
  ·show cX (dR c (aR c s m) l)=_
   rw[q2,ha]
   show _=runM c (cX s) (y0 s m++iP c (aR c s m) l)
   rw[ZL]
  ·show F9 c (cX s) (y0 s m++iP c (aR c s m) l)
   rw[WS]
   refine⟨?_,by rw[←ha];exact q3⟩
   have hw:=XZ h h1
   cases m with
   |tick st=>exact pV
   |adm who st=>exact pV
   |tell who st=>exact xB.2 ⟨hw ⟨3,who,(iF s st).n⟩ (CJ.2 rfl),pV⟩
   |work st=>exact xB.2 ⟨hw ⟨2,(bI s st).who,(bI s st).n⟩ (CJ.2 rfl),pV⟩
   |ask who=>exact xB.2 ⟨hw ⟨1,who,(aF s who).next⟩ (CJ.2 rfl),pV⟩
def pQ (s:CSt) (who k:Nat):Nat:=(((aF s who).last+(k:Int))%4).toNat
def NN (s:CSt) (who st:Nat):Bool:=decide (0<(aL s st).done.length∧((aL s st).done.getD 0 default).who=who)
def vT (i:CIn) (s:CSt) (who:Nat):Option Mic:=if i.ready.getD who default=true then (([1,2,3,4].map (pQ s who)).find? (NN s who)).map (.tell who) else none
def qW (i:CIn) (s:CSt) (st:Nat):Option Mic:=
 if i.n9.getD st default=true∨(aL s st).pipe.length=0 then none else if 0<(bI s st).left then some (.tick st) else if (aL s st).done.length<2 then some (.work st) else none
def sM (s:CSt) (st k:Nat):Nat:=(((aL s st).last+(k:Int))%3).toNat
def KE (c:Cfg) (s:CSt) (used:List Bool) (st who:Nat):Bool:= !(used.getD who default)&&decide (HV c s who st)
def AO (c:Cfg) (s:CSt) (used:List Bool) (st:Nat):Option Nat:=if (aL s st).pipe.length<2 then ([1,2,3].map (sM s st)).find? (KE c s used st) else none
def PA (c:Cfg) (i:CIn) (s:CSt) (who:Nat):Option Mic:=if i.send.getD who default=true∧(aF s who).queue.length<2∧(aF s who).next<(c.cP.getD who default).length then some (.ask who) else none
def atS (c:Cfg) (s:CSt):Option Mic→CSt
 |none=>s
 |some m=>aR c s m
def vE (c:Cfg) (f:CSt→Nat→Option Mic):CSt→List Nat→List Mic
 |_,[]=>[]
 |s,k::l=>match f s k with
  |none=>vE c f s l
  |some m=>m::vE c f (aR c s m) l
def oP (c:Cfg):CSt→List Bool→List Nat→List Mic
 |_,_,[]=>[]
 |s,u,st::l=>match AO c s u st with
  |none=>oP c s u l
  |some who=>.adm who st::oP c (aR c s (.adm who st)) (u.set who true) l
def KQ (c:Cfg) (i:CIn) (s:CSt):List Mic:=vE c (vT i) s [0,1,2]
def xX (c:Cfg) (i:CIn) (s:CSt):List Mic:=vE c (qW i) s [0,1,2,3]
def ad4 (c:Cfg) (s:CSt):List Mic:=oP c s [false,false,false] [0,1,2,3]
def MV (c:Cfg) (i:CIn) (s:CSt):List Mic:=vE c (PA c i) s [0,1,2]
def CW (c:Cfg) (i:CIn) (s:CSt):CSt:=dR c s (KQ c i s)
def QD (c:Cfg) (i:CIn) (s:CSt):CSt:=dR c (CW c i s) (xX c i (CW c i s))
def OI (c:Cfg) (i:CIn) (s:CSt):CSt:=dR c (QD c i s) (ad4 c (QD c i s))
def vF (c:Cfg) (i:CIn) (s:CSt):CSt:=dR c (OI c i s) (MV c i (OI c i s))
def YC (c:Cfg) (i:CIn) (s:CSt):List Mic:=KQ c i s++xX c i (CW c i s)++ad4 c (QD c i s)++MV c i (OI c i s)
def TK (c:Cfg) (i:CIn) (s:CSt):List Ev:=iP c s (YC c i s)
variable{i:CIn}
theorem PI:vF c i s=dR c s (YC c i s):=by
 unfold YC vF OI QD CW
 simp only[tB]
theorem LW {c:Cfg} (hb:aQ c) {f:CSt→Nat→Option Mic}: ∀{l:List Nat} {s:CSt},COk c s→(∀s k m,COk c s→k∈l→f s k=some m→EH c s m)→wY c s (vE c f s l)
 | [],s,_,_=>trivial
 |k::l,s,h,hf=>by
  unfold vE
  split
  ·exact LW hb h fun s k m hs hk hm=>hf s k m hs (bq9 _ hk) hm
  ·rename_i m hm
   have hg:=hf s k m h (by simp) hm
   exact⟨hg,LW hb (o9 hb h hg) fun s k m hs hk hm=>hf s k m hs (bq9 _ hk) hm⟩
theorem TB (_:COk c s) (hw:who<3) (hm:vT i s who=some m):EH c s m:=by
 unfold vT at hm
 split at hm
 ·rw[m4] at hm
  obtain⟨st,h1,rfl⟩:=hm
  have h2:=List.find?_some h1
  have h3:=bsM h1
  obtain⟨k,_,rfl⟩:=CF.1 h3
  obtain⟨q1,q2⟩:=of_decide_eq_true h2
  exact⟨hw,by unfold pQ;omega,q1,q2⟩
 ·cases hm
theorem LM (_:COk c s) (hw:st<4) (hm:qW i s st=some m):EH c s m:=by
 unfold qW at hm
 split at hm
 ·cases hm
 ·rename_i h1
  split at hm
  ·rename_i h2
   cases hm
   exact⟨hw,by omega,h2⟩
  ·rename_i h2
   split at hm
   ·rename_i h3
    cases hm
    exact⟨hw,by omega,h2,h3⟩
   ·cases hm
theorem XH{u:List Bool} (hs:st<4) (hm:AO c s u st=some who):EH c s (.adm who st):=by
 unfold AO at hm
 split at hm
 ·rename_i h1
  have h2:=List.find?_some hm
  have h3:=bsM hm
  obtain⟨k,_,rfl⟩:=CF.1 h3
  unfold KE at h2
  rw[q7] at h2
  exact⟨by unfold sM;omega,hs,h1,of_decide_eq_true h2.2⟩
 ·cases hm
theorem YH (_:COk c s) (hw:who<3) (hm:PA c i s who=some m):EH c s m:=by
 unfold PA at hm
 split at hm
 ·rename_i h
  cases hm
  exact⟨hw,h.2.1,h.2.2⟩
 ·cases hm
theorem XU {c:Cfg} (hb:aQ c): ∀{l:List Nat} {s:CSt} {u:List Bool},COk c s→(∀k∈l,k<4)→wY c s (oP c s u l)
 | [],s,u,_,_=>trivial
 |k::l,s,u,h,hl=>by
  unfold oP
  split
  ·exact XU hb h fun k hk=>hl k (bq9 _ hk)
  ·rename_i who hm
   have hg:=XH (hl k (by simp)) hm
   exact⟨hg,XU hb (o9 hb h hg) fun k hk=>hl k (bq9 _ hk)⟩
theorem tC (h:k∈[0,1,2]):k<3:=by simp at h;omega
theorem w8 (h:k∈[0,1,2,3]):k<4:=by simp at h;omega
theorem aaI (hb:aQ c) (h:COk c s):wY c s (KQ c i s):=LW hb h fun s k m hs hk hm=>TB hs (tC hk) hm
theorem ZB (hb:aQ c) (h:COk c s):wY c s (xX c i s):=LW hb h fun s k m hs hk hm=>LM hs (w8 hk) hm
theorem afK (hb:aQ c) (h:COk c s):wY c s (ad4 c s):=XU hb h fun k hk=>w8 hk
theorem an9 (hb:aQ c) (h:COk c s):wY c s (MV c i s):=LW hb h fun s k m hs hk hm=>YH hs (tC hk) hm
theorem PH (hb:aQ c) (h:COk c s):COk c (CW c i s):=(CV hb h (aaI hb h)).1
theorem PV (hb:aQ c) (h:COk c s):COk c (QD c i s):=(CV hb (PH hb h) (ZB hb (PH hb h))).1
theorem afG (hb:aQ c) (h:COk c s):COk c (OI c i s):=(CV hb (PV hb h) (afK hb (PV hb h))).1
theorem KG (hb:aQ c) (h:COk c s):wY c s (YC c i s):=by
 unfold YC
 rw[HA,HA,HA]
 refine⟨⟨⟨aaI hb h,ZB hb (PH hb h)⟩,?_⟩,?_⟩
 ·rw[tB];exact afK hb (PV hb h)
 ·rw[tB,tB];exact an9 hb (afG hb h)
theorem PN (hb:aQ c) (h:COk c s):COk c (vF c i s):=by
 rw[PI];exact(CV hb h (KG hb h)).1
theorem anV (hb:aQ c) (h:COk c s):cX (vF c i s)=runM c (cX s) (TK c i s):=by
 rw[PI];exact(CV hb h (KG hb h)).2.1
def HY:CSt:=⟨List.replicate 64 0,List.replicate 6 (-1),List.replicate 3 ⟨0,[],[],3⟩,List.replicate 4 ⟨[],[],2⟩,[]⟩
theorem amS:cX HY=st0:=by rfl
theorem MX (hk:k<3):aF HY k=⟨0,[],[],3⟩:=by
 have:k=0∨k=1∨k=2:=by omega
 rcases this with rfl|rfl|rfl<;>rfl
theorem K4 (hk:k<4):aL HY k=⟨[],[],2⟩:=by
 have:k=0∨k=1∨k=2∨k=3:=by omega
 rcases this with rfl|rfl|rfl|rfl<;>rfl
theorem anK (c:Cfg):COk c HY:=by
 have hst:BA c (cX HY):=by rw[amS];exact arF c
 refine⟨hst.atm,rfl,rfl,fun k hk=> ?_,fun k hk=> ?_,rfl,hst⟩
 ·rw[MX hk]
  exact⟨by simp,by simp,by simp,by decide,fun i hi=>by simp at hi,fun j hj=>by simp at hj,List.Pairwise.nil,fun a ha=>by simp at ha⟩
 ·refine⟨?_,?_,?_,?_,?_,?_,?_⟩<;>rw[K4 hk]
  ·simp
  ·simp
  ·decide
  ·exact List.Pairwise.nil
  ·intro x hx;simp[cS] at hx
  ·intro j hj;simp at hj
  ·intro i hi;simp at hi
def eCJ (j:fC):List D1:=[cI j.who,cI j.n,cI j.left]
variable{j:fC}
theorem anW:(eCJ j).length=3:=rfl
theorem aiX:(eCJ j).take 1=[cI j.who]:=rfl
theorem aiI:(eCJ j).drop 1=[cI j.n,cI j.left]:=rfl
theorem ah9:(eCJ j).take 2=[cI j.who,cI j.n]:=rfl
theorem ajA:(eCJ j).drop 2=[cI j.left]:=rfl
theorem agT:(eCJ j).take 3=eCJ j:=rfl
theorem agG:(eCJ j).drop 3=[]:=rfl
variable{cs:List D1}
theorem alE:iA cs (k+1) (eCJ j)=iA cs (k+1) [cI j.who,cI j.n,cI j.left]:=rfl
theorem yK (j:fC):(eCJ j).length=3∧(eCJ j).all D1.dQ=true:=⟨rfl,rfl⟩
attribute [go_sem] anW aiX aiI ah9 ajA agT agG alE
def cD (p:fR):List D1:=[cI p.next,.isl (p.queue.map aJ),.isl (p.out.map eCJ),cI p.last]
theorem ag6:(cD p).length=4:=rfl
theorem ZZ:(cD p).take 1=[cI p.next]:=rfl
theorem abE:(cD p).drop 1=[.isl (p.queue.map aJ),.isl (p.out.map eCJ),cI p.last]:=rfl
theorem YU:(cD p).take 2=[cI p.next,.isl (p.queue.map aJ)]:=rfl
theorem ZM:(cD p).drop 2=[.isl (p.out.map eCJ),cI p.last]:=rfl
theorem aa2:(cD p).take 3=[cI p.next,.isl (p.queue.map aJ),.isl (p.out.map eCJ)]:=rfl
theorem aa8:(cD p).drop 3=[cI p.last]:=rfl
theorem abO:(cD p).take 4=cD p:=rfl
theorem aaG:(cD p).drop 4=[]:=rfl
theorem aeM:iA cs (k+1) (cD p)=iA cs (k+1) [cI p.next,.isl (p.queue.map aJ),.isl (p.out.map eCJ),cI p.last]:=rfl
theorem t7 (p:fR):(cD p).length=4∧(cD p).all D1.dQ=true:=⟨rfl,rfl⟩
attribute [go_sem] ag6 ZZ abE YU ZM aa2 aa8 abO aaG aeM
def gF (v:nY):List D1:=[.isl (v.pipe.map eCJ),.isl (v.done.map aS),cI v.last]
theorem amX:(gF v).length=3:=rfl
theorem ad9:(gF v).take 1=[.isl (v.pipe.map eCJ)]:=rfl
theorem aeY:(gF v).drop 1=[.isl (v.done.map aS),cI v.last]:=rfl
theorem ab2:(gF v).take 2=[.isl (v.pipe.map eCJ),.isl (v.done.map aS)]:=rfl
theorem ac3:(gF v).drop 2=[cI v.last]:=rfl
theorem ad6:(gF v).take 3=gF v:=rfl
theorem adW:(gF v).drop 3=[]:=rfl
theorem ahZ:iA cs (k+1) (gF v)=iA cs (k+1) [.isl (v.pipe.map eCJ),.isl (v.done.map aS),cI v.last]:=rfl
theorem zJ (v:nY):(gF v).length=3∧(gF v).all D1.dQ=true:=⟨rfl,rfl⟩
attribute [go_sem] amX ad9 aeY ab2 ac3 ad6 adW ahZ
def eI (s:CSt):List D1:=[.isl (s.words.map aJ),.isl (s.holds.map aJ),.isl (s.bM.map cD),.isl (s.dD.map gF),.isl (s.told.map aS)]
theorem ajM:(eI s).length=5:=rfl
theorem adQ:(eI s).take 1=[.isl (s.words.map aJ)]:=rfl
theorem acL:(eI s).drop 1=[.isl (s.holds.map aJ),.isl (s.bM.map cD),.isl (s.dD.map gF),.isl (s.told.map aS)]:=rfl
theorem aeK:(eI s).take 2=[.isl (s.words.map aJ),.isl (s.holds.map aJ)]:=rfl
theorem aeQ:(eI s).drop 2=[.isl (s.bM.map cD),.isl (s.dD.map gF),.isl (s.told.map aS)]:=rfl
theorem adC:(eI s).take 3=[.isl (s.words.map aJ),.isl (s.holds.map aJ),.isl (s.bM.map cD)]:=rfl
theorem adP:(eI s).drop 3=[.isl (s.dD.map gF),.isl (s.told.map aS)]:=rfl
theorem ab6:(eI s).take 4=[.isl (s.words.map aJ),.isl (s.holds.map aJ),.isl (s.bM.map cD),.isl (s.dD.map gF)]:=rfl
theorem aeD:(eI s).drop 4=[.isl (s.told.map aS)]:=rfl
theorem ac5:(eI s).take 5=eI s:=rfl
theorem aeA:(eI s).drop 5=[]:=rfl
theorem aiO:iA cs (k+1) (eI s)=iA cs (k+1) [.isl (s.words.map aJ),.isl (s.holds.map aJ),.isl (s.bM.map cD),.isl (s.dD.map gF),.isl (s.told.map aS)]:=rfl
attribute [go_sem] ajM adQ acL aeK aeQ adC adP ab6 aeD ac5 aeA aiO
def eH (b:Bool):List D1:=[cB b]
theorem ai9{b:Bool}:(eH b).length=1:=rfl
theorem abL{b:Bool}:(eH b).take 1=[cB b]:=rfl
theorem aaB{b:Bool}:(eH b).drop 1=[]:=rfl
theorem abX{b:Bool}:iA cs (k+1) (eH b)=iA cs (k+1) [cB b]:=rfl
theorem mK (b:Bool):(eH b).length=1∧(eH b).all D1.dQ=true:=⟨rfl,rfl⟩
attribute [go_sem] ai9 abL aaB abX
def eIn (i:CIn):List D1:=[.isl (i.ready.map eH),.isl (i.n9.map eH),.isl (i.send.map eH)]
theorem aoW:(eIn i).length=3:=rfl
theorem agD:(eIn i).take 1=[.isl (i.ready.map eH)]:=rfl
theorem ah2:(eIn i).drop 1=[.isl (i.n9.map eH),.isl (i.send.map eH)]:=rfl
theorem aiC:(eIn i).take 2=[.isl (i.ready.map eH),.isl (i.n9.map eH)]:=rfl
theorem agZ:(eIn i).drop 2=[.isl (i.send.map eH)]:=rfl
theorem ajC:(eIn i).take 3=eIn i:=rfl
theorem agB:(eIn i).drop 3=[]:=rfl
theorem al9:iA cs (k+1) (eIn i)=iA cs (k+1) [.isl (i.ready.map eH),.isl (i.n9.map eH),.isl (i.send.map eH)]:=rfl
theorem QX (i:CIn):(eIn i).length=3∧(eIn i).all D1.dQ=true:=⟨rfl,rfl⟩
attribute [go_sem] aoW agD ah2 aiC agZ ajC agB al9
structure tZ (H:aA) (n id off len cap:Nat) (R:List (List D1)):Prop where
 ex: ∃m rows,H id=some ⟨n,m,rows⟩∧rows.drop off=R∧off+len≤rows.length∧len=R.length∧len≤cap∧off+cap≤m
def af5 (nq no:Nat) (p:fR) (qo qc oc:Nat):List D1:=[cI p.next,.osl 1 nq qo p.queue.length qc,.osl 3 no 0 p.out.length oc,cI p.last]
def aj9 (np nd:Nat) (v:nY) (po pc do_ dc:Nat):List D1:=[.osl 3 np po v.pipe.length pc,.osl 5 nd do_ v.done.length dc,cI v.last]
structure CX (H:aA) (nq no:Nat) (p:fR) (r:List D1):Prop where
 ex: ∃qo qc oc,r=af5 nq no p qo qc oc∧tZ H 1 nq qo p.queue.length qc (p.queue.map aJ)∧tZ H 3 no 0 p.out.length oc (p.out.map eCJ)
structure LJ (H:aA) (np nd:Nat) (v:nY) (r:List D1):Prop where
 ex: ∃po pc do_ dc,r=aj9 np nd v po pc do_ dc∧tZ H 3 np po v.pipe.length pc (v.pipe.map eCJ)∧tZ H 5 nd do_ v.done.length dc (v.done.map aS)
def U2 (nm:Nat→Nat) (s:CSt) (wc hc pc vc tc:Nat):List D1:=[.osl 1 (nm 0) 0 s.words.length wc,.osl 1 (nm 1) 0 s.holds.length hc,.osl 4 (nm 2) 0 3 pc,.osl 3 (nm 3) 0 4 vc,.osl 5 (nm 4) 0 s.told.length tc]
structure abY (H:aA) (nm:Nat→Nat) (s:CSt) (cells:List D1):Prop where
 ex: ∃wc hc pc vc tc,cells=U2 nm s wc hc pc vc tc∧tZ H 1 (nm 0) 0 s.words.length wc (s.words.map aJ)∧tZ H 1 (nm 1) 0 s.holds.length hc (s.holds.map aJ)∧tZ H 5 (nm 4) 0 s.told.length tc (s.told.map aS)∧
  3≤pc∧4≤vc
 bM: ∃m rows,H (nm 2)=some ⟨4,m,rows⟩∧rows.length=3∧ ∀k,k<3→∃r,rows[k]?=some r∧CX H (nm (5+k)) (nm (8+k)) (aF s k) r
 dD: ∃m rows,H (nm 3)=some ⟨3,m,rows⟩∧rows.length=4∧ ∀k,k<4→∃r,rows[k]?=some r∧LJ H (nm (11+k)) (nm (15+k)) (aL s k) r
structure Names (X:Nat→Prop) (nx:Nat) (nm:Nat→Nat):Prop where
 inj: ∀j k,j<19→k<19→nm j=nm k→j=k
 lt: ∀k,k<19→nm k<nx
 av: ∀k,k<19→¬X (nm k)
structure Rep (X:Nat→Prop) (H:aA) (nx i0:Nat) (nm:Nat→Nat) (s:CSt):Prop where
 st: ∃cells,H i0=some ⟨5,1,[cells]⟩∧abY H nm s cells
 names:Names X nx nm
 ne: ∀k,k<19→nm k≠i0
 i0:i0<nx∧ ¬X i0
 x: ∀id,X id→id<nx
def aqA (Y:Nat→Prop) (H:aA) (nx i1:Nat) (es:List Ev) (d:D1):Prop:=
 (es=[]∧d= .osl 0 0 0 0 0)∨ ∃ev cap,d= .osl 3 ev 0 es.length cap∧tZ H 3 ev 0 es.length cap (es.map eEv)∧ev<nx∧ ¬Y ev∧ev≠i1
structure aiW (Y:Nat→Prop) (H:aA) (nx i1:Nat) (es:List Ev):Prop where
 ex: ∃d a b c e,H i1=some ⟨5,1,[[d,cI a,cI b,cI c,cI e]]⟩∧aqA Y H nx i1 es d
 i1:i1<nx∧ ¬Y i1
 y: ∀id,Y id→id<nx
variable{H:aA}
theorem aA.aC{a i:Nat}{o:bA} (h:i≠a):H.set a o i=H i:=if_neg h
theorem aA.bH{a:Nat}{o:bA}:H.set a o a=some o:=if_pos rfl
theorem aA.jG{a i:Nat} (h:i≠a):H.del a i=H i:=if_neg h
def eZ (x:Nat):List Nat→Prop
 | []=>True
 |y::l=>((x=y)=False∧(y=x)=False)∧eZ x l
def bQ (nx:Nat):List Nat→Prop
 | []=>True
 |x::l=>((∀k,(x=nx+k)=False)∧(∀k,(nx+k=x)=False)∧(x=nx)=False∧(nx=x)=False)∧eZ x l∧bQ nx l
theorem apZ {x:Nat}: ∀{l:List Nat},x∉l→eZ x l
 | [],_=>trivial
 |y::l,h=>by
  rw[t3,not_or] at h
  exact⟨⟨eq_false h.1,eq_false (Ne.symm h.1)⟩,apZ h.2⟩
theorem apart {nx:Nat}: ∀{l:List Nat},l.Nodup→(∀x∈l,x<nx)→bQ nx l
 | [],_,_=>trivial
 |x::l,h,hl=>by
  rw[bq8] at h
  have hx:=hl x (by simp)
  exact⟨⟨fun k=>eq_false (by omega),fun k=>eq_false (by omega),eq_false (by omega),eq_false (by omega)⟩,apZ h.1,apart h.2 fun y hy=>hl y (bq9 _ hy)⟩
theorem Names.list {X:Nat→Prop} {nx:Nat} {nm:Nat→Nat} (h:Names X nx nm): ∀{l:List Nat},l.Nodup→(∀k∈l,k<19)→(l.map nm).Nodup
 | [],_,_=>List.Pairwise.nil
 |k::l,hn,hl=>by
  rw[bq8] at hn
  rw[n3,bq8]
  refine⟨fun hm=> ?_,h.list hn.2 fun j hj=>hl j (bq9 _ hj)⟩
  obtain⟨j,hj,he⟩:=CF.1 hm
  exact hn.1 (h.inj j k (hl j (bq9 _ hj)) (hl k (by simp)) he▸hj)
theorem Rep.apart {X:Nat→Prop} {H:aA} {nx nx' i0:Nat} {nm:Nat→Nat} {s:CSt} (h:Rep X H nx i0 nm s) (ext l:List Nat) (hx:nx≤nx') (he:ext.Nodup) (heX: ∀x∈ext,X x) (hn:l.Nodup) (hl: ∀k∈l,k<19):bQ nx' (ext++i0::l.map nm):=by
 refine AM.apart (brG.2 ⟨he,bq8.2 ⟨fun hm=> ?_,h.names.list hn hl⟩,fun a ha b hb hab=> ?_⟩) fun x hx=> ?_
 ·obtain⟨j,hj,he⟩:=CF.1 hm
  exact h.ne j (hl j hj) he
 ·subst hab
  rcases t3.1 hb with rfl|hb
  ·exact h.i0.2 (heX _ ha)
  ·obtain⟨j,hj,rfl⟩:=CF.1 hb
   exact h.names.av j (hl j hj) (heX _ ha)
 ·rcases o3.1 hx with hx|hx
  ·have:=h.x x (heX x hx);omega
  ·rcases t3.1 hx with rfl|hx
   ·have:=h.i0.1;omega
   ·obtain⟨j,hj,rfl⟩:=CF.1 hx
    have:=h.names.lt j (hl j hj);omega
theorem tZ.frame {H H':aA} {n id off len cap:Nat} {R:List (List D1)} (h:tZ H n id off len cap R) (he:H' id=H id):tZ H' n id off len cap R:=by
 obtain⟨m,rows,h1,h2⟩:=h.ex
 exact⟨m,rows,by rw[he,h1],h2⟩
theorem CX.frame {H H':aA} {nq no:Nat} {p:fR} {r:List D1} (h:CX H nq no p r) (h1:H' nq=H nq) (h2:H' no=H no):CX H' nq no p r:=by
 obtain⟨qo,qc,oc,e,q1,q2⟩:=h.ex
 exact⟨qo,qc,oc,e,q1.frame h1,q2.frame h2⟩
theorem LJ.frame {H H':aA} {np nd:Nat} {v:nY} {r:List D1} (h:LJ H np nd v r) (h1:H' np=H np) (h2:H' nd=H nd):LJ H' np nd v r:=by
 obtain⟨po,pc,do_,dc,e,q1,q2⟩:=h.ex
 exact⟨po,pc,do_,dc,e,q1.frame h1,q2.frame h2⟩
theorem Rep.upd {X:Nat→Prop} {H H':aA} {nx nx' i0:Nat} {nm nm':Nat→Nat} {s s':CSt} {who st:Nat} (h:Rep X H nx i0 nm s) (hx:nx≤nx') (hN:Names X nx' nm') (hne: ∀k,k<19→nm' k≠i0)
 (hk: ∀k,k<19→k≠4→k≠5+who→k≠8+who→k≠11+st→k≠15+st→nm' k=nm k) (hfr: ∀k,5≤k→k<19→k≠5+who→k≠8+who→k≠11+st→k≠15+st→H' (nm k)=H (nm k))
 (e1: ∃wc hc pc vc tc,H' i0=some ⟨5,1,[U2 nm' s' wc hc pc vc tc]⟩∧tZ H' 1 (nm' 0) 0 s'.words.length wc (s'.words.map aJ)∧tZ H' 1 (nm' 1) 0 s'.holds.length hc (s'.holds.map aJ)∧tZ H' 5 (nm' 4) 0 s'.told.length tc (s'.told.map aS)∧3≤pc∧4≤vc)
 (e2: ∃m rows m0 rows0,H (nm 2)=some ⟨4,m0,rows0⟩∧H' (nm 2)=some ⟨4,m,rows⟩∧rows.length=3∧(∀k,k<3→k≠who→rows[k]?=rows0[k]?)∧(who<3→∃r,rows[who]?=some r∧CX H' (nm' (5+who)) (nm' (8+who)) (aF s' who) r))
 (e3: ∃m rows m0 rows0,H (nm 3)=some ⟨3,m0,rows0⟩∧H' (nm 3)=some ⟨3,m,rows⟩∧rows.length=4∧(∀k,k<4→k≠st→rows[k]?=rows0[k]?)∧(st<4→∃r,rows[st]?=some r∧LJ H' (nm' (11+st)) (nm' (15+st)) (aL s' st) r))
 (hw:who<3∨who=14) (hs:st<4∨st=8) (hp: ∀k,k<3→k≠who→aF s' k=aF s k) (hv: ∀k,k<4→k≠st→aL s' k=aL s k):Rep X H' nx' i0 nm' s':=by
 obtain⟨⟨cells,hi0,hex,hports,hslvs⟩,hnames,hne0,hi1,hX⟩:=h
 refine⟨?_,hN,hne,⟨by omega,hi1.2⟩,fun id hid=>by have:=hX id hid;omega⟩
 obtain⟨wc,hc,pc,vc,tc,q1,q2⟩:=e1
 refine⟨_,q1,⟨wc,hc,pc,vc,tc,rfl,q2⟩,?_,?_⟩
 ·obtain⟨m,rows,m0,rows0,g1,g2,g3,g4,g5⟩:=e2
  obtain⟨m1,rows1,j1,j2,j3⟩:=hports
  rw[g1] at j1
  obtain⟨_,rfl,rfl⟩:4=4∧m0=m1∧rows0=rows1:=by simpa using j1
  refine⟨m,rows,by rw[hk 2 (by omega) (by omega) (by omega) (by omega) (by omega) (by omega)];exact g2,g3,fun k hk3=> ?_⟩
  by_cases hkw:k=who
  ·subst hkw;exact g5 hk3
  ·obtain⟨r,j4,j5⟩:=j3 k hk3
   refine⟨r,by rw[g4 k hk3 hkw];exact j4,?_⟩
   rw[hp k hk3 hkw,hk (5+k) (by omega) (by omega) (by omega) (by omega) (by omega) (by omega),hk (8+k) (by omega) (by omega) (by omega) (by omega) (by omega) (by omega)]
   exact j5.frame (hfr _ (by omega) (by omega) (by omega) (by omega) (by omega) (by omega)) (hfr _ (by omega) (by omega) (by omega) (by omega) (by omega) (by omega))
 ·obtain⟨m,rows,m0,rows0,g1,g2,g3,g4,g5⟩:=e3
  obtain⟨m1,rows1,j1,j2,j3⟩:=hslvs
  rw[g1] at j1
  obtain⟨_,rfl,rfl⟩:3=3∧m0=m1∧rows0=rows1:=by simpa using j1
  refine⟨m,rows,by rw[hk 3 (by omega) (by omega) (by omega) (by omega) (by omega) (by omega)];exact g2,g3,fun k hk3=> ?_⟩
  by_cases hkw:k=st
  ·subst hkw;exact g5 hk3
  ·obtain⟨r,j4,j5⟩:=j3 k hk3
   refine⟨r,by rw[g4 k hk3 hkw];exact j4,?_⟩
   rw[hv k hk3 hkw,hk (11+k) (by omega) (by omega) (by omega) (by omega) (by omega) (by omega),hk (15+k) (by omega) (by omega) (by omega) (by omega) (by omega) (by omega)]
   exact j5.frame (hfr _ (by omega) (by omega) (by omega) (by omega) (by omega) (by omega)) (hfr _ (by omega) (by omega) (by omega) (by omega) (by omega) (by omega))
theorem Rep.frame {X X':Nat→Prop} {H H':aA} {nx nx' i0:Nat} {nm:Nat→Nat} {s:CSt} (h:Rep X H nx i0 nm s) (hx:nx≤nx') (h0:H' i0=H i0) (hfr: ∀k,k<19→H' (nm k)=H (nm k)) (hX: ∀id,X' id→id<nx'∧id≠i0∧ ∀k,k<19→id≠nm k):Rep X' H' nx' i0 nm s:=by
 obtain⟨⟨cells,hi0,⟨wc,hc,pc,vc,tc,q1,q2,q3,q4,q5⟩,⟨m,rows,j1,j2,j3⟩,⟨m',rows',j4,j5,j6⟩⟩,hnames,hne0,hi1,_⟩:=h
 refine⟨⟨cells,by rw[h0];exact hi0,⟨wc,hc,pc,vc,tc,q1,q2.frame (hfr _ (by omega)),q3.frame (hfr _ (by omega)),q4.frame (hfr _ (by omega)),q5⟩,⟨m,rows,by rw[hfr 2 (by omega)];exact j1,j2,fun k hk=> ?_⟩,⟨m',rows',by rw[hfr 3 (by omega)];exact j4,j5,fun k hk=> ?_⟩⟩,
  ⟨hnames.inj,fun k hk=>by have:=hnames.lt k hk;omega,fun k hk hn=>(hX _ hn).2.2 k hk rfl⟩,hne0,⟨by omega,fun hn=>(hX _ hn).2.1 rfl⟩,fun id hid=>(hX id hid).1⟩
 ·obtain⟨r,k1,k2⟩:=j3 k hk
  exact⟨r,k1,k2.frame (hfr _ (by omega)) (hfr _ (by omega))⟩
 ·obtain⟨r,k1,k2⟩:=j6 k hk
  exact⟨r,k1,k2.frame (hfr _ (by omega)) (hfr _ (by omega))⟩
def put (nm:Nat→Nat) (k v:Nat):Nat→Nat:=fun j=>if j=k then v else nm j
variable{nm:Nat→Nat}
theorem t8{v:Nat}:put nm k v k=v:=if_pos rfl
theorem jE{v j:Nat} (h:j≠k):put nm k v j=nm j:=if_neg h
theorem Names.mono{X:Nat→Prop}{nx nx':Nat} (h:Names X nx nm) (hx:nx≤nx'):Names X nx' nm:=
 ⟨h.inj,fun k hk=>by have:=h.lt k hk;omega,h.av⟩
theorem Names.put {X:Nat→Prop} {nx nx':Nat} {nm:Nat→Nat} {k v:Nat} (h:Names X nx nm) (h1:nx≤v) (h2:v<nx') (hX: ¬X v):Names X nx' (put nm k v):=by
 refine⟨fun i j hi hj he=> ?_,fun j hj=> ?_,fun j hj=> ?_⟩
 ·have a:=h.lt i hi
  have b:=h.lt j hj
  have c:=h.inj i j hi hj
  unfold AM.put at he
  split at he<;>split at he<;>omega
 ·have:=h.lt j hj
  unfold AM.put;split<;>omega
 ·unfold AM.put;split
  ·exact hX
  ·exact h.av j hj
structure l9 (X:Nat→Prop) (H:aA) (nx i0 i1:Nat) (nm:Nat→Nat) (s:CSt) (es:List Ev):Prop where
 rep:Rep (fun id=>X id∨id=i1) H nx i0 nm s
 hap:aiW (fun id=>X id∨id=i0∨ ∃k,k<19∧id=nm k) H nx i1 es
theorem aiW.frame {Y Y':Nat→Prop} {H H':aA} {nx nx' i1:Nat} {es:List Ev} (h:aiW Y H nx i1 es) (hx:nx≤nx') (h1:H' i1=H i1) (hfr: ∀id,id<nx→¬Y id→H' id=H id) (hY: ∀id,Y' id→id<nx'∧(Y id∨nx≤id)):aiW Y' H' nx' i1 es:=by
 obtain⟨⟨d,a,b,c,e,g1,g2⟩,g3,g4⟩:=h
 have hn: ∀id,id<nx→¬Y id→¬Y' id:=fun id h1 h2 h3=>by
  rcases(hY id h3).2 with h|h
  ·exact h2 h
  ·omega
 refine⟨⟨d,a,b,c,e,by rw[h1];exact g1,?_⟩,⟨by omega,hn _ g3.1 g3.2⟩,fun id h=>(hY id h).1⟩
 rcases g2 with g2|⟨ev,cap,k1,k2,k3,k4,k5⟩
 ·exact .inl g2
 ·exact .inr ⟨ev,cap,k1,k2.frame (hfr _ k3 k4),by omega,hn _ k3 k4,k5⟩
theorem l9.next{X X2:Nat→Prop}{H2:aA}{nx nx2 i0 i1:Nat}{es:List Ev} (h:l9 X H nx i0 i1 nm s es) (hx:nx≤nx2) (hfr: ∀id,id<nx→¬X id→H2 id=H id) (hX: ∀id,X2 id→id<nx2∧(X id∨nx≤id)):l9 X2 H2 nx2 i0 i1 nm s es:=by
 have hi0:=h.rep.i0
 have hi1:=h.hap.i1
 have hav:=h.rep.names.av
 have hlt:=h.rep.names.lt
 refine⟨h.rep.frame hx (hfr i0 hi0.1 fun hn=>hi0.2 (.inl hn)) (fun k hk=>hfr _ (hlt k hk) fun hn=>hav k hk (.inl hn)) fun id hid=> ?_,h.hap.frame hx (hfr i1 hi1.1 fun hn=>hi1.2 (.inl hn)) (fun id h1 h2=>hfr id h1 fun hn=>h2 (.inl hn)) fun id hid=> ?_⟩
 ·rcases hid with hid|rfl
  ·obtain⟨q1,q2⟩:=hX id hid
   refine⟨q1,?_,fun k hk=> ?_⟩
   ·rintro rfl
    rcases q2 with q2|q2
    ·exact hi0.2 (.inl q2)
    ·omega
   ·rintro rfl
    have:=hlt k hk
    rcases q2 with q2|q2
    ·exact hav k hk (.inl q2)
    ·omega
  ·refine⟨by omega,fun he=>hi0.2 (.inr he.symm),fun k hk he=>hav k hk (.inr he.symm)⟩
 ·rcases hid with hid|rfl|⟨k,hk,rfl⟩
  ·obtain⟨q1,q2⟩:=hX id hid
   exact⟨q1,q2.imp .inl fun h=>h⟩
  ·exact⟨by omega,.inl (.inr (.inl rfl))⟩
  ·have:=hlt k hk
   exact⟨by omega,.inl (.inr (.inr ⟨k,hk,rfl⟩))⟩
theorem l9.mono{X:Nat→Prop}{nx nx2 i0 i1:Nat}{es:List Ev} (h:l9 X H nx i0 i1 nm s es) (hx:nx≤nx2):l9 X H nx2 i0 i1 nm s es:=
 h.next hx (fun _ _ _=>rfl) fun id hid=>⟨by have:=h.rep.x id (.inl hid);omega,.inl hid⟩
theorem Rep.get{X:Nat→Prop}{nx i0:Nat} (h:Rep X H nx i0 nm s):
 ∃wc hc pc vc tc mp rp mv rv,H i0=some ⟨5,1,[[.osl 1 (nm 0) 0 s.words.length wc,.osl 1 (nm 1) 0 s.holds.length hc,.osl 4 (nm 2) 0 3 pc,.osl 3 (nm 3) 0 4 vc,.osl 5 (nm 4) 0 s.told.length tc]]⟩∧H (nm 2)=some ⟨4,mp,rp⟩∧H (nm 3)=some ⟨3,mv,rv⟩∧
  tZ H 1 (nm 0) 0 s.words.length wc (s.words.map aJ)∧tZ H 1 (nm 1) 0 s.holds.length hc (s.holds.map aJ)∧tZ H 5 (nm 4) 0 s.told.length tc (s.told.map aS)∧3≤pc∧4≤vc∧rp.length=3∧rv.length=4∧
  (∀k,k<3→∃qo qc oc,rp[k]?=some [cI (aF s k).next,.osl 1 (nm (5+k)) qo (aF s k).queue.length qc,.osl 3 (nm (8+k)) 0 (aF s k).out.length oc,cI (aF s k).last]∧tZ H 1 (nm (5+k)) qo (aF s k).queue.length qc ((aF s k).queue.map aJ)∧tZ H 3 (nm (8+k)) 0 (aF s k).out.length oc ((aF s k).out.map eCJ))∧
  ∀k,k<4→∃po pc do_ dc,rv[k]?=some [.osl 3 (nm (11+k)) po (aL s k).pipe.length pc,.osl 5 (nm (15+k)) do_ (aL s k).done.length dc,cI (aL s k).last]∧tZ H 3 (nm (11+k)) po (aL s k).pipe.length pc ((aL s k).pipe.map eCJ)∧tZ H 5 (nm (15+k)) do_ (aL s k).done.length dc ((aL s k).done.map aS):=by
 obtain⟨cells,hi0,⟨wc,hc,pc,vc,tc,rfl,q1,q2,q3,q4,q5⟩,⟨mp,rp,j1,j2,j3⟩,⟨mv,rv,j4,j5,j6⟩⟩:=h.st
 refine⟨wc,hc,pc,vc,tc,mp,rp,mv,rv,hi0,j1,j4,q1,q2,q3,q4,q5,j2,j5,fun k hk=> ?_,fun k hk=> ?_⟩
 ·obtain⟨r,h1,⟨qo,qc,oc,rfl,h2⟩⟩:=j3 k hk
  exact⟨qo,qc,oc,h1,h2⟩
 ·obtain⟨r,h1,⟨po,pc,do_,dc,rfl,h2⟩⟩:=j6 k hk
  exact⟨po,pc,do_,dc,h1,h2⟩
theorem l9.upd {X:Nat→Prop} {H H':aA} {nx nx' i0 i1:Nat} {nm:Nat→Nat} {s:CSt} {es:List Ev} (h:l9 X H nx i0 i1 nm s es) (who st:Nat) (nm':Nat→Nat) (s':CSt) (hx:nx≤nx') (hN:Names (fun id=>X id∨id=i1) nx' nm')
 (hk: ∀k,k<19→nm' k=nm k∨((k=4∨k=5+who∨k=8+who∨k=11+st∨k=15+st)∧nx≤nm' k))
 (hfr: ∀id,id<nx→id≠i0→(∀k,k<5∨k=5+who∨k=8+who∨k=11+st∨k=15+st→k<19→id≠nm k)→H' id=H id)
 (e1: ∃wc hc pc vc tc,H' i0=some ⟨5,1,[U2 nm' s' wc hc pc vc tc]⟩∧tZ H' 1 (nm' 0) 0 s'.words.length wc (s'.words.map aJ)∧tZ H' 1 (nm' 1) 0 s'.holds.length hc (s'.holds.map aJ)∧tZ H' 5 (nm' 4) 0 s'.told.length tc (s'.told.map aS)∧3≤pc∧4≤vc)
 (e2: ∃m rows m0 rows0,H (nm 2)=some ⟨4,m0,rows0⟩∧H' (nm 2)=some ⟨4,m,rows⟩∧rows.length=3∧(∀k,k<3→k≠who→rows[k]?=rows0[k]?)∧(who<3→∃r,rows[who]?=some r∧CX H' (nm' (5+who)) (nm' (8+who)) (aF s' who) r))
 (e3: ∃m rows m0 rows0,H (nm 3)=some ⟨3,m0,rows0⟩∧H' (nm 3)=some ⟨3,m,rows⟩∧rows.length=4∧(∀k,k<4→k≠st→rows[k]?=rows0[k]?)∧(st<4→∃r,rows[st]?=some r∧LJ H' (nm' (11+st)) (nm' (15+st)) (aL s' st) r))
 (hw:who<3∨who=14) (hs:st<4∨st=8) (hp: ∀k,k<3→k≠who→aF s' k=aF s k) (hv: ∀k,k<4→k≠st→aL s' k=aL s k):l9 X H' nx' i0 i1 nm' s' es∧ ∀id,X id→H' id=H id:=by
 have hav:=h.rep.names.av
 have hi0:=h.rep.i0
 have hi1:=h.hap.i1
 have hlt:=h.rep.names.lt
 have hXf: ∀id,X id∨id=i1→H' id=H id:=fun id hid=>hfr id (h.rep.x id hid) (fun he=>hi0.2 (he▸hid)) fun k _ hk he=>hav k hk (he▸hid)
 refine⟨⟨h.rep.upd (who:=who) (st:=st) hx hN (fun k hk19=> ?_) (fun k hk19 h1 h2 h3 h4 h5=> ?_) (fun k h5 hk19 h1 h2 h3 h4=> ?_) e1 e2 e3 hw hs hp hv,h.hap.frame hx (hXf _ (.inr rfl)) (fun id h1 h2=> ?_) fun id hid=> ?_⟩,fun id hid=>hXf id (.inl hid)⟩
 ·rcases hk k hk19 with h1|h1
  ·rw[h1];exact h.rep.ne k hk19
  ·omega
 ·rcases hk k hk19 with h6|h6
  ·exact h6
  ·omega
 ·refine hfr _ (hlt k hk19) (h.rep.ne k hk19) fun j hj hj19 he=> ?_
  have:=h.rep.names.inj k j hk19 hj19 he
  omega
 ·exact hfr id h1 (fun he=>h2 (.inr (.inl he))) fun k _ hk19 he=>h2 (.inr (.inr ⟨k,hk19,he⟩))
 ·rcases hid with hid|rfl|⟨k,hk19,rfl⟩
  ·have:=h.rep.x id (.inl hid)
   exact⟨by omega,.inl (.inl hid)⟩
  ·exact⟨by omega,.inl (.inr (.inl rfl))⟩
  ·have:=hN.lt k hk19
   rcases hk k hk19 with h6|h6
   ·exact⟨this,.inl (.inr (.inr ⟨k,hk19,h6⟩))⟩
   ·exact⟨this,.inr h6.2⟩
def VK (H:aA) (F:Nat→Prop) (r' r:List D1):Prop:=r'.length=r.length∧ ∀(j:Nat) (d':D1),r'[j]?=some d'→∃d,r[j]?=some d∧Frz H F d' d
section
variable {H : aA} {F : Nat → Prop} {σ : Nat → Nat} {nh : Nat}
theorem LH:VK H F [] []:=⟨rfl,fun j d h=>by simp at h⟩
theorem fO {x y:D1} {xs ys:List D1} (h:Frz H F x y) (h2:VK H F xs ys):VK H F (x::xs) (y::ys):=by
 refine⟨by simp[h2.1],fun j d hd=> ?_⟩
 match j with
 |0=>simp at hd;subst hd;exact⟨y,rfl,h⟩
 |j+1=>exact h2.2 j d (by simpa using hd)
theorem amO {r:List D1} (h: ∀x∈r,x.dQ=true):VK H F r r:=⟨rfl,fun j d hd=>⟨d,hd,.same d (h d (s3 hd))⟩⟩
theorem A8 {r' r:List D1} (h:VK H F r' r):CvL H F σ nh r' r:=⟨h.1,fun i x y hx hy=>by
 obtain⟨d,h1,h2⟩:=h.2 i x hx
 rw[hy] at h1;cases h1
 exact .frz h2⟩
theorem QM {rows:List (List D1)} {n id off len cap:Nat} {o:bA} (hF:F id) (ho:H id=some o) (hn:o.n=n) (hl:len=rows.length) (hlen:off+len≤o.rows.length) (hcap:len≤cap)
 (hr: ∀i r',rows[i]?=some r'→r'.length=n∧ ∃r,o.rows[off+i]?=some r∧VK H F r' r):Frz H F (.isl rows) (.osl n id off len cap):=by
 subst hl
 refine .frz rows n id off cap o (fun i j=>((o.rows[off+i]?.getD [])[j]?).getD .dead) hF ho hn hlen hcap (fun i r' h=>(hr i r' h).1) (fun i j r' d' h1 h2=> ?_) (fun i j r' d' h1 h2=> ?_)
 ·obtain⟨_,r,h3,h4⟩:=hr i r' h1
  obtain⟨d,h5,_⟩:=h4.2 j d' h2
  exact⟨r,h3,by rw[h3];simp[h5]⟩
 ·obtain⟨_,r,h3,h4⟩:=hr i r' h1
  obtain⟨d,h5,h6⟩:=h4.2 j d' h2
  rw[h3];simpa [h5] using h6
theorem tZ.frz {n id off len cap:Nat} {R:List (List D1)} (h:tZ H n id off len cap R) (hi:alR n R) (hF:F id):Frz H F (.isl R) (.osl n id off len cap):=by
 obtain⟨m,rows,h1,h2,h3,h4,h5,h6⟩:=h.ex
 refine QM hF h1 rfl h4 h3 h5 fun i r' hr=>⟨(hi r' (s3 hr)).1,r',?_,amO fun x hx=>(hi r' (s3 hr)).2 x hx⟩
 subst h2
 rw[s5] at hr
 exact hr
theorem ZX {x:Value}:Frz H F (.v x) (.v x):=.same _ rfl
theorem CX.VI {nq no:Nat} {p:fR} {r:List D1} (h:CX H nq no p r) (h1:F nq) (h2:F no):VK H F (cD p) r:=by
 obtain⟨qo,qc,oc,rfl,q1,q2⟩:=h.ex
 exact fO ZX (fO (q1.frz (aG bF _) h1) (fO (q2.frz (aG yK _) h2) (fO ZX LH)))
theorem LJ.VI {np nd:Nat} {v:nY} {r:List D1} (h:LJ H np nd v r) (h1:F np) (h2:F nd):VK H F (gF v) r:=by
 obtain⟨qo,qc,o,oc,rfl,q1,q2⟩:=h.ex
 exact fO (q1.frz (aG yK _) h1) (fO (q2.frz (aG dZ _) h2) (fO ZX LH))
theorem getD_some {α:Type} [Inhabited α] {l:List α} {k:Nat} {x:α} (h:l[k]?=some x):l.getD k default=x∧k<l.length:=by
 refine⟨by simp[List.getD,h],(m3.1 h).1⟩
theorem abY.VI {nm:Nat→Nat} {s:CSt} {cells:List D1} (h:abY H nm s cells) (hF: ∀k,k<19→F (nm k)) (hp:s.bM.length=3) (hs:s.dD.length=4):VK H F (eI s) cells:=by
 obtain⟨⟨wc,hc,pc,vc,tc,rfl,q1,q2,q3,q4,q5⟩,⟨m,rows,j1,j2,j3⟩,m',rows',j4,j5,j6⟩:=h
 refine fO (q1.frz (aG bF _) (hF _ (by omega))) (fO (q2.frz (aG bF _) (hF _ (by omega))) (fO ?_ (fO ?_ (fO (q3.frz (aG dZ _) (hF _ (by omega))) LH))))
 ·refine QM (hF _ (by omega)) j1 rfl (by simp[hp]) (by simp;omega) q4 fun i r' hr=> ?_
  rw[p0,m4] at hr
  obtain⟨p,hr,rfl⟩:=hr
  obtain⟨e1,e2⟩:=getD_some hr
  obtain⟨r,k1,k2⟩:=j3 i (by omega)
  rw[show aF s i=p from e1] at k2
  exact⟨rfl,r,by rw[Y4];exact k1,k2.VI (hF _ (by omega)) (hF _ (by omega))⟩
 ·refine QM (hF _ (by omega)) j4 rfl (by simp[hs]) (by simp;omega) q5 fun i r' hr=> ?_
  rw[p0,m4] at hr
  obtain⟨p,hr,rfl⟩:=hr
  obtain⟨e1,e2⟩:=getD_some hr
  obtain⟨r,k1,k2⟩:=j6 i (by omega)
  rw[show aL s i=p from e1] at k2
  exact⟨rfl,r,by rw[Y4];exact k1,k2.VI (hF _ (by omega)) (hF _ (by omega))⟩
theorem alY {r' r:List D1} {n id:Nat} {o:bA} (hF:F id) (ho:H id=some o) (hn:o.n=n) (hr:o.rows[0]?=some r) (h:VK H F r' r):Frz H F (.fQ r') (.ptr n id 0 0):=
 .ptr r' n id 0 0 o r (fun j=>(r[j]?).getD .dead) hF ho hn hr (fun j d hd=>by obtain⟨e,h1,_⟩:=h.2 j d hd;rw[Y4];simp[h1]) (fun j d hd=>by obtain⟨e,h1,h2⟩:=h.2 j d hd;simpa [h1] using h2)
theorem Rep.ar5 {X:Nat→Prop} {nx i0:Nat} {nm:Nat→Nat} {s:CSt} (h:Rep X H nx i0 nm s) (hp:s.bM.length=3) (hs:s.dD.length=4):CvD H (fun _=>True) id 0 (.one (.c (.fQ (eI s)))) (.one (.c (.ptr 5 i0 0 0))):=by
 obtain⟨cells,h1,h2⟩:=h.st
 exact .frz (alY trivial h1 rfl rfl (h2.VI (fun _ _=>trivial) hp hs))
end
end Go.AM
