/- Texts laid together by a program: rules, contracts and the walk that leads to the law. -/
import Derived.Test.YtegiblhkjfiooaaGreatPk13
import Derived.Test.YtegiblhkjfiooaaGreatPk11
set_option linter.unusedVariables false
set_option linter.unusedSimpArgs false
set_option linter.unusedSectionVars false
section
namespace Go.AM
theorem V1 {l:List Job} (h:(l.map key).Nodup) {a b:Job} (ha:a∈l) (hb:b∈l) (he:key a=key b):a=b:=by
 induction l with
 |nil=>simp at ha
 |cons x l ih=>
  rw[List.map_cons,List.nodup_cons] at h
  rcases List.mem_cons.1 ha with e1|h1
  ·rcases List.mem_cons.1 hb with e2|h2
   ·rw[e1,e2]
   ·exact absurd (List.mem_map.2 ⟨b,h2,by rw[←he,e1]⟩) h.1
  ·rcases List.mem_cons.1 hb with e2|h2
   ·exact absurd (List.mem_map.2 ⟨a,h1,by rw[he,e2]⟩) h.1
   ·exact ih h.2 h1 h2
theorem dD {s s':CSt} {who:Nat} {p:fV} (h:s'.bS=s.bS.set who p) (hw:who<s.bS.length) (k:Nat):aS s' k=if k=who then p else aS s k:=by
 unfold aS;rw[h,BV hw]
theorem fH {s s':CSt} {st:Nat} {v:sC} (h:s'.eL=s.eL.set st v) (hw:st<s.eL.length) (k:Nat):bA s' k=if k=st then v else bA s k:=by
 unfold bA;rw[h,BV hw]
theorem afR {c:Cfg} {s:CSt} (hb:aY c) (h:COk c s) {m:Mic} (hg:M8 c s m):dZ (bH c s m)=runM c (dZ s) (zY s m):=by
 have hpl:=h.pl
 have hsl:=h.sl
 have hwhy:=X3 h hg
 cases m with
 |tick st=>
  obtain⟨h1,h2,h3⟩:=hg
  have hS:=fun k=>fH (s:=s) (s':=bH c s (.tick st)) rfl (by omega:st<s.eL.length) k
  have hP: ∀k,aS (bH c s (.tick st)) k=aS s k:=fun k=>rfl
  have hq: ∀k,iL (bH c s (.tick st)) k=iL s k:=fun k=>by
   unfold iL
   rw[hS]
   split
   ·rename_i hk;subst hk
    rw[jQ h2]
    simp[dU]
   ·rfl
  have hd: ∀k,(bA (bH c s (.tick st)) k).done=(bA s k).done:=fun k=>by
   rw[hS]
   split
   ·rename_i hk;subst hk;rfl
   ·rfl
  have hl:(bH c s (.tick st)).eL.length=s.eL.length:=by simp[bH]
  simp only[zY,runM,List.foldl_nil,dZ,TSt.mk.injEq]
  refine⟨rfl,rfl,rfl,?_,?_,rfl⟩
  ·congr 1
   unfold wJ
   rw[hl]
   simp only[List.flatMap_def]
   congr 2
   exact List.map_congr_left fun k _=>hq k
  ·congr 1
   unfold xW
   rw[hl]
   simp only[List.flatMap_def]
   congr 1
   exact List.map_congr_left fun k _=>hd k
 |adm who st=>
  obtain⟨h0,h1,h2,h3⟩:=hg
  have hS:=fun k=>fH (s:=s) (s':=bH c s (.adm who st)) rfl (by omega:st<s.eL.length) k
  have hP:=fun k=>dD (s:=s) (s':=bH c s (.adm who st)) rfl (by omega:who<s.bS.length) k
  have hl:(bH c s (.adm who st)).eL.length=s.eL.length:=by simp[bH]
  have hl2:(bH c s (.adm who st)).bS.length=s.bS.length:=by simp[bH]
  have hd: ∀k,(bA (bH c s (.adm who st)) k).done=(bA s k).done:=fun k=>by
   rw[hS]
   split
   ·rename_i hk;subst hk;rfl
   ·rfl
  simp only[zY,runM,List.foldl_nil,dZ,TSt.mk.injEq]
  refine⟨rfl,rfl,?_,?_,?_,rfl⟩
  ·apply List.ext_getElem (by simp[bH])
   intro i hi1 hi2
   simp only[bH,List.length_map,List.length_set] at hi1
   simp only[bH,List.getElem_map,List.getElem_set]
   split
   ·rename_i hk;subst hk;simp[aS,List.getD,hi1]
   ·rfl
  ·refine HG h.st.K8 ?_
   refine List.Perm.trans ?_ (iF _).symm
   rw[List.perm_iff_count]
   intro z
   have e1:=uP (k:=who) (n:=s.bS.length) (by omega) (f:=jR (bH c s (.adm who st))) (g:=jR s) (fun i hi=>by unfold jR;rw[hP,if_neg hi]) z
   have e2:=uP (k:=st) (n:=s.eL.length) (by omega) (f:=iL (bH c s (.adm who st))) (g:=iL s) (fun i hi=>by unfold iL;rw[hS,if_neg hi]) z
   have e3:jR (bH c s (.adm who st)) who=((aS s who).queue.drop 1).map fun n=>⟨who,n,kO⟩:=by unfold jR;rw[hP,if_pos rfl]
   have e4:jR s who=⟨who,(aS s who).queue.getD 0 default,kO⟩::((aS s who).queue.drop 1).map fun n=>⟨who,n,kO⟩:=by
    unfold jR
    conv=>lhs;rw[jQ h3.1]
    rfl
   have e5:iL (bH c s (.adm who st)) st=iL s st++[⟨who,(aS s who).queue.getD 0 default,kO⟩]:=by unfold iL;rw[hS,if_pos rfl];simp
   rw[e3,e4] at e1
   rw[e5] at e2
   unfold wJ
   rw[hl,hl2]
   simp only[List.count_append,List.count_cons,List.count_nil] at*
   omega
  ·congr 1
   unfold xW
   rw[hl]
   simp only[List.flatMap_def]
   congr 1
   exact List.map_congr_left fun k _=>hd k
 |ask who=>
  obtain⟨h0,h1,h2⟩:=hg
  have hP:=fun k=>dD (s:=s) (s':=bH c s (.ask who)) rfl (by omega:who<s.bS.length) k
  have hl2:(bH c s (.ask who)).bS.length=s.bS.length:=by simp[bH]
  have hso:=yI hb h.st (hwhy ⟨1,who,(aS s who).next⟩ (List.mem_singleton.2 rfl))
  have e0:bQ c (dZ s) ⟨1,who,(aS s who).next⟩= {dZ s with asked:=(dZ s).asked.set who ((aS s who).next+1),wait:=gL (dZ s).wait ⟨who,(aS s who).next,kO⟩}:=by simp[bQ]
  have hso1:=hso.K8
  rw[e0] at hso1
  simp only[zY]
  rw[u0,e0]
  simp only[runM,List.foldl_nil,dZ,TSt.mk.injEq]
  refine⟨rfl,rfl,?_,?_,rfl,rfl⟩
  ·simp[bH,List.map_set]
  ·refine HG hso1 ?_
   refine List.Perm.trans ?_ ((kT _ _).trans ((iF _).cons _)).symm
   rw[List.perm_iff_count]
   intro z
   have e1:=uP (k:=who) (n:=s.bS.length) (by omega) (f:=jR (bH c s (.ask who))) (g:=jR s) (fun i hi=>by unfold jR;rw[hP,if_neg hi]) z
   have e3:jR (bH c s (.ask who)) who=jR s who++[⟨who,(aS s who).next,kO⟩]:=by unfold jR;rw[hP,if_pos rfl];simp
   have e6:(List.range (bH c s (.ask who)).eL.length).flatMap (iL (bH c s (.ask who)))=(List.range s.eL.length).flatMap (iL s):=rfl
   rw[e3] at e1
   unfold wJ
   rw[hl2,e6]
   simp only[List.count_append,List.count_cons,List.count_nil] at*
   omega
 |work st=>
  obtain⟨h1,h2,h3,h4⟩:=hg
  have hS:=fun k=>fH (s:=s) (s':=bH c s (.work st)) rfl (by omega:st<s.eL.length) k
  have hl:(bH c s (.work st)).eL.length=s.eL.length:=by simp[bH]
  have hw:=hwhy ⟨2,(dU s st).who,(dU s st).n⟩ (List.mem_singleton.2 rfl)
  have hso:=yI hb h.st hw
  have hz:=(oG hw).2
  have hin: ¬aW (bV (dU s st).who (dU s st).n) (dZ s).wait<0:=by
   rcases hz with⟨hk,_⟩|⟨hk,hi⟩|⟨hk,_⟩
   ·exact absurd hk (by dsimp only;decide)
   ·exact hi
   ·exact absurd hk (by dsimp only;decide)
  obtain⟨hi1,hi2⟩:=cU hin
  have e0:bQ c (dZ s) ⟨2,(dU s st).who,(dU s st).n⟩= {dZ s with words:=(JK c s st).1.1,holds:=(JK c s st).1.2,wait:=iJ (dZ s).wait (aW (bV (dU s st).who (dU s st).n) (dZ s).wait).toNat,done:=gL (dZ s).done ⟨(dU s st).who,(dU s st).n,(JK c s st).2⟩}:=by
   simp only[bQ,JK,dZ,if_true,if_false,Int.reduceEq]
  have hso1:=hso.K8
  have hso2:=hso.KZ
  rw[e0] at hso1 hso2
  simp only[zY]
  rw[u0,e0]
  simp only[runM,List.foldl_nil]
  have hjob:(dZ s).wait.getD (aW (bV (dU s st).who (dU s st).n) (dZ s).wait).toNat default=⟨(dU s st).who,(dU s st).n,kO⟩:=by
   have hm:=cY hi1
   have hr:=h.st.TM _ hm
   generalize (dZ s).wait.getD (aW (bV (dU s st).who (dU s st).n) (dZ s).wait).toNat default=x at hi2 hr
   obtain⟨x1,x2,x3⟩:=x
   simp only[key,Prod.mk.injEq] at hi2
   dsimp only at hr
   rw[hi2.1,hi2.2,hr]
  have hperm:=mD hi1
  rw[hjob] at hperm
  have hW:kH (wJ (bH c s (.work st)))=iJ (dZ s).wait (aW (bV (dU s st).who (dU s st).n) (dZ s).wait).toNat:=by
   refine HG hso1 ?_
   refine List.Perm.cons_inv (a:=⟨(dU s st).who,(dU s st).n,kO⟩) ?_
   refine List.Perm.trans ?_ ((iF _).symm.trans hperm)
   rw[List.perm_iff_count]
   intro z
   have e2:=uP (k:=st) (n:=s.eL.length) (by omega) (f:=iL (bH c s (.work st))) (g:=iL s) (fun i hi=>by unfold iL;rw[hS,if_neg hi]) z
   have e5:iL s st=⟨(dU s st).who,(dU s st).n,kO⟩::iL (bH c s (.work st)) st:=by
    unfold iL;rw[hS,if_pos rfl]
    conv=>lhs;rw[jQ h2]
    rfl
   have e6:(List.range (bH c s (.work st)).bS.length).flatMap (jR (bH c s (.work st)))=(List.range s.bS.length).flatMap (jR s):=rfl
   rw[e5] at e2
   unfold wJ
   rw[hl,e6]
   simp only[List.count_append,List.count_cons,List.count_nil] at*
   omega
  have hD:kH (xW (bH c s (.work st)))=gL (dZ s).done ⟨(dU s st).who,(dU s st).n,(JK c s st).2⟩:=by
   refine HG hso2 ?_
   refine List.Perm.trans ?_ ((kT _ _).trans ((iF _).cons _)).symm
   rw[List.perm_iff_count]
   intro z
   have e2:=uP (k:=st) (n:=s.eL.length) (by omega) (f:=fun k=>(bA (bH c s (.work st)) k).done) (g:=fun k=>(bA s k).done) (fun i hi=>by rw[hS,if_neg hi]) z
   have e5:(bA (bH c s (.work st)) st).done=(bA s st).done++[⟨(dU s st).who,(dU s st).n,(JK c s st).2⟩]:=by rw[hS,if_pos rfl]
   rw[e5] at e2
   unfold xW
   rw[hl]
   simp only[List.count_append,List.count_cons,List.count_nil] at*
   omega
  show TSt.mk _ _ _ (kH (wJ (bH c s (.work st)))) (kH (xW (bH c s (.work st)))) _=_
  rw[hW,hD]
  rfl
 |tell who st=>
  obtain⟨h0,h1,h2,h3⟩:=hg
  have h3':(l9 s st).who=who:=h3
  have hS:=fun k=>fH (s:=s) (s':=bH c s (.tell who st)) rfl (by omega:st<s.eL.length) k
  have hP:=fun k=>dD (s:=s) (s':=bH c s (.tell who st)) rfl (by omega:who<s.bS.length) k
  have hl:(bH c s (.tell who st)).eL.length=s.eL.length:=by simp[bH]
  have hl2:(bH c s (.tell who st)).bS.length=s.bS.length:=by simp[bH]
  have hw:=hwhy ⟨3,who,(l9 s st).n⟩ (List.mem_singleton.2 rfl)
  have hso:=yI hb h.st hw
  have hz:=(oG hw).2
  have hin: ¬aW (bV who (l9 s st).n) (dZ s).done<0:=by
   rcases hz with⟨hk,_⟩|⟨hk,hi⟩|⟨hk,hi⟩
   ·exact absurd hk (by dsimp only;decide)
   ·exact absurd hk (by dsimp only;decide)
   ·exact hi
  obtain⟨hi1,hi2⟩:=cU hin
  have e0:bQ c (dZ s) ⟨3,who,(l9 s st).n⟩= {dZ s with told:=(dZ s).told++[(dZ s).done.getD (aW (bV who (l9 s st).n) (dZ s).done).toNat default],done:=iJ (dZ s).done (aW (bV who (l9 s st).n) (dZ s).done).toNat}:=by
   simp only[bQ,if_false,Int.reduceEq]
  have hso2:=hso.KZ
  rw[e0] at hso2
  simp only[zY]
  rw[u0,e0]
  simp only[runM,List.foldl_nil]
  have hjob:(dZ s).done.getD (aW (bV who (l9 s st).n) (dZ s).done).toNat default=l9 s st:=by
   refine V1 (z8 h.st.KZ) (cY hi1) (CV.2 (NZ.2 ⟨st,by omega,cY h2⟩)) ?_
   rw[hi2];simp[key,h3']
  have hperm:=mD hi1
  rw[hjob] at hperm
  have hW:kH (wJ (bH c s (.tell who st)))=(dZ s).wait:=by
   show kH _=kH _
   congr 1
   unfold wJ
   rw[hl,hl2]
   simp only[List.flatMap_def]
   congr 2
   ·exact List.map_congr_left fun k _=>by
     unfold jR;rw[hP];split
     ·rename_i hk;subst hk;rfl
     ·rfl
   ·exact List.map_congr_left fun k _=>by
     unfold iL;rw[hS];split
     ·rename_i hk;subst hk;rfl
     ·rfl
  have hD:kH (xW (bH c s (.tell who st)))=iJ (dZ s).done (aW (bV who (l9 s st).n) (dZ s).done).toNat:=by
   refine HG hso2 ?_
   refine List.Perm.cons_inv (a:=l9 s st) ?_
   refine List.Perm.trans ?_ ((iF _).symm.trans hperm)
   rw[List.perm_iff_count]
   intro z
   have e2:=uP (k:=st) (n:=s.eL.length) (by omega) (f:=fun k=>(bA (bH c s (.tell who st)) k).done) (g:=fun k=>(bA s k).done) (fun i hi=>by rw[hS,if_neg hi]) z
   have e5:(bA s st).done=l9 s st::(bA (bH c s (.tell who st)) st).done:=by
    rw[hS,if_pos rfl]
    exact jQ h2
   rw[e5] at e2
   unfold xW
   rw[hl]
   simp only[List.count_append,List.count_cons,List.count_nil] at*
   omega
  have hA:(bH c s (.tell who st)).bS.map (·.next)=s.bS.map (·.next):=by
   apply List.ext_getElem (by simp[bH])
   intro i hi1 hi2
   simp only[bH,List.length_map,List.length_set] at hi1
   simp only[bH,List.getElem_map,List.getElem_set]
   split
   ·rename_i hk;subst hk;simp[aS,List.getD,hi1]
   ·rfl
  show TSt.mk _ _ ((bH c s (.tell who st)).bS.map (·.next)) (kH (wJ (bH c s (.tell who st)))) (kH (xW (bH c s (.tell who st)))) (s.told++[l9 s st])=_
  rw[hW,hD,hA,hjob]
  rfl
end Go.AM
end
section
namespace Go.AM
theorem W2 {α:Type} [Inhabited α] {l:List α} {k:Nat} (h:k<l.length):l.Perm (l.getD k default::DL l k):=by
 have e:l=l.take k++l.getD k default::l.drop (k+1):=by
  have:l.getD k default=l[k]:=by simp[List.getD,h]
  rw[this,←List.drop_eq_getElem_cons h,List.take_append_drop]
 conv=>lhs;rw[e]
 exact List.perm_middle
theorem am8 {α:Type} {l:List α} {k:Nat}:(DL l k).Sublist l:=by
 unfold DL
 have h:=(List.Sublist.refl (l.take k)).append (List.drop_sublist_drop_left l (Nat.le_succ k))
 rwa [List.take_append_drop] at h
theorem TI {α:Type} [Inhabited α] {l:List α} {k:Nat} (h:k<l.length):(DL l k).length+1=l.length:=by
 have:=(W2 h).length_eq
 simp at this;omega
theorem alM {α:Type} [Inhabited α] {p:α→Bool} {l:List α} (h:0≤aW p l):(aW p l).toNat<l.length∧p (l.getD (aW p l).toNat default)=true:=by
 have h1:=QA (p:=p) (l:=l)
 refine⟨by omega,?_⟩
 unfold aW at*
 split at h
 ·rename_i i hi
  have:=List.findIdx?_eq_some_iff_getElem.1 hi
  obtain⟨q1,q2,_⟩:=this
  simpa [List.getD,q1] using q2
 ·omega
theorem QB {l:List iB} {n:Int} (h: ∃j∈l,j.n=n):(aW (isC n) l).toNat<l.length∧(l.getD (aW (isC n) l).toNat default).n=n:=by
 obtain⟨j,hj,hn⟩:=h
 have h1:0≤aW (isC n) l:=cL.2 ⟨j,hj,by simp[isC,hn]⟩
 obtain⟨q1,q2⟩:=alM h1
 exact⟨q1,by simpa [isC] using q2⟩
theorem amA {l:List iB} {n:Int} (h: ∃j∈l,j.n=n):(YP l n).length+1=l.length:=TI (QB h).1
theorem anB {l:List iB} {n:Int} (h: ∃j∈l,j.n=n) {x:iB} (hx:x∈l) (hn:x.n≠n):x∈YP l n:=by
 obtain⟨h1,h2⟩:=QB h
 have:=(W2 h1).mem_iff.1 hx
 rcases List.mem_cons.1 this with rfl|hm
 ·exact absurd h2 hn
 ·exact hm
theorem R5 {l:List iB} {n:Int}:(YP l n).Sublist l:=am8
theorem TV {α:Type} [Inhabited α] {l:List α} {i:Nat}:(l.drop 1).getD i default=l.getD (i+1) default:=by
 cases l with
 |nil=>simp
 |cons x l=>simp
theorem V8 {α:Type} [Inhabited α] {l:List α} {x:α} {i:Nat}:(l++[x]).getD i default=if i=l.length then x else l.getD i default:=by
 simp only[List.getD,List.getElem?_append]
 split
 ·rw[if_neg (by omega)]
 ·split
  ·rename_i h;subst h;simp
  ·rename_i h1 h2
   rw[List.getElem?_eq_none (by simp;omega),List.getElem?_eq_none (by omega)]
theorem aaS {l:List iB} (h:l.Pairwise fun a b=>a.n<b.n) {a b:iB} (ha:a∈l) (hb:b∈l) (he:a.n=b.n):a=b:=by
 induction l with
 |nil=>simp at ha
 |cons x l ih=>
  rw[List.pairwise_cons] at h
  rcases List.mem_cons.1 ha with e1|h1
  ·rcases List.mem_cons.1 hb with e2|h2
   ·rw[e1,e2]
   ·have:=h.1 b h2;rw[e1] at he;omega
  ·rcases List.mem_cons.1 hb with e2|h2
   ·have:=h.1 a h1;rw[e2] at he;omega
   ·exact ih h.2 h1 h2
theorem ae6 {c:Cfg} (hb:aY c) {st:Nat} (h:st<4):0≤c.lat.getD st default∧c.lat.getD st default≤3:=ak4 hb.2.2.1 (by have:=hb.2.1;omega)
theorem COk.af0 {c:Cfg} {s:CSt} (h:COk c s) {st:Nat} (hs:st<4) (hd:0<(bA s st).done.length): ∃j∈(aS s (l9 s st).who.toNat).out,j.n=(l9 s st).n∧j.left=st:=
 ((h.slv st hs).out _ (YD (cY hd))).2
theorem ZY.yF {c:Cfg} {s s':CSt} {st:Nat} (h:ZY c s st) (he:bA s' st=bA s st) (ho: ∀x∈gE (bA s st),∀j∈(aS s x.1.toNat).out,j.n=x.2→j.left=st→j∈(aS s' x.1.toNat).out):ZY c s' st:=by
 refine⟨by rw[he];exact h.pl,by rw[he];exact h.dl,by rw[he];exact h.last,by rw[he];exact h.inc,fun x hx=> ?_,by rw[he];exact h.rsp,by rw[he];exact h.left⟩
 rw[he] at hx
 obtain⟨q1,j,q2,q3,q4⟩:=h.out x hx
 exact⟨q1,j,ho x hx j q2 q3 q4,q3,q4⟩
theorem nT.tell {c:Cfg} {who:Nat} {p:fV} (h:nT c who p) {n:Int} {st:Nat} (hs:st<4):nT c who {p with out:=YP p.out n,last:=st}:=by
 have hm: ∀j∈YP p.out n,j∈p.out:=fun j hj=>R5.subset hj
 exact⟨h.next,h.ql,Nat.le_trans R5.length_le h.ol,by dsimp only;omega,h.queue,fun j hj=>h.out j (hm j hj),h.ajI.sublist R5,fun a ha b hb=>h.am9 a (hm a ha) b (hm b hb)⟩
theorem nT.adm {c:Cfg} {who:Nat} {p:fV} (h:nT c who p) {st:Nat} (h1:0<p.queue.length) (h2:p.out.length<4) (h3:y4 c.map (bF c who (p.queue.getD 0 default))=st)
 (h4: ∀j∈p.out,(bF c who j.n).id=(bF c who (p.queue.getD 0 default)).id→j.left=st):nT c who {p with queue:=p.queue.drop 1,out:=p.out++[⟨who,p.queue.getD 0 default,st⟩]}:=by
 have hq0:=h.queue 0 h1
 have hn:=h.next
 have hql:=h.ql
 have hl:(p.queue.drop 1).length=p.queue.length-1:=by simp
 refine⟨hn,by dsimp only;omega,by simp;omega,h.last,fun i hi=> ?_,fun j hj=> ?_,?_,fun a ha b hb hab=> ?_⟩
 ·dsimp only at hi ⊢
  rw[TV,h.queue (i+1) (by omega)];omega
 ·dsimp only at hj ⊢
  rcases List.mem_append.1 hj with hj|hj
  ·have:=h.out j hj
   exact⟨this.1,by omega,this.2.2⟩
  ·simp only[List.mem_singleton] at hj
   subst hj
   exact⟨rfl,by dsimp only;omega,h3.symm⟩
 ·dsimp only
  rw[List.pairwise_append]
  refine⟨h.ajI,by simp,fun a ha b hb=> ?_⟩
  simp only[List.mem_singleton] at hb
  subst hb
  have:=(h.out a ha).2.1
  dsimp only;omega
 ·dsimp only at ha hb
  rcases List.mem_append.1 ha with ha|ha<;>rcases List.mem_append.1 hb with hb|hb
  ·exact h.am9 a ha b hb hab
  ·simp only[List.mem_singleton] at hb;subst hb;exact h4 a ha hab
  ·simp only[List.mem_singleton] at ha;subst ha;exact(h4 b hb hab.symm).symm
  ·simp only[List.mem_singleton] at ha hb;subst ha;subst hb;rfl
theorem nT.ask {c:Cfg} {who:Nat} {p:fV} (h:nT c who p) (h1:p.queue.length<2) (h2:p.next<(c.dG.getD who default).length):nT c who {p with queue:=p.queue++[p.next],next:=p.next+1}:=by
 have hn:=h.next
 have hql:=h.ql
 refine⟨by dsimp only;omega,by simp;omega,h.ol,h.last,fun i hi=> ?_,fun j hj=> ?_,h.ajI,h.am9⟩
 ·simp only[List.length_append,List.length_singleton] at hi ⊢
  rw[V8]
  split
  ·omega
  ·rw[h.queue i (by omega)];omega
 ·have:=h.out j hj
  refine⟨this.1,?_,this.2.2⟩
  simp only[List.length_append,List.length_singleton];omega
theorem am4 {c:Cfg} {s:CSt} (hb:aY c) (h:COk c s) {m:Mic} (hg:M8 c s m):rL c (dZ (bH c s m)):=by
 rw[afR hb h hg]
 have hw:=X3 h hg
 cases m with
 |tick st=>exact h.st
 |adm who st=>exact h.st
 |tell who st=>exact yI hb h.st (hw ⟨3,who,(l9 s st).n⟩ (List.mem_singleton.2 rfl))
 |work st=>exact yI hb h.st (hw ⟨2,(dU s st).who,(dU s st).n⟩ (List.mem_singleton.2 rfl))
 |ask who=>exact yI hb h.st (hw ⟨1,who,(aS s who).next⟩ (List.mem_singleton.2 rfl))
theorem aa8 {c:Cfg} {s:CSt} {m:Mic}:(bH c s m).bS.length=s.bS.length∧(bH c s m).eL.length=s.eL.length:=by
 cases m<;>simp[bH]
theorem al9 {c:Cfg} {s:CSt} (h:COk c s) {m:Mic} (hg:M8 c s m): ∀k,k<3→nT c k (aS (bH c s m) k):=by
 have hpl:=h.pl
 intro k hk
 have hp:=h.port k hk
 cases m with
 |tick st=>exact hp
 |work st=>exact hp
 |tell who st=>
  obtain⟨h0,h1,h2,h3⟩:=hg
  rw[dD (s:=s) (s':=bH c s (.tell who st)) rfl (by omega)]
  split
  ·rename_i e;subst e;exact hp.tell h1
  ·exact hp
 |adm who st=>
  obtain⟨h0,h1,h2,h3,h4,h5,h6⟩:=hg
  rw[dD (s:=s) (s':=bH c s (.adm who st)) rfl (by omega)]
  split
  ·rename_i e;subst e;exact hp.adm h3 h4 h5 h6
  ·exact hp
 |ask who=>
  obtain⟨h0,h1,h2⟩:=hg
  rw[dD (s:=s) (s':=bH c s (.ask who)) rfl (by omega)]
  split
  ·rename_i e;subst e;exact hp.ask h1 h2
  ·exact hp
theorem anK {c:Cfg} {s:CSt} (hb:aY c) (h:COk c s) {m:Mic} (hg:M8 c s m): ∀k,k<4→ZY c (bH c s m) k:=by
 have hpl:=h.pl
 have hsl:=h.sl
 intro k hk
 have hv:=h.slv k hk
 cases m with
 |ask who=>
  obtain⟨h0,h1,h2⟩:=hg
  refine hv.yF rfl fun x hx j hj _ _=> ?_
  rw[dD (s:=s) (s':=bH c s (.ask who)) rfl (by omega)]
  split
  ·rename_i e;rw[e] at hj;exact hj
  ·exact hj
 |tick st=>
  obtain⟨h1,h2,h3⟩:=hg
  have hS:=fH (s:=s) (s':=bH c s (.tick st)) rfl (by omega:st<s.eL.length) k
  by_cases e:k=st
  ·subst e
   rw[if_pos rfl] at hS
   have hl0:=hv.left 0 h2
   have hk2:gE (bA (bH c s (.tick k)) k)=gE (bA s k):=by
    rw[hS];unfold gE;dsimp only
    congr 1
    conv=>rhs;rw[jQ h2]
    conv=>lhs;rw[jQ h2]
    rfl
   refine⟨by rw[hS];simpa using hv.pl,by rw[hS];exact hv.dl,by rw[hS];exact hv.last,by rw[hk2];exact hv.inc,fun x hx=> ?_,by rw[hS];exact hv.rsp,?_⟩
   ·rw[hk2] at hx;exact hv.out x hx
   ·rw[hS]
    simp only[List.length_set]
    intro i hi
    rw[BV h2]
    split
    ·rename_i e;subst e
     dsimp only
     unfold dU
     exact⟨by omega,fun hc=>absurd hc (by omega)⟩
    ·exact hv.left i hi
  ·rw[if_neg e] at hS
   exact hv.yF hS fun x hx j hj _ _=>hj
 |work st=>
  obtain⟨h1,h2,h3,h4⟩:=hg
  have hS:=fH (s:=s) (s':=bH c s (.work st)) rfl (by omega:st<s.eL.length) k
  by_cases e:k=st
  ·subst e
   rw[if_pos rfl] at hS
   have hk2:gE (bA (bH c s (.work k)) k)=gE (bA s k):=by
    rw[hS];unfold gE;dsimp only
    conv=>rhs;rw[jQ h2]
    simp[key,dU]
   have hm:((dU s k).who,(dU s k).n)∈gE (bA s k):=S0 (cY h2)
   obtain⟨q1,q2,q3⟩:=h.vIn h1 hm
   dsimp only at q1 q2 q3
   refine⟨by rw[hS];have:=hv.pl;simp;omega,by rw[hS];simp;omega,by rw[hS];exact hv.last,by rw[hk2];exact hv.inc,fun x hx=> ?_,?_,?_⟩
   ·rw[hk2] at hx;exact hv.out x hx
   ·rw[hS]
    intro j hj
    rcases List.mem_append.1 hj with hj|hj
    ·exact hv.rsp j hj
    ·simp only[List.mem_singleton] at hj
     subst hj
     have hp:=h.port (dU s k).who.toNat (by omega)
     have hask:hT c (dU s k).who (dU s k).n:=by
      have:=hp.asks (n:=(dU s k).n) (by omega) q2 (by have:=hp.ql;omega)
      have e1:(((dU s k).who.toNat:Nat):Int)=(dU s k).who:=by omega
      rwa [e1] at this
     exact af1 h.atm.wr (L7 hb hask)
   ·rw[hS]
    simp only[List.length_drop]
    intro i hi
    rw[TV]
    have:=hv.left (i+1) (by omega)
    rw[this.2 (by omega)]
    have:=ae6 hb h1
    exact⟨by omega,fun _=>rfl⟩
  ·rw[if_neg e] at hS
   exact hv.yF hS fun x hx j hj _ _=>hj
 |adm who st=>
  obtain⟨h0,h1,h2,h3,h4,h5,h6⟩:=hg
  have hS:=fH (s:=s) (s':=bH c s (.adm who st)) rfl (by omega:st<s.eL.length) k
  have hP:=fun w=>dD (s:=s) (s':=bH c s (.adm who st)) rfl (by omega:who<s.bS.length) w
  have hsub: ∀w,∀j∈(aS s w).out,j∈(aS (bH c s (.adm who st)) w).out:=fun w j hj=>by
   rw[hP]
   split
   ·rename_i e;subst e;exact List.mem_append_left _ hj
   ·exact hj
  by_cases e:k=st
  ·subst e
   rw[if_pos rfl] at hS
   have hk2:gE (bA (bH c s (.adm who k)) k)=gE (bA s k)++[((who:Int),(aS s who).queue.getD 0 default)]:=by
    rw[hS];unfold gE;simp
   have hq0:=(h.port who h0).queue 0 h3
   refine⟨by rw[hS];simp;omega,by rw[hS];exact hv.dl,by rw[hS];dsimp only;omega,?_,fun x hx=> ?_,by rw[hS];exact hv.rsp,?_⟩
   ·rw[hk2,List.pairwise_append]
    refine⟨hv.inc,by simp,fun a ha b hb' hab=> ?_⟩
    simp only[List.mem_singleton] at hb'
    subst hb'
    dsimp only at hab ⊢
    have:=(h.vIn h1 ha).2.2
    have e:a.1.toNat=who:=by omega
    rw[e] at this
    omega
   ·rw[hk2] at hx
    rcases List.mem_append.1 hx with hx|hx
    ·obtain⟨q1,j,q2,q3⟩:=hv.out x hx
     exact⟨q1,j,hsub _ j q2,q3⟩
    ·simp only[List.mem_singleton] at hx
     subst hx
     refine⟨by dsimp only;omega,⟨who,(aS s who).queue.getD 0 default,k⟩,?_,rfl,rfl⟩
     rw[hP,if_pos (by simp)]
     simp
   ·rw[hS]
    simp only[List.length_append,List.length_singleton]
    intro i hi
    rw[V8]
    have:=ae6 hb h1
    split
    ·exact⟨by dsimp only;omega,fun _=>rfl⟩
    ·exact hv.left i (by omega)
  ·rw[if_neg e] at hS
   exact hv.yF hS fun x hx j hj _ _=>hsub _ j hj
 |tell who st=>
  obtain⟨h0,h1,h2,h3⟩:=hg
  have h3':(l9 s st).who=who:=h3
  have hS:=fH (s:=s) (s':=bH c s (.tell who st)) rfl (by omega:st<s.eL.length) k
  have hP:=fun w=>dD (s:=s) (s':=bH c s (.tell who st)) rfl (by omega:who<s.bS.length) w
  obtain⟨jh,g1,g2,g3⟩:=h.af0 h1 h2
  have ew:(l9 s st).who.toNat=who:=by omega
  rw[ew] at g1
  have hex: ∃j∈(aS s who).out,j.n=(l9 s st).n:=⟨jh,g1,g2⟩
  have hsub: ∀w,∀j∈(aS s w).out,(w=who→j.n≠(l9 s st).n)→j∈(aS (bH c s (.tell who st)) w).out:=fun w j hj hne=>by
   rw[hP]
   split
   ·rename_i e;subst e;exact anB hex hj (hne rfl)
   ·exact hj
  have hcons:gE (bA s st)=key (l9 s st)::(((bA s st).done.drop 1).map key++(bA s st).pipe.map fun j=>(j.who,j.n)):=by
   unfold gE
   conv=>lhs;rw[jQ h2]
   rfl
  by_cases e:k=st
  ·subst e
   rw[if_pos rfl] at hS
   have hk2:gE (bA (bH c s (.tell who k)) k)=((bA s k).done.drop 1).map key++(bA s k).pipe.map fun j=>(j.who,j.n):=by
    rw[hS];rfl
   have hinc:=hv.inc
   rw[hcons,List.pairwise_cons] at hinc
   refine⟨by rw[hS];exact hv.pl,by rw[hS];have:=hv.dl;simp;omega,by rw[hS];exact hv.last,by rw[hk2];exact hinc.2,fun x hx=> ?_,?_,by rw[hS];exact hv.left⟩
   ·rw[hk2] at hx
    obtain⟨q1,j,q2,q3,q4⟩:=hv.out x (by rw[hcons];exact List.mem_cons_of_mem _ hx)
    refine⟨q1,j,hsub _ j q2 fun he hn=> ?_,q3,q4⟩
    have:=hinc.1 x hx (by simp only[key];omega)
    simp only[key] at this
    omega
   ·rw[hS]
    exact fun j hj=>hv.rsp j (List.mem_of_mem_drop hj)
  ·rw[if_neg e] at hS
   refine hv.yF hS fun x hx j hj hn hl=>hsub _ j hj fun he hne=> ?_
   subst he
   have hp:=h.port x.1.toNat h0
   have hu:jh=j:=by
    exact aaS hp.ajI g1 hj (by omega)
   subst hu
   omega
theorem aaL {f g:Nat→Nat} {who:Nat} (h:who<3) (hfg: ∀i,i≠who→f i=g i):f 0+f 1+f 2+g who=g 0+g 1+g 2+f who:=by
 have:who=0∨who=1∨who=2:=by omega
 rcases this with rfl|rfl|rfl
 ·have:=hfg 1 (by omega);have:=hfg 2 (by omega);omega
 ·have:=hfg 0 (by omega);have:=hfg 2 (by omega);omega
 ·have:=hfg 0 (by omega);have:=hfg 1 (by omega);omega
theorem abP {f g:Nat→Nat} {st:Nat} (h:st<4) (hfg: ∀i,i≠st→f i=g i):f 0+f 1+f 2+f 3+g st=g 0+g 1+g 2+g 3+f st:=by
 have:st=0∨st=1∨st=2∨st=3:=by omega
 rcases this with rfl|rfl|rfl|rfl
 ·have:=hfg 1 (by omega);have:=hfg 2 (by omega);have:=hfg 3 (by omega);omega
 ·have:=hfg 0 (by omega);have:=hfg 2 (by omega);have:=hfg 3 (by omega);omega
 ·have:=hfg 0 (by omega);have:=hfg 1 (by omega);have:=hfg 3 (by omega);omega
 ·have:=hfg 0 (by omega);have:=hfg 1 (by omega);have:=hfg 2 (by omega);omega
theorem ajF {c:Cfg} {s:CSt} (h:COk c s) {m:Mic} (hg:M8 c s m):(aS (bH c s m) 0).out.length+(aS (bH c s m) 1).out.length+(aS (bH c s m) 2).out.length=kZ (bH c s m) 0+kZ (bH c s m) 1+kZ (bH c s m) 2+kZ (bH c s m) 3:=by
 have hpl:=h.pl
 have hsl:=h.sl
 have hc:=h.count
 cases m with
 |ask who=>
  obtain⟨h0,h1,h2⟩:=hg
  have hP:=fun w=>dD (s:=s) (s':=bH c s (.ask who)) rfl (by omega:who<s.bS.length) w
  have: ∀w,(aS (bH c s (.ask who)) w).out=(aS s w).out:=fun w=>by
   rw[hP];split
   ·rename_i e;subst e;rfl
   ·rfl
  rw[this,this,this];exact hc
 |tick st=>
  obtain⟨h1,h2,h3⟩:=hg
  have hS:=fun k=>fH (s:=s) (s':=bH c s (.tick st)) rfl (by omega:st<s.eL.length) k
  have: ∀k,kZ (bH c s (.tick st)) k=kZ s k:=fun k=>by
   unfold kZ;rw[hS];split
   ·rename_i e;subst e;simp
   ·rfl
  rw[this,this,this,this];exact hc
 |work st=>
  obtain⟨h1,h2,h3,h4⟩:=hg
  have hS:=fun k=>fH (s:=s) (s':=bH c s (.work st)) rfl (by omega:st<s.eL.length) k
  have: ∀k,kZ (bH c s (.work st)) k=kZ s k:=fun k=>by
   unfold kZ;rw[hS];split
   ·rename_i e;subst e;simp;omega
   ·rfl
  rw[this,this,this,this];exact hc
 |adm who st=>
  obtain⟨h0,h1,h2,h3⟩:=hg
  have hS:=fun k=>fH (s:=s) (s':=bH c s (.adm who st)) rfl (by omega:st<s.eL.length) k
  have hP:=fun w=>dD (s:=s) (s':=bH c s (.adm who st)) rfl (by omega:who<s.bS.length) w
  have e1:=aaL (f:=fun w=>(aS (bH c s (.adm who st)) w).out.length) (g:=fun w=>(aS s w).out.length) h0 fun i hi=>by rw[hP,if_neg hi]
  have e2:=abP (f:=kZ (bH c s (.adm who st))) (g:=kZ s) h1 fun i hi=>by unfold kZ;rw[hS,if_neg hi]
  have e3:(aS (bH c s (.adm who st)) who).out.length=(aS s who).out.length+1:=by rw[hP,if_pos rfl];simp
  have e4:kZ (bH c s (.adm who st)) st=kZ s st+1:=by unfold kZ;rw[hS,if_pos rfl];simp;omega
  omega
 |tell who st=>
  obtain⟨h0,h1,h2,h3⟩:=hg
  have h3':(l9 s st).who=who:=h3
  have hS:=fun k=>fH (s:=s) (s':=bH c s (.tell who st)) rfl (by omega:st<s.eL.length) k
  have hP:=fun w=>dD (s:=s) (s':=bH c s (.tell who st)) rfl (by omega:who<s.bS.length) w
  obtain⟨jh,g1,g2,g3⟩:=h.af0 h1 h2
  have ew:(l9 s st).who.toNat=who:=by omega
  rw[ew] at g1
  have e1:=aaL (f:=fun w=>(aS (bH c s (.tell who st)) w).out.length) (g:=fun w=>(aS s w).out.length) h0 fun i hi=>by rw[hP,if_neg hi]
  have e2:=abP (f:=kZ (bH c s (.tell who st))) (g:=kZ s) h1 fun i hi=>by unfold kZ;rw[hS,if_neg hi]
  have e3:(aS (bH c s (.tell who st)) who).out.length+1=(aS s who).out.length:=by rw[hP,if_pos rfl];exact amA ⟨jh,g1,g2⟩
  have e4:kZ (bH c s (.tell who st)) st+1=kZ s st:=by unfold kZ;rw[hS,if_pos rfl];simp;omega
  omega
theorem G3 {c:Cfg} {s:CSt} (hb:aY c) (h:COk c s) {m:Mic} (hg:M8 c s m):COk c (bH c s m):=
 ⟨(am4 hb h hg).atm,by rw[aa8.1];exact h.pl,by rw[aa8.2];exact h.sl,al9 h hg,anK hb h hg,ajF h hg,am4 hb h hg⟩
end Go.AM
end
section
namespace Go.AM
def AF (c:Cfg):CSt→List Mic→Prop
 |_,[]=>True
 |s,m::l=>M8 c s m∧AF c (bH c s m) l
def kU (c:Cfg) (s:CSt) (l:List Mic):CSt:=l.foldl (bH c) s
def gZ (c:Cfg):CSt→List Mic→List Ev
 |_,[]=>[]
 |s,m::l=>zY s m++gZ c (bH c s m) l
theorem uS {c:Cfg} {s:CSt} {a b:List Mic}:kU c s (a++b)=kU c (kU c s a) b:=by simp[kU]
theorem H6 {c:Cfg}: ∀{a b:List Mic} {s:CSt},AF c s (a++b)↔AF c s a∧AF c (kU c s a) b
 | [],b,s=>by simp[AF,kU]
 |m::a,b,s=>by
  have:=H6 (c:=c) (a:=a) (b:=b) (s:=bH c s m)
  simp only[List.cons_append,AF,this,and_assoc]
  rfl
theorem HV {c:Cfg}: ∀{a b:List Mic} {s:CSt},gZ c s (a++b)=gZ c s a++gZ c (kU c s a) b
 | [],b,s=>by simp[gZ,kU]
 |m::a,b,s=>by
  have:=HV (c:=c) (a:=a) (b:=b) (s:=bH c s m)
  simp only[List.cons_append,gZ,this,List.append_assoc]
  rfl
theorem DG {c:Cfg} (hb:aY c): ∀{l:List Mic} {s:CSt},COk c s→AF c s l→COk c (kU c s l)∧dZ (kU c s l)=runM c (dZ s) (gZ c s l)∧lJ c (dZ s) (gZ c s l)
 | [],s,h,_=>⟨h,rfl,mA⟩
 |m::l,s,h,hg=>by
  obtain⟨h1,h2⟩:=hg
  obtain⟨q1,q2,q3⟩:=DG hb (l:=l) (G3 hb h h1) h2
  have ha:=afR hb h h1
  refine⟨q1,?_,?_⟩
  ·show dZ (kU c (bH c s m) l)=_
   rw[q2,ha]
   show _=runM c (dZ s) (zY s m++gZ c (bH c s m) l)
   rw[aaM]
  ·show lJ c (dZ s) (zY s m++gZ c (bH c s m) l)
   rw[V9]
   refine⟨?_,by rw[←ha];exact q3⟩
   have hw:=X3 h h1
   cases m with
   |tick st=>exact mA
   |adm who st=>exact mA
   |tell who st=>exact qF.2 ⟨hw ⟨3,who,(l9 s st).n⟩ (List.mem_singleton.2 rfl),mA⟩
   |work st=>exact qF.2 ⟨hw ⟨2,(dU s st).who,(dU s st).n⟩ (List.mem_singleton.2 rfl),mA⟩
   |ask who=>exact qF.2 ⟨hw ⟨1,who,(aS s who).next⟩ (List.mem_singleton.2 rfl),mA⟩
def GW (s:CSt) (who k:Nat):Nat:=(((aS s who).last+(k:Int))%4).toNat
def aaX (s:CSt) (who st:Nat):Bool:=decide (0<(bA s st).done.length∧((bA s st).done.getD 0 default).who=who)
def F4 (i:CIn) (s:CSt) (who:Nat):Option Mic:=if i.ready.getD who default=true then (([1,2,3,4].map (GW s who)).find? (aaX s who)).map (.tell who) else none
def CN (i:CIn) (s:CSt) (st:Nat):Option Mic:=
 if i.xX.getD st default=true∨(bA s st).pipe.length=0 then none else if 0<(dU s st).left then some (.tick st) else if (bA s st).done.length<2 then some (.work st) else none
def LC (s:CSt) (st k:Nat):Nat:=(((bA s st).last+(k:Int))%3).toNat
def TL (c:Cfg) (s:CSt) (used:List Bool) (st who:Nat):Bool:= !(used.getD who default)&&decide (UE c s who st)
def S7 (c:Cfg) (s:CSt) (used:List Bool) (st:Nat):Option Nat:=if (bA s st).pipe.length<2 then ([1,2,3].map (LC s st)).find? (TL c s used st) else none
def agG (c:Cfg) (i:CIn) (s:CSt) (who:Nat):Option Mic:=if i.send.getD who default=true∧(aS s who).queue.length<2∧(aS s who).next<(c.dG.getD who default).length then some (.ask who) else none
def as9 (c:Cfg) (s:CSt):Option Mic→CSt
 |none=>s
 |some m=>bH c s m
def D5 (c:Cfg) (f:CSt→Nat→Option Mic):CSt→List Nat→List Mic
 |_,[]=>[]
 |s,k::l=>match f s k with
  |none=>D5 c f s l
  |some m=>m::D5 c f (bH c s m) l
def RP (c:Cfg):CSt→List Bool→List Nat→List Mic
 |_,_,[]=>[]
 |s,u,st::l=>match S7 c s u st with
  |none=>RP c s u l
  |some who=>.adm who st::RP c (bH c s (.adm who st)) (u.set who true) l
def JT (c:Cfg) (i:CIn) (s:CSt):List Mic:=D5 c (F4 i) s [0,1,2]
def EZ (c:Cfg) (i:CIn) (s:CSt):List Mic:=D5 c (CN i) s [0,1,2,3]
def ab0 (c:Cfg) (s:CSt):List Mic:=RP c s [false,false,false] [0,1,2,3]
def U9 (c:Cfg) (i:CIn) (s:CSt):List Mic:=D5 c (agG c i) s [0,1,2]
def KE (c:Cfg) (i:CIn) (s:CSt):CSt:=kU c s (JT c i s)
def XX (c:Cfg) (i:CIn) (s:CSt):CSt:=kU c (KE c i s) (EZ c i (KE c i s))
def PU (c:Cfg) (i:CIn) (s:CSt):CSt:=kU c (XX c i s) (ab0 c (XX c i s))
def JY (c:Cfg) (i:CIn) (s:CSt):CSt:=kU c (PU c i s) (U9 c i (PU c i s))
def ag3 (c:Cfg) (i:CIn) (s:CSt):List Mic:=JT c i s++EZ c i (KE c i s)++ab0 c (XX c i s)++U9 c i (PU c i s)
def N6 (c:Cfg) (i:CIn) (s:CSt):List Ev:=gZ c s (ag3 c i s)
theorem af4 {c:Cfg} {i:CIn} {s:CSt}:JY c i s=kU c s (ag3 c i s):=by
 unfold ag3 JY PU XX KE
 simp only[uS]
theorem L1 {c:Cfg} (hb:aY c) {f:CSt→Nat→Option Mic}: ∀{l:List Nat} {s:CSt},COk c s→(∀s k m,COk c s→k∈l→f s k=some m→M8 c s m)→AF c s (D5 c f s l)
 | [],s,_,_=>trivial
 |k::l,s,h,hf=>by
  unfold D5
  split
  ·exact L1 hb h fun s k m hs hk hm=>hf s k m hs (List.mem_cons_of_mem _ hk) hm
  ·rename_i m hm
   have hg:=hf s k m h (by simp) hm
   exact⟨hg,L1 hb (G3 hb h hg) fun s k m hs hk hm=>hf s k m hs (List.mem_cons_of_mem _ hk) hm⟩
theorem ZV {c:Cfg} {i:CIn} {s:CSt} (_:COk c s) {who:Nat} (hw:who<3) {m:Mic} (hm:F4 i s who=some m):M8 c s m:=by
 unfold F4 at hm
 split at hm
 ·rw[Option.map_eq_some_iff] at hm
  obtain⟨st,h1,rfl⟩:=hm
  have h2:=List.find?_some h1
  have h3:=List.mem_of_find?_eq_some h1
  obtain⟨k,_,rfl⟩:=List.mem_map.1 h3
  obtain⟨q1,q2⟩:=of_decide_eq_true h2
  exact⟨hw,by unfold GW;omega,q1,q2⟩
 ·cases hm
theorem SW {c:Cfg} {i:CIn} {s:CSt} (_:COk c s) {st:Nat} (hw:st<4) {m:Mic} (hm:CN i s st=some m):M8 c s m:=by
 unfold CN at hm
 split at hm
 ·cases hm
 ·rename_i h1
  split at hm
  ·rename_i h2
   cases hm
   exact⟨hw,by omega,h2⟩
  ·rename_i h2
   split at hm
   ·rename_i h3
    cases hm
    exact⟨hw,by omega,h2,h3⟩
   ·cases hm
theorem af8 {c:Cfg} {s:CSt} {u:List Bool} {st:Nat} (hs:st<4) {who:Nat} (hm:S7 c s u st=some who):M8 c s (.adm who st):=by
 unfold S7 at hm
 split at hm
 ·rename_i h1
  have h2:=List.find?_some hm
  have h3:=List.mem_of_find?_eq_some hm
  obtain⟨k,_,rfl⟩:=List.mem_map.1 h3
  unfold TL at h2
  rw[Bool.and_eq_true] at h2
  exact⟨by unfold LC;omega,hs,h1,of_decide_eq_true h2.2⟩
 ·cases hm
theorem af7 {c:Cfg} {i:CIn} {s:CSt} (_:COk c s) {who:Nat} (hw:who<3) {m:Mic} (hm:agG c i s who=some m):M8 c s m:=by
 unfold agG at hm
 split at hm
 ·rename_i h
  cases hm
  exact⟨hw,h.2.1,h.2.2⟩
 ·cases hm
theorem XG {c:Cfg} (hb:aY c): ∀{l:List Nat} {s:CSt} {u:List Bool},COk c s→(∀k∈l,k<4)→AF c s (RP c s u l)
 | [],s,u,_,_=>trivial
 |k::l,s,u,h,hl=>by
  unfold RP
  split
  ·exact XG hb h fun k hk=>hl k (List.mem_cons_of_mem _ hk)
  ·rename_i who hm
   have hg:=af8 (hl k (by simp)) hm
   exact⟨hg,XG hb (G3 hb h hg) fun k hk=>hl k (List.mem_cons_of_mem _ hk)⟩
theorem SX {k:Nat} (h:k∈[0,1,2]):k<3:=by simp at h;omega
theorem RB {k:Nat} (h:k∈[0,1,2,3]):k<4:=by simp at h;omega
theorem ZB {c:Cfg} (hb:aY c) {i:CIn} {s:CSt} (h:COk c s):AF c s (JT c i s):=L1 hb h fun s k m hs hk hm=>ZV hs (SX hk) hm
theorem aaR {c:Cfg} (hb:aY c) {i:CIn} {s:CSt} (h:COk c s):AF c s (EZ c i s):=L1 hb h fun s k m hs hk hm=>SW hs (RB hk) hm
theorem afV {c:Cfg} (hb:aY c) {s:CSt} (h:COk c s):AF c s (ab0 c s):=XG hb h fun k hk=>RB hk
theorem ao2 {c:Cfg} (hb:aY c) {i:CIn} {s:CSt} (h:COk c s):AF c s (U9 c i s):=L1 hb h fun s k m hs hk hm=>af7 hs (SX hk) hm
theorem QI {c:Cfg} (hb:aY c) {i:CIn} {s:CSt} (h:COk c s):COk c (KE c i s):=(DG hb h (ZB hb h)).1
theorem QD {c:Cfg} (hb:aY c) {i:CIn} {s:CSt} (h:COk c s):COk c (XX c i s):=(DG hb (QI hb h) (aaR hb (QI hb h))).1
theorem afH {c:Cfg} (hb:aY c) {i:CIn} {s:CSt} (h:COk c s):COk c (PU c i s):=(DG hb (QD hb h) (afV hb (QD hb h))).1
theorem X1 {c:Cfg} (hb:aY c) {i:CIn} {s:CSt} (h:COk c s):AF c s (ag3 c i s):=by
 unfold ag3
 rw[H6,H6,H6]
 refine⟨⟨⟨ZB hb h,aaR hb (QI hb h)⟩,?_⟩,?_⟩
 ·rw[uS];exact afV hb (QD hb h)
 ·rw[uS,uS];exact ao2 hb (afH hb h)
theorem an3 {c:Cfg} (hb:aY c) {i:CIn} {s:CSt} (h:COk c s):COk c (JY c i s):=by
 rw[af4];exact(DG hb h (X1 hb h)).1
theorem apI {c:Cfg} (hb:aY c) {i:CIn} {s:CSt} (h:COk c s):dZ (JY c i s)=runM c (dZ s) (N6 c i s):=by
 rw[af4];exact(DG hb h (X1 hb h)).2.1
theorem agO {c:Cfg} (hb:aY c) {i:CIn} {s:CSt} (h:COk c s):lJ c (dZ s) (N6 c i s):=(DG hb h (X1 hb h)).2.2
def IM (c:Cfg) (s:CSt) (l:List CIn):CSt:=l.foldl (fun s i=>JY c i s) s
def gS (c:Cfg):CSt→List CIn→List Ev
 |_,[]=>[]
 |s,i::l=>N6 c i s++gS c (JY c i s) l
theorem YS {c:Cfg} (hb:aY c): ∀{l:List CIn} {s:CSt},COk c s→COk c (IM c s l)∧dZ (IM c s l)=runM c (dZ s) (gS c s l)∧lJ c (dZ s) (gS c s l)
 | [],s,h=>⟨h,rfl,mA⟩
 |i::l,s,h=>by
  obtain⟨q1,q2,q3⟩:=YS hb (l:=l) (an3 hb (i:=i) h)
  have ha:=apI hb (i:=i) h
  refine⟨q1,?_,?_⟩
  ·show dZ (IM c (JY c i s) l)=runM c (dZ s) (N6 c i s++gS c (JY c i s) l)
   rw[q2,ha,aaM]
  ·show lJ c (dZ s) (N6 c i s++gS c (JY c i s) l)
   rw[V9]
   exact⟨agO hb h,by rw[←ha];exact q3⟩
theorem ag6 {c:Cfg} {s:CSt} {i:CIn} {l:List CIn}:IM c s (i::l)=IM c (JY c i s) l:=rfl
theorem akL {c:Cfg} {s:CSt} {a b:List CIn}:IM c s (a++b)=IM c (IM c s a) b:=by simp[IM]
def OF:CSt:=⟨List.replicate 64 0,List.replicate 6 (-1),List.replicate 3 ⟨0,[],[],3⟩,List.replicate 4 ⟨[],[],2⟩,[]⟩
theorem ZS:dZ OF=st0:=by rfl
theorem WL {k:Nat} (hk:k<3):aS OF k=⟨0,[],[],3⟩:=by
 have:k=0∨k=1∨k=2:=by omega
 rcases this with rfl|rfl|rfl<;>rfl
theorem abK {k:Nat} (hk:k<4):bA OF k=⟨[],[],2⟩:=by
 have:k=0∨k=1∨k=2∨k=3:=by omega
 rcases this with rfl|rfl|rfl|rfl<;>rfl
theorem afU (c:Cfg):COk c OF:=by
 have hst:rL c (dZ OF):=by rw[ZS];exact KG c
 refine⟨hst.atm,rfl,rfl,fun k hk=> ?_,fun k hk=> ?_,rfl,hst⟩
 ·rw[WL hk]
  exact⟨by simp,by simp,by simp,by decide,fun i hi=>by simp at hi,fun j hj=>by simp at hj,List.Pairwise.nil,fun a ha=>by simp at ha⟩
 ·refine⟨?_,?_,?_,?_,?_,?_,?_⟩<;>rw[abK hk]
  ·simp
  ·simp
  ·decide
  ·exact List.Pairwise.nil
  ·intro x hx;simp[gE] at hx
  ·intro j hj;simp at hj
  ·intro i hi;simp at hi
end Go.AM
end
section
namespace Go.AM
end Go.AM
end
section
namespace Go.AM
end Go.AM
end
section
namespace Go.AM
end Go.AM
end
section
namespace Go.AM
def eCJ (j:iB):List D1:=[cI j.who,cI j.n,cI j.left]
theorem an5 {j:iB}:(eCJ j).length=3:=rfl
theorem ahL {j:iB}:(eCJ j).take 1=[cI j.who]:=rfl
theorem agN {j:iB}:(eCJ j).drop 1=[cI j.n,cI j.left]:=rfl
theorem ajL {j:iB}:(eCJ j).take 2=[cI j.who,cI j.n]:=rfl
theorem ajB {j:iB}:(eCJ j).drop 2=[cI j.left]:=rfl
theorem ah4 {j:iB}:(eCJ j).take 3=eCJ j:=rfl
theorem ai2 {j:iB}:(eCJ j).drop 3=[]:=rfl
theorem akT {j:iB} {cs:List D1} {k:Nat}:iX cs (k+1) (eCJ j)=iX cs (k+1) [cI j.who,cI j.n,cI j.left]:=rfl
theorem y6 (j:iB):(eCJ j).length=3∧(eCJ j).all D1.dT=true:=⟨rfl,rfl⟩
attribute [go_sem] an5 ahL agN ajL ajB ah4 ai2 akT
def cD (p:fV):List D1:=[cI p.next,.isl (p.queue.map aE),.isl (p.out.map eCJ),cI p.last]
theorem ahR {p:fV}:(cD p).length=4:=rfl
theorem Z0 {p:fV}:(cD p).take 1=[cI p.next]:=rfl
theorem ZO {p:fV}:(cD p).drop 1=[.isl (p.queue.map aE),.isl (p.out.map eCJ),cI p.last]:=rfl
theorem aaU {p:fV}:(cD p).take 2=[cI p.next,.isl (p.queue.map aE)]:=rfl
theorem ZA {p:fV}:(cD p).drop 2=[.isl (p.out.map eCJ),cI p.last]:=rfl
theorem abB {p:fV}:(cD p).take 3=[cI p.next,.isl (p.queue.map aE),.isl (p.out.map eCJ)]:=rfl
theorem ZX {p:fV}:(cD p).drop 3=[cI p.last]:=rfl
theorem abY {p:fV}:(cD p).take 4=cD p:=rfl
theorem abJ {p:fV}:(cD p).drop 4=[]:=rfl
theorem adH {p:fV} {cs:List D1} {k:Nat}:iX cs (k+1) (cD p)=iX cs (k+1) [cI p.next,.isl (p.queue.map aE),.isl (p.out.map eCJ),cI p.last]:=rfl
theorem wF (p:fV):(cD p).length=4∧(cD p).all D1.dT=true:=⟨rfl,rfl⟩
attribute [go_sem] ahR Z0 ZO aaU ZA abB ZX abY abJ adH
def gM (v:sC):List D1:=[.isl (v.pipe.map eCJ),.isl (v.done.map aK),cI v.last]
theorem amO {v:sC}:(gM v).length=3:=rfl
theorem ab7 {v:sC}:(gM v).take 1=[.isl (v.pipe.map eCJ)]:=rfl
theorem aeI {v:sC}:(gM v).drop 1=[.isl (v.done.map aK),cI v.last]:=rfl
theorem afG {v:sC}:(gM v).take 2=[.isl (v.pipe.map eCJ),.isl (v.done.map aK)]:=rfl
theorem acZ {v:sC}:(gM v).drop 2=[cI v.last]:=rfl
theorem ae5 {v:sC}:(gM v).take 3=gM v:=rfl
theorem adQ {v:sC}:(gM v).drop 3=[]:=rfl
theorem aiJ {v:sC} {cs:List D1} {k:Nat}:iX cs (k+1) (gM v)=iX cs (k+1) [.isl (v.pipe.map eCJ),.isl (v.done.map aK),cI v.last]:=rfl
theorem AB (v:sC):(gM v).length=3∧(gM v).all D1.dT=true:=⟨rfl,rfl⟩
attribute [go_sem] amO ab7 aeI afG acZ ae5 adQ aiJ
def lD (s:CSt):List D1:=[.isl (s.words.map aE),.isl (s.holds.map aE),.isl (s.bS.map cD),.isl (s.eL.map gM),.isl (s.told.map aK)]
theorem ajY {s:CSt}:(lD s).length=5:=rfl
theorem aeC {s:CSt}:(lD s).take 1=[.isl (s.words.map aE)]:=rfl
theorem aeS {s:CSt}:(lD s).drop 1=[.isl (s.holds.map aE),.isl (s.bS.map cD),.isl (s.eL.map gM),.isl (s.told.map aK)]:=rfl
theorem aeZ {s:CSt}:(lD s).take 2=[.isl (s.words.map aE),.isl (s.holds.map aE)]:=rfl
theorem adZ {s:CSt}:(lD s).drop 2=[.isl (s.bS.map cD),.isl (s.eL.map gM),.isl (s.told.map aK)]:=rfl
theorem aeA {s:CSt}:(lD s).take 3=[.isl (s.words.map aE),.isl (s.holds.map aE),.isl (s.bS.map cD)]:=rfl
theorem ab3 {s:CSt}:(lD s).drop 3=[.isl (s.eL.map gM),.isl (s.told.map aK)]:=rfl
theorem acM {s:CSt}:(lD s).take 4=[.isl (s.words.map aE),.isl (s.holds.map aE),.isl (s.bS.map cD),.isl (s.eL.map gM)]:=rfl
theorem adX {s:CSt}:(lD s).drop 4=[.isl (s.told.map aK)]:=rfl
theorem ae9 {s:CSt}:(lD s).take 5=lD s:=rfl
theorem acK {s:CSt}:(lD s).drop 5=[]:=rfl
theorem ai8 {s:CSt} {cs:List D1} {k:Nat}:iX cs (k+1) (lD s)=iX cs (k+1) [.isl (s.words.map aE),.isl (s.holds.map aE),.isl (s.bS.map cD),.isl (s.eL.map gM),.isl (s.told.map aK)]:=rfl
attribute [go_sem] ajY aeC aeS aeZ adZ aeA ab3 acM adX ae9 acK ai8
def iY (b:Bool):List D1:=[cB b]
theorem ah0 {b:Bool}:(iY b).length=1:=rfl
theorem abA {b:Bool}:(iY b).take 1=[cB b]:=rfl
theorem aaI {b:Bool}:(iY b).drop 1=[]:=rfl
theorem aeB {b:Bool} {cs:List D1} {k:Nat}:iX cs (k+1) (iY b)=iX cs (k+1) [cB b]:=rfl
theorem RR (b:Bool):(iY b).length=1∧(iY b).all D1.dT=true:=⟨rfl,rfl⟩
attribute [go_sem] ah0 abA aaI aeB
def eIn (i:CIn):List D1:=[.isl (i.ready.map iY),.isl (i.xX.map iY),.isl (i.send.map iY)]
theorem ao3 {i:CIn}:(eIn i).length=3:=rfl
theorem ai3 {i:CIn}:(eIn i).take 1=[.isl (i.ready.map iY)]:=rfl
theorem ahZ {i:CIn}:(eIn i).drop 1=[.isl (i.xX.map iY),.isl (i.send.map iY)]:=rfl
theorem ai1 {i:CIn}:(eIn i).take 2=[.isl (i.ready.map iY),.isl (i.xX.map iY)]:=rfl
theorem agE {i:CIn}:(eIn i).drop 2=[.isl (i.send.map iY)]:=rfl
theorem ajC {i:CIn}:(eIn i).take 3=eIn i:=rfl
theorem ahA {i:CIn}:(eIn i).drop 3=[]:=rfl
theorem akX {i:CIn} {cs:List D1} {k:Nat}:iX cs (k+1) (eIn i)=iX cs (k+1) [.isl (i.ready.map iY),.isl (i.xX.map iY),.isl (i.send.map iY)]:=rfl
theorem aqY (i:CIn):(eIn i).length=3∧(eIn i).all D1.dT=true:=⟨rfl,rfl⟩
attribute [go_sem] ao3 ai3 ahZ ai1 agE ajC ahA akX
structure vS (H:aA) (n id off len cap:Nat) (R:List (List D1)):Prop where
 ex: ∃m rows,H id=some ⟨n,m,rows⟩∧rows.drop off=R∧off+len≤rows.length∧len=R.length∧len≤cap∧off+cap≤m
def agB (nq no:Nat) (p:fV) (qo qc oc:Nat):List D1:=[cI p.next,.osl 1 nq qo p.queue.length qc,.osl 3 no 0 p.out.length oc,cI p.last]
def akP (np nd:Nat) (v:sC) (po pc do_ dc:Nat):List D1:=[.osl 3 np po v.pipe.length pc,.osl 5 nd do_ v.done.length dc,cI v.last]
structure ED (H:aA) (nq no:Nat) (p:fV) (r:List D1):Prop where
 ex: ∃qo qc oc,r=agB nq no p qo qc oc∧vS H 1 nq qo p.queue.length qc (p.queue.map aE)∧vS H 3 no 0 p.out.length oc (p.out.map eCJ)
structure MQ (H:aA) (np nd:Nat) (v:sC) (r:List D1):Prop where
 ex: ∃po pc do_ dc,r=akP np nd v po pc do_ dc∧vS H 3 np po v.pipe.length pc (v.pipe.map eCJ)∧vS H 5 nd do_ v.done.length dc (v.done.map aK)
def aaK (nm:Nat→Nat) (s:CSt) (wc hc pc vc tc:Nat):List D1:=[.osl 1 (nm 0) 0 s.words.length wc,.osl 1 (nm 1) 0 s.holds.length hc,.osl 4 (nm 2) 0 3 pc,.osl 3 (nm 3) 0 4 vc,.osl 5 (nm 4) 0 s.told.length tc]
structure ad6 (H:aA) (nm:Nat→Nat) (s:CSt) (cells:List D1):Prop where
 ex: ∃wc hc pc vc tc,cells=aaK nm s wc hc pc vc tc∧vS H 1 (nm 0) 0 s.words.length wc (s.words.map aE)∧vS H 1 (nm 1) 0 s.holds.length hc (s.holds.map aE)∧vS H 5 (nm 4) 0 s.told.length tc (s.told.map aK)∧
  3≤pc∧4≤vc
 bS: ∃m rows,H (nm 2)=some ⟨4,m,rows⟩∧rows.length=3∧ ∀k,k<3→∃r,rows[k]?=some r∧ED H (nm (5+k)) (nm (8+k)) (aS s k) r
 eL: ∃m rows,H (nm 3)=some ⟨3,m,rows⟩∧rows.length=4∧ ∀k,k<4→∃r,rows[k]?=some r∧MQ H (nm (11+k)) (nm (15+k)) (bA s k) r
structure Names (X:Nat→Prop) (nx:Nat) (nm:Nat→Nat):Prop where
 inj: ∀j k,j<19→k<19→nm j=nm k→j=k
 lt: ∀k,k<19→nm k<nx
 av: ∀k,k<19→¬X (nm k)
structure Rep (X:Nat→Prop) (H:aA) (nx i0:Nat) (nm:Nat→Nat) (s:CSt):Prop where
 st: ∃cells,H i0=some ⟨5,1,[cells]⟩∧ad6 H nm s cells
 names:Names X nx nm
 ne: ∀k,k<19→nm k≠i0
 i0:i0<nx∧ ¬X i0
 x: ∀id,X id→id<nx
def apX (Y:Nat→Prop) (H:aA) (nx i1:Nat) (es:List Ev) (d:D1):Prop:=
 (es=[]∧d= .osl 0 0 0 0 0)∨ ∃ev cap,d= .osl 3 ev 0 es.length cap∧vS H 3 ev 0 es.length cap (es.map eEv)∧ev<nx∧ ¬Y ev∧ev≠i1
structure ag7 (Y:Nat→Prop) (H:aA) (nx i1:Nat) (es:List Ev):Prop where
 ex: ∃d a b c e,H i1=some ⟨5,1,[[d,cI a,cI b,cI c,cI e]]⟩∧apX Y H nx i1 es d
 i1:i1<nx∧ ¬Y i1
 y: ∀id,Y id→id<nx
theorem aA.aD {H:aA} {a i:Nat} {o:bC} (h:i≠a):H.set a o i=H i:=if_neg h
theorem aA.bN {H:aA} {a:Nat} {o:bC}:H.set a o a=some o:=if_pos rfl
theorem aA.iS {H:aA} {a i:Nat} (h:i≠a):H.del a i=H i:=if_neg h
def fN (x:Nat):List Nat→Prop
 | []=>True
 |y::l=>((x=y)=False∧(y=x)=False)∧fN x l
def bT (nx:Nat):List Nat→Prop
 | []=>True
 |x::l=>((∀k,(x=nx+k)=False)∧(∀k,(nx+k=x)=False)∧(x=nx)=False∧(nx=x)=False)∧fN x l∧bT nx l
theorem apZ {x:Nat}: ∀{l:List Nat},x∉l→fN x l
 | [],_=>trivial
 |y::l,h=>by
  rw[List.mem_cons,not_or] at h
  exact⟨⟨eq_false h.1,eq_false (Ne.symm h.1)⟩,apZ h.2⟩
theorem apart {nx:Nat}: ∀{l:List Nat},l.Nodup→(∀x∈l,x<nx)→bT nx l
 | [],_,_=>trivial
 |x::l,h,hl=>by
  rw[List.nodup_cons] at h
  have hx:=hl x (by simp)
  exact⟨⟨fun k=>eq_false (by omega),fun k=>eq_false (by omega),eq_false (by omega),eq_false (by omega)⟩,apZ h.1,apart h.2 fun y hy=>hl y (List.mem_cons_of_mem _ hy)⟩
theorem Names.list {X:Nat→Prop} {nx:Nat} {nm:Nat→Nat} (h:Names X nx nm): ∀{l:List Nat},l.Nodup→(∀k∈l,k<19)→(l.map nm).Nodup
 | [],_,_=>List.Pairwise.nil
 |k::l,hn,hl=>by
  rw[List.nodup_cons] at hn
  rw[List.map_cons,List.nodup_cons]
  refine⟨fun hm=> ?_,h.list hn.2 fun j hj=>hl j (List.mem_cons_of_mem _ hj)⟩
  obtain⟨j,hj,he⟩:=List.mem_map.1 hm
  exact hn.1 (h.inj j k (hl j (List.mem_cons_of_mem _ hj)) (hl k (by simp)) he▸hj)
theorem Rep.apart {X:Nat→Prop} {H:aA} {nx nx' i0:Nat} {nm:Nat→Nat} {s:CSt} (h:Rep X H nx i0 nm s) (ext l:List Nat) (hx:nx≤nx') (he:ext.Nodup) (heX: ∀x∈ext,X x) (hn:l.Nodup) (hl: ∀k∈l,k<19):bT nx' (ext++i0::l.map nm):=by
 refine AM.apart (List.nodup_append.2 ⟨he,List.nodup_cons.2 ⟨fun hm=> ?_,h.names.list hn hl⟩,fun a ha b hb hab=> ?_⟩) fun x hx=> ?_
 ·obtain⟨j,hj,he⟩:=List.mem_map.1 hm
  exact h.ne j (hl j hj) he
 ·subst hab
  rcases List.mem_cons.1 hb with rfl|hb
  ·exact h.i0.2 (heX _ ha)
  ·obtain⟨j,hj,rfl⟩:=List.mem_map.1 hb
   exact h.names.av j (hl j hj) (heX _ ha)
 ·rcases List.mem_append.1 hx with hx|hx
  ·have:=h.x x (heX x hx);omega
  ·rcases List.mem_cons.1 hx with rfl|hx
   ·have:=h.i0.1;omega
   ·obtain⟨j,hj,rfl⟩:=List.mem_map.1 hx
    have:=h.names.lt j (hl j hj);omega
theorem vS.frame {H H':aA} {n id off len cap:Nat} {R:List (List D1)} (h:vS H n id off len cap R) (he:H' id=H id):vS H' n id off len cap R:=by
 obtain⟨m,rows,h1,h2⟩:=h.ex
 exact⟨m,rows,by rw[he,h1],h2⟩
theorem ED.frame {H H':aA} {nq no:Nat} {p:fV} {r:List D1} (h:ED H nq no p r) (h1:H' nq=H nq) (h2:H' no=H no):ED H' nq no p r:=by
 obtain⟨qo,qc,oc,e,q1,q2⟩:=h.ex
 exact⟨qo,qc,oc,e,q1.frame h1,q2.frame h2⟩
theorem MQ.frame {H H':aA} {np nd:Nat} {v:sC} {r:List D1} (h:MQ H np nd v r) (h1:H' np=H np) (h2:H' nd=H nd):MQ H' np nd v r:=by
 obtain⟨po,pc,do_,dc,e,q1,q2⟩:=h.ex
 exact⟨po,pc,do_,dc,e,q1.frame h1,q2.frame h2⟩
theorem Rep.upd {X:Nat→Prop} {H H':aA} {nx nx' i0:Nat} {nm nm':Nat→Nat} {s s':CSt} {who st:Nat} (h:Rep X H nx i0 nm s) (hx:nx≤nx') (hN:Names X nx' nm') (hne: ∀k,k<19→nm' k≠i0)
 (hk: ∀k,k<19→k≠4→k≠5+who→k≠8+who→k≠11+st→k≠15+st→nm' k=nm k) (hfr: ∀k,5≤k→k<19→k≠5+who→k≠8+who→k≠11+st→k≠15+st→H' (nm k)=H (nm k))
 (e1: ∃wc hc pc vc tc,H' i0=some ⟨5,1,[aaK nm' s' wc hc pc vc tc]⟩∧vS H' 1 (nm' 0) 0 s'.words.length wc (s'.words.map aE)∧vS H' 1 (nm' 1) 0 s'.holds.length hc (s'.holds.map aE)∧vS H' 5 (nm' 4) 0 s'.told.length tc (s'.told.map aK)∧3≤pc∧4≤vc)
 (e2: ∃m rows m0 rows0,H (nm 2)=some ⟨4,m0,rows0⟩∧H' (nm 2)=some ⟨4,m,rows⟩∧rows.length=3∧(∀k,k<3→k≠who→rows[k]?=rows0[k]?)∧(who<3→∃r,rows[who]?=some r∧ED H' (nm' (5+who)) (nm' (8+who)) (aS s' who) r))
 (e3: ∃m rows m0 rows0,H (nm 3)=some ⟨3,m0,rows0⟩∧H' (nm 3)=some ⟨3,m,rows⟩∧rows.length=4∧(∀k,k<4→k≠st→rows[k]?=rows0[k]?)∧(st<4→∃r,rows[st]?=some r∧MQ H' (nm' (11+st)) (nm' (15+st)) (bA s' st) r))
 (hw:who<3∨who=14) (hs:st<4∨st=8) (hp: ∀k,k<3→k≠who→aS s' k=aS s k) (hv: ∀k,k<4→k≠st→bA s' k=bA s k):Rep X H' nx' i0 nm' s':=by
 obtain⟨⟨cells,hi0,hex,hports,hslvs⟩,hnames,hne0,hi1,hX⟩:=h
 refine⟨?_,hN,hne,⟨by omega,hi1.2⟩,fun id hid=>by have:=hX id hid;omega⟩
 obtain⟨wc,hc,pc,vc,tc,q1,q2⟩:=e1
 refine⟨_,q1,⟨wc,hc,pc,vc,tc,rfl,q2⟩,?_,?_⟩
 ·obtain⟨m,rows,m0,rows0,g1,g2,g3,g4,g5⟩:=e2
  obtain⟨m1,rows1,j1,j2,j3⟩:=hports
  rw[g1] at j1
  obtain⟨_,rfl,rfl⟩:4=4∧m0=m1∧rows0=rows1:=by simpa using j1
  refine⟨m,rows,by rw[hk 2 (by omega) (by omega) (by omega) (by omega) (by omega) (by omega)];exact g2,g3,fun k hk3=> ?_⟩
  by_cases hkw:k=who
  ·subst hkw;exact g5 hk3
  ·obtain⟨r,j4,j5⟩:=j3 k hk3
   refine⟨r,by rw[g4 k hk3 hkw];exact j4,?_⟩
   rw[hp k hk3 hkw,hk (5+k) (by omega) (by omega) (by omega) (by omega) (by omega) (by omega),hk (8+k) (by omega) (by omega) (by omega) (by omega) (by omega) (by omega)]
   exact j5.frame (hfr _ (by omega) (by omega) (by omega) (by omega) (by omega) (by omega)) (hfr _ (by omega) (by omega) (by omega) (by omega) (by omega) (by omega))
 ·obtain⟨m,rows,m0,rows0,g1,g2,g3,g4,g5⟩:=e3
  obtain⟨m1,rows1,j1,j2,j3⟩:=hslvs
  rw[g1] at j1
  obtain⟨_,rfl,rfl⟩:3=3∧m0=m1∧rows0=rows1:=by simpa using j1
  refine⟨m,rows,by rw[hk 3 (by omega) (by omega) (by omega) (by omega) (by omega) (by omega)];exact g2,g3,fun k hk3=> ?_⟩
  by_cases hkw:k=st
  ·subst hkw;exact g5 hk3
  ·obtain⟨r,j4,j5⟩:=j3 k hk3
   refine⟨r,by rw[g4 k hk3 hkw];exact j4,?_⟩
   rw[hv k hk3 hkw,hk (11+k) (by omega) (by omega) (by omega) (by omega) (by omega) (by omega),hk (15+k) (by omega) (by omega) (by omega) (by omega) (by omega) (by omega)]
   exact j5.frame (hfr _ (by omega) (by omega) (by omega) (by omega) (by omega) (by omega)) (hfr _ (by omega) (by omega) (by omega) (by omega) (by omega) (by omega))
theorem Rep.frame {X X':Nat→Prop} {H H':aA} {nx nx' i0:Nat} {nm:Nat→Nat} {s:CSt} (h:Rep X H nx i0 nm s) (hx:nx≤nx') (h0:H' i0=H i0) (hfr: ∀k,k<19→H' (nm k)=H (nm k)) (hX: ∀id,X' id→id<nx'∧id≠i0∧ ∀k,k<19→id≠nm k):Rep X' H' nx' i0 nm s:=by
 obtain⟨⟨cells,hi0,⟨wc,hc,pc,vc,tc,q1,q2,q3,q4,q5⟩,⟨m,rows,j1,j2,j3⟩,⟨m',rows',j4,j5,j6⟩⟩,hnames,hne0,hi1,_⟩:=h
 refine⟨⟨cells,by rw[h0];exact hi0,⟨wc,hc,pc,vc,tc,q1,q2.frame (hfr _ (by omega)),q3.frame (hfr _ (by omega)),q4.frame (hfr _ (by omega)),q5⟩,⟨m,rows,by rw[hfr 2 (by omega)];exact j1,j2,fun k hk=> ?_⟩,⟨m',rows',by rw[hfr 3 (by omega)];exact j4,j5,fun k hk=> ?_⟩⟩,
  ⟨hnames.inj,fun k hk=>by have:=hnames.lt k hk;omega,fun k hk hn=>(hX _ hn).2.2 k hk rfl⟩,hne0,⟨by omega,fun hn=>(hX _ hn).2.1 rfl⟩,fun id hid=>(hX id hid).1⟩
 ·obtain⟨r,k1,k2⟩:=j3 k hk
  exact⟨r,k1,k2.frame (hfr _ (by omega)) (hfr _ (by omega))⟩
 ·obtain⟨r,k1,k2⟩:=j6 k hk
  exact⟨r,k1,k2.frame (hfr _ (by omega)) (hfr _ (by omega))⟩
def put (nm:Nat→Nat) (k v:Nat):Nat→Nat:=fun j=>if j=k then v else nm j
theorem wB {nm:Nat→Nat} {k v:Nat}:put nm k v k=v:=if_pos rfl
theorem jZ {nm:Nat→Nat} {k v j:Nat} (h:j≠k):put nm k v j=nm j:=if_neg h
theorem Names.mono {X:Nat→Prop} {nx nx':Nat} {nm:Nat→Nat} (h:Names X nx nm) (hx:nx≤nx'):Names X nx' nm:=
 ⟨h.inj,fun k hk=>by have:=h.lt k hk;omega,h.av⟩
theorem Names.put {X:Nat→Prop} {nx nx':Nat} {nm:Nat→Nat} {k v:Nat} (h:Names X nx nm) (h1:nx≤v) (h2:v<nx') (hX: ¬X v):Names X nx' (put nm k v):=by
 refine⟨fun i j hi hj he=> ?_,fun j hj=> ?_,fun j hj=> ?_⟩
 ·have a:=h.lt i hi
  have b:=h.lt j hj
  have c:=h.inj i j hi hj
  unfold AM.put at he
  split at he<;>split at he<;>omega
 ·have:=h.lt j hj
  unfold AM.put;split<;>omega
 ·unfold AM.put;split
  ·exact hX
  ·exact h.av j hj
structure m8 (X:Nat→Prop) (H:aA) (nx i0 i1:Nat) (nm:Nat→Nat) (s:CSt) (es:List Ev):Prop where
 rep:Rep (fun id=>X id∨id=i1) H nx i0 nm s
 hap:ag7 (fun id=>X id∨id=i0∨ ∃k,k<19∧id=nm k) H nx i1 es
theorem ag7.frame {Y Y':Nat→Prop} {H H':aA} {nx nx' i1:Nat} {es:List Ev} (h:ag7 Y H nx i1 es) (hx:nx≤nx') (h1:H' i1=H i1) (hfr: ∀id,id<nx→¬Y id→H' id=H id) (hY: ∀id,Y' id→id<nx'∧(Y id∨nx≤id)):ag7 Y' H' nx' i1 es:=by
 obtain⟨⟨d,a,b,c,e,g1,g2⟩,g3,g4⟩:=h
 have hn: ∀id,id<nx→¬Y id→¬Y' id:=fun id h1 h2 h3=>by
  rcases(hY id h3).2 with h|h
  ·exact h2 h
  ·omega
 refine⟨⟨d,a,b,c,e,by rw[h1];exact g1,?_⟩,⟨by omega,hn _ g3.1 g3.2⟩,fun id h=>(hY id h).1⟩
 rcases g2 with g2|⟨ev,cap,k1,k2,k3,k4,k5⟩
 ·exact .inl g2
 ·exact .inr ⟨ev,cap,k1,k2.frame (hfr _ k3 k4),by omega,hn _ k3 k4,k5⟩
theorem m8.next {X X2:Nat→Prop} {H H2:aA} {nx nx2 i0 i1:Nat} {nm:Nat→Nat} {s:CSt} {es:List Ev} (h:m8 X H nx i0 i1 nm s es) (hx:nx≤nx2) (hfr: ∀id,id<nx→¬X id→H2 id=H id) (hX: ∀id,X2 id→id<nx2∧(X id∨nx≤id)):m8 X2 H2 nx2 i0 i1 nm s es:=by
 have hi0:=h.rep.i0
 have hi1:=h.hap.i1
 have hav:=h.rep.names.av
 have hlt:=h.rep.names.lt
 refine⟨h.rep.frame hx (hfr i0 hi0.1 fun hn=>hi0.2 (.inl hn)) (fun k hk=>hfr _ (hlt k hk) fun hn=>hav k hk (.inl hn)) fun id hid=> ?_,h.hap.frame hx (hfr i1 hi1.1 fun hn=>hi1.2 (.inl hn)) (fun id h1 h2=>hfr id h1 fun hn=>h2 (.inl hn)) fun id hid=> ?_⟩
 ·rcases hid with hid|rfl
  ·obtain⟨q1,q2⟩:=hX id hid
   refine⟨q1,?_,fun k hk=> ?_⟩
   ·rintro rfl
    rcases q2 with q2|q2
    ·exact hi0.2 (.inl q2)
    ·omega
   ·rintro rfl
    have:=hlt k hk
    rcases q2 with q2|q2
    ·exact hav k hk (.inl q2)
    ·omega
  ·refine⟨by omega,fun he=>hi0.2 (.inr he.symm),fun k hk he=>hav k hk (.inr he.symm)⟩
 ·rcases hid with hid|rfl|⟨k,hk,rfl⟩
  ·obtain⟨q1,q2⟩:=hX id hid
   exact⟨q1,q2.imp .inl fun h=>h⟩
  ·exact⟨by omega,.inl (.inr (.inl rfl))⟩
  ·have:=hlt k hk
   exact⟨by omega,.inl (.inr (.inr ⟨k,hk,rfl⟩))⟩
theorem m8.mono {X:Nat→Prop} {H:aA} {nx nx2 i0 i1:Nat} {nm:Nat→Nat} {s:CSt} {es:List Ev} (h:m8 X H nx i0 i1 nm s es) (hx:nx≤nx2):m8 X H nx2 i0 i1 nm s es:=
 h.next hx (fun _ _ _=>rfl) fun id hid=>⟨by have:=h.rep.x id (.inl hid);omega,.inl hid⟩
theorem Rep.get {X:Nat→Prop} {H:aA} {nx i0:Nat} {nm:Nat→Nat} {s:CSt} (h:Rep X H nx i0 nm s):
 ∃wc hc pc vc tc mp rp mv rv,H i0=some ⟨5,1,[[.osl 1 (nm 0) 0 s.words.length wc,.osl 1 (nm 1) 0 s.holds.length hc,.osl 4 (nm 2) 0 3 pc,.osl 3 (nm 3) 0 4 vc,.osl 5 (nm 4) 0 s.told.length tc]]⟩∧H (nm 2)=some ⟨4,mp,rp⟩∧H (nm 3)=some ⟨3,mv,rv⟩∧
  vS H 1 (nm 0) 0 s.words.length wc (s.words.map aE)∧vS H 1 (nm 1) 0 s.holds.length hc (s.holds.map aE)∧vS H 5 (nm 4) 0 s.told.length tc (s.told.map aK)∧3≤pc∧4≤vc∧rp.length=3∧rv.length=4∧
  (∀k,k<3→∃qo qc oc,rp[k]?=some [cI (aS s k).next,.osl 1 (nm (5+k)) qo (aS s k).queue.length qc,.osl 3 (nm (8+k)) 0 (aS s k).out.length oc,cI (aS s k).last]∧vS H 1 (nm (5+k)) qo (aS s k).queue.length qc ((aS s k).queue.map aE)∧vS H 3 (nm (8+k)) 0 (aS s k).out.length oc ((aS s k).out.map eCJ))∧
  ∀k,k<4→∃po pc do_ dc,rv[k]?=some [.osl 3 (nm (11+k)) po (bA s k).pipe.length pc,.osl 5 (nm (15+k)) do_ (bA s k).done.length dc,cI (bA s k).last]∧vS H 3 (nm (11+k)) po (bA s k).pipe.length pc ((bA s k).pipe.map eCJ)∧vS H 5 (nm (15+k)) do_ (bA s k).done.length dc ((bA s k).done.map aK):=by
 obtain⟨cells,hi0,⟨wc,hc,pc,vc,tc,rfl,q1,q2,q3,q4,q5⟩,⟨mp,rp,j1,j2,j3⟩,⟨mv,rv,j4,j5,j6⟩⟩:=h.st
 refine⟨wc,hc,pc,vc,tc,mp,rp,mv,rv,hi0,j1,j4,q1,q2,q3,q4,q5,j2,j5,fun k hk=> ?_,fun k hk=> ?_⟩
 ·obtain⟨r,h1,⟨qo,qc,oc,rfl,h2⟩⟩:=j3 k hk
  exact⟨qo,qc,oc,h1,h2⟩
 ·obtain⟨r,h1,⟨po,pc,do_,dc,rfl,h2⟩⟩:=j6 k hk
  exact⟨po,pc,do_,dc,h1,h2⟩
theorem m8.upd {X:Nat→Prop} {H H':aA} {nx nx' i0 i1:Nat} {nm:Nat→Nat} {s:CSt} {es:List Ev} (h:m8 X H nx i0 i1 nm s es) (who st:Nat) (nm':Nat→Nat) (s':CSt) (hx:nx≤nx') (hN:Names (fun id=>X id∨id=i1) nx' nm')
 (hk: ∀k,k<19→nm' k=nm k∨((k=4∨k=5+who∨k=8+who∨k=11+st∨k=15+st)∧nx≤nm' k))
 (hfr: ∀id,id<nx→id≠i0→(∀k,k<5∨k=5+who∨k=8+who∨k=11+st∨k=15+st→k<19→id≠nm k)→H' id=H id)
 (e1: ∃wc hc pc vc tc,H' i0=some ⟨5,1,[aaK nm' s' wc hc pc vc tc]⟩∧vS H' 1 (nm' 0) 0 s'.words.length wc (s'.words.map aE)∧vS H' 1 (nm' 1) 0 s'.holds.length hc (s'.holds.map aE)∧vS H' 5 (nm' 4) 0 s'.told.length tc (s'.told.map aK)∧3≤pc∧4≤vc)
 (e2: ∃m rows m0 rows0,H (nm 2)=some ⟨4,m0,rows0⟩∧H' (nm 2)=some ⟨4,m,rows⟩∧rows.length=3∧(∀k,k<3→k≠who→rows[k]?=rows0[k]?)∧(who<3→∃r,rows[who]?=some r∧ED H' (nm' (5+who)) (nm' (8+who)) (aS s' who) r))
 (e3: ∃m rows m0 rows0,H (nm 3)=some ⟨3,m0,rows0⟩∧H' (nm 3)=some ⟨3,m,rows⟩∧rows.length=4∧(∀k,k<4→k≠st→rows[k]?=rows0[k]?)∧(st<4→∃r,rows[st]?=some r∧MQ H' (nm' (11+st)) (nm' (15+st)) (bA s' st) r))
 (hw:who<3∨who=14) (hs:st<4∨st=8) (hp: ∀k,k<3→k≠who→aS s' k=aS s k) (hv: ∀k,k<4→k≠st→bA s' k=bA s k):m8 X H' nx' i0 i1 nm' s' es∧ ∀id,X id→H' id=H id:=by
 have hav:=h.rep.names.av
 have hi0:=h.rep.i0
 have hi1:=h.hap.i1
 have hlt:=h.rep.names.lt
 have hXf: ∀id,X id∨id=i1→H' id=H id:=fun id hid=>hfr id (h.rep.x id hid) (fun he=>hi0.2 (he▸hid)) fun k _ hk he=>hav k hk (he▸hid)
 refine⟨⟨h.rep.upd (who:=who) (st:=st) hx hN (fun k hk19=> ?_) (fun k hk19 h1 h2 h3 h4 h5=> ?_) (fun k h5 hk19 h1 h2 h3 h4=> ?_) e1 e2 e3 hw hs hp hv,h.hap.frame hx (hXf _ (.inr rfl)) (fun id h1 h2=> ?_) fun id hid=> ?_⟩,fun id hid=>hXf id (.inl hid)⟩
 ·rcases hk k hk19 with h1|h1
  ·rw[h1];exact h.rep.ne k hk19
  ·omega
 ·rcases hk k hk19 with h6|h6
  ·exact h6
  ·omega
 ·refine hfr _ (hlt k hk19) (h.rep.ne k hk19) fun j hj hj19 he=> ?_
  have:=h.rep.names.inj k j hk19 hj19 he
  omega
 ·exact hfr id h1 (fun he=>h2 (.inr (.inl he))) fun k _ hk19 he=>h2 (.inr (.inr ⟨k,hk19,he⟩))
 ·rcases hid with hid|rfl|⟨k,hk19,rfl⟩
  ·have:=h.rep.x id (.inl hid)
   exact⟨by omega,.inl (.inl hid)⟩
  ·exact⟨by omega,.inl (.inr (.inl rfl))⟩
  ·have:=hN.lt k hk19
   rcases hk k hk19 with h6|h6
   ·exact⟨this,.inl (.inr (.inr ⟨k,hk19,h6⟩))⟩
   ·exact⟨this,.inr h6.2⟩
end Go.AM
end
