/- Texts laid together by a program: rules, contracts and the walk that leads to the law. -/
import Derived.Test.YtmccpdapaccnoaaPG8
set_option linter.unusedVariables false
set_option linter.unusedSimpArgs false
set_option linter.unusedSectionVars false
section
namespace Go.AM
theorem pY {α:Type} [Inhabited α] {l:List α} {k i:Nat} {x:α} (hk:k<l.length):(l.set k x).getD i default=if i=k then x else l.getD i default:=by
 simp only[List.getD,List.getElem?_set]
 by_cases h:k=i
 ·subst h;simp[hk]
 ·simp[h,Ne.symm h,eq_comm]
structure mD (c:Cfg) (who:Nat) (p:fR):Prop where
 next:0≤p.next∧p.next≤(c.cP.getD who default).length
 ql:p.queue.length≤2∧(p.queue.length:Int)≤p.next
 ol:p.out.length≤4
 last:0≤p.last∧p.last≤3
 queue: ∀i,i<p.queue.length→p.queue.getD i default=p.next-p.queue.length+i
 out: ∀j∈p.out,j.who=who∧(0≤j.n∧j.n<p.next-p.queue.length)∧j.left=gZ c.map (bT c who j.n)
 acX:p.out.Pairwise fun a b=>a.n<b.n
 akF: ∀a∈p.out,∀b∈p.out,(bT c who a.n).id=(bT c who b.n).id→a.left=b.left
def cS (v:nY):List (Int×Int):=v.done.map key++v.pipe.map fun j=>(j.who,j.n)
structure Z0 (c:Cfg) (s:CSt) (st:Nat):Prop where
 pl:(aL s st).pipe.length≤2
 dl:(aL s st).done.length≤2
 last:0≤(aL s st).last∧(aL s st).last≤2
 inc:(cS (aL s st)).Pairwise fun a b=>a.1=b.1→a.2<b.2
 out: ∀x∈cS (aL s st),(0≤x.1∧x.1≤2)∧ ∃j∈(aF s x.1.toNat).out,j.n=x.2∧j.left=st
 rsp: ∀j∈(aL s st).done,as5 c j
 left: ∀i,i<(aL s st).pipe.length→(0≤((aL s st).pipe.getD i default).left∧((aL s st).pipe.getD i default).left≤c.lat.getD st default)∧(0<i→((aL s st).pipe.getD i default).left=c.lat.getD st default)
def hU (s:CSt) (k:Nat):Nat:=(aL s k).pipe.length+(aL s k).done.length
structure COk (c:Cfg) (s:CSt):Prop where
 atm:WK s.words s.holds
 pl:s.bM.length=3
 sl:s.dD.length=4
 port: ∀k,k<3→mD c k (aF s k)
 slv: ∀k,k<4→Z0 c s k
 count:(aF s 0).out.length+(aF s 1).out.length+(aF s 2).out.length=hU s 0+hU s 1+hU s 2+hU s 3
 st:BA c (cX s)
theorem wU {s:CSt} {j:Job}:j∈qU s↔(∃k,k<s.bM.length∧ ∃m∈(aF s k).queue,j=⟨k,m,oW⟩)∨(∃st,st<s.dD.length∧ ∃x∈(aL s st).pipe,j=⟨x.who,x.n,oW⟩):=by
 unfold qU jJ hJ
 simp only[List.mem_append,List.mem_flatMap,List.mem_range,List.mem_map]
 constructor
 ·rintro(⟨k,hk,m,hm,rfl⟩|⟨st,hs,x,hx,rfl⟩)
  ·exact .inl ⟨k,hk,m,hm,rfl⟩
  ·exact .inr ⟨st,hs,x,hx,rfl⟩
 ·rintro(⟨k,hk,m,hm,rfl⟩|⟨st,hs,x,hx,rfl⟩)
  ·exact .inl ⟨k,hk,m,hm,rfl⟩
  ·exact .inr ⟨st,hs,x,hx,rfl⟩
theorem BU {s:CSt} {j:Job}:j∈uQ s↔∃st,st<s.dD.length∧j∈(aL s st).done:=by
 unfold uQ
 simp only[List.mem_flatMap,List.mem_range]
theorem mD.asks {c:Cfg} {who:Nat} {p:fR} (h:mD c who p) (hw:who<3) {n:Int} (h0:0≤n) (h1:n<p.next):oA c who n:=by
 have:=h.next
 refine⟨by omega,h0,?_⟩
 rw[Int.toNat_natCast];omega
theorem mD.qIn {c:Cfg} {who:Nat} {p:fR} (h:mD c who p) {m:Int} (hm:m∈p.queue):p.next-p.queue.length≤m∧m<p.next:=by
 obtain⟨i,hi,rfl⟩:=List.mem_iff_getElem.1 hm
 have:=h.queue i hi
 simp only[List.getD,hi,List.getElem?_eq_getElem,Option.getD_some] at this
 omega
theorem COk.vIn {c:Cfg} {s:CSt} (h:COk c s) {st:Nat} (hs:st<4) {x:Int×Int} (hx:x∈cS (aL s st)):(0≤x.1∧x.1≤2)∧0≤x.2∧x.2<(aF s x.1.toNat).next-(aF s x.1.toNat).queue.length:=by
 obtain⟨h1,j,hj,h2,h3⟩:=(h.slv st hs).out x hx
 have:=(h.port x.1.toNat (by omega)).out j hj
 exact⟨h1,by omega,by omega⟩
theorem COk.same {c:Cfg} {s:CSt} (h:COk c s) {st st':Nat} (hs:st<4) (hs':st'<4) {x y:Int×Int} (hx:x∈cS (aL s st)) (hy:y∈cS (aL s st')) (he:x.1=y.1) (hi:(bT c x.1 x.2).id=(bT c y.1 y.2).id):st=st':=by
 obtain⟨h1,j,hj,h2,h3⟩:=(h.slv st hs).out x hx
 obtain⟨h4,j',hj',h5,h6⟩:=(h.slv st' hs').out y hy
 have hp:=h.port x.1.toNat (by omega)
 rw[←he] at hj'
 have:=hp.akF j hj j' hj' (by
  have e1:((x.1.toNat:Nat):Int)=x.1:=by omega
  rw[e1,h2,h5,hi,he])
 omega
theorem JB {v:nY} {x:fC} (h:x∈v.pipe):(x.who,x.n)∈cS v:=List.mem_append_right _ (List.mem_map.2 ⟨x,h,rfl⟩)
theorem M9 {v:nY} {x:Job} (h:x∈v.done):key x∈cS v:=List.mem_append_left _ (List.mem_map_of_mem h)
theorem gT {α:Type} [Inhabited α] {l:List α} (h:0<l.length):l=l.getD 0 default::l.drop 1:=by
 cases l with
 |nil=>simp at h
 |cons x l=>simp
theorem BF {l:List Job} {j:Job}:j∈jX l↔j∈l:=(fH l).mem_iff
theorem R6 {s:CSt} {k:Nat} (hk:k<s.bM.length):(cX s).asked.getD k default=(aF s k).next:=by
 simp[cX,aF,List.getD,hk]
theorem XZ {c:Cfg} {s:CSt} (h:COk c s) {m:Mic} (hg:EH c s m): ∀e∈y0 s m,X6 c (cX s) e=0:=by
 intro e he
 have hpl:=h.pl
 have hsl:=h.sl
 cases m with
 |tick st=>simp[y0] at he
 |adm who st=>simp[y0] at he
 |ask who=>
  simp only[y0,List.mem_singleton] at he
  subst he
  obtain⟨h1,h2,h3⟩:=hg
  have hp:=h.port who h1
  have hask:oA c (who:Int) (aF s who).next:=by
   refine⟨by omega,hp.next.1,?_⟩
   rw[Int.toNat_natCast];omega
  unfold X6
  dsimp only
  rw[if_neg (by exact fun hn=>hn ⟨hask,by omega,by omega⟩),if_pos rfl,if_neg]
  rw[Int.toNat_natCast,R6 (by omega)]
  simp
 |work st=>
  simp only[y0,List.mem_singleton] at he
  subst he
  obtain⟨h1,h2,h3,h4⟩:=hg
  have hmem:bI s st∈(aL s st).pipe:=cC h2
  have hk:=JB hmem
  obtain⟨hv1,hv2,hv3⟩:=h.vIn h1 hk
  dsimp only at hv1 hv2 hv3
  have hp:=h.port (bI s st).who.toNat (by omega)
  have e1:(((bI s st).who.toNat:Nat):Int)=(bI s st).who:=by omega
  have hask:oA c (bI s st).who (bI s st).n:=by
   have:=hp.asks (n:=(bI s st).n) (by omega) hv2 (by have:=hp.ql;omega)
   rwa [e1] at this
  have hin: ¬bK (iM (bI s st).who (bI s st).n) (cX s).wait<0:=by
   have:0≤bK (iM (bI s st).who (bI s st).n) (cX s).wait:=ZP.2 (List.mem_map.2 ⟨⟨(bI s st).who,(bI s st).n,oW⟩,BF.2 (wU.2 (.inr ⟨st,by omega,bI s st,hmem,rfl⟩)),rfl⟩)
   omega
  unfold X6
  dsimp only
  rw[if_neg (by exact fun hn=>hn ⟨hask,by omega,by omega⟩),if_neg (by omega),if_pos rfl,if_neg hin,if_neg]
  rw[cH]
  rintro⟨x,hx,hxa⟩
  obtain⟨⟨ha1,ha2⟩,ha3⟩:=of_decide_eq_true hxa
  dsimp only at ha1 ha2 ha3
  rcases wU.1 (BF.1 hx) with⟨k,hkl,m,hm,rfl⟩|⟨st',hst',y,hy,rfl⟩
  ·dsimp only at ha1 ha2 ha3
   have hq:=(h.port k (by omega)).qIn hm
   have:(bI s st).who.toNat=k:=by omega
   rw[this] at hv3
   omega
  ·dsimp only at ha1 ha2 ha3
   have hss:=h.same (by omega) h1 (JB hy) hk ha1 ha3
   subst hss
   have hinc:=(List.pairwise_append.1 (h.slv st' h1).inc).2.1
   rw[gT h2,List.map_cons,List.pairwise_cons] at hinc
   rw[gT h2] at hy
   rcases List.mem_cons.1 hy with rfl|hy
   ·unfold bI at ha2;omega
   ·have:=hinc.1 (y.who,y.n) (List.mem_map.2 ⟨y,hy,rfl⟩)
    dsimp only at this
    unfold bI at ha1 ha2
    have:=this ha1.symm
    omega
 |tell who st=>
  simp only[y0,List.mem_singleton] at he
  subst he
  obtain⟨h0,h1,h2,h3⟩:=hg
  have hmem:iF s st∈(aL s st).done:=cC h2
  have hk:=M9 hmem
  have h3':(iF s st).who=who:=h3
  obtain⟨hv1,hv2,hv3⟩:=h.vIn h1 hk
  simp only[key] at hv1 hv2 hv3
  rw[h3',Int.toNat_natCast] at hv3
  have hp:=h.port who h0
  have hask:oA c (who:Int) (iF s st).n:=hp.asks h0 hv2 (by have:=hp.ql;omega)
  have hin: ¬bK (iM who (iF s st).n) (cX s).done<0:=by
   have:0≤bK (iM who (iF s st).n) (cX s).done:=ZP.2 (List.mem_map.2 ⟨iF s st,BF.2 (BU.2 ⟨st,by omega,hmem⟩),by simp[key,h3']⟩)
   omega
  have hinc:=(h.slv st h1).inc
  unfold cS at hinc
  rw[gT h2,List.map_cons,List.cons_append,List.pairwise_cons] at hinc
  unfold X6
  dsimp only
  rw[if_neg (by exact fun hn=>hn ⟨hask,by omega,by omega⟩),if_neg (by omega),if_neg (by omega),if_neg hin,if_neg]
  rw[cH,cH]
  rintro(⟨x,hx,hxa⟩|⟨x,hx,hxa⟩)
  ·obtain⟨⟨ha1,ha2⟩,ha3⟩:=of_decide_eq_true hxa
   dsimp only at ha1 ha2 ha3
   rcases wU.1 (BF.1 hx) with⟨k,hkl,m,hm,rfl⟩|⟨st',hst',y,hy,rfl⟩
   ·dsimp only at ha1 ha2 ha3
    have hq:=(h.port k (by omega)).qIn hm
    have:who=k:=by omega
    subst this
    omega
   ·dsimp only at ha1 ha2 ha3
    have hss:=h.same (by omega) h1 (JB hy) hk (by simp only[key];rw[h3'];exact ha1) (by simp only[key];rw[h3'];exact ha3)
    subst hss
    have:=hinc.1 (y.who,y.n) (List.mem_append_right _ (List.mem_map.2 ⟨y,hy,rfl⟩))
    have:=this (by show (iF s st').who=y.who;rw[h3',ha1])
    have e2:(key ((aL s st').done.getD 0 default)).2=(iF s st').n:=rfl
    dsimp only at this
    omega
  ·obtain⟨⟨ha1,ha2⟩,ha3⟩:=of_decide_eq_true hxa
   dsimp only at ha1 ha2 ha3
   obtain⟨st',hst',hy⟩:=BU.1 (BF.1 hx)
   have hss:=h.same (by omega) h1 (M9 hy) hk (by simp only[key];rw[h3'];exact ha1) (by simp only[key];rw[h3'];rw[ha1] at ha3;rw[ha1];exact ha3)
   subst hss
   rw[gT h2] at hy
   rcases List.mem_cons.1 hy with rfl|hy
   ·unfold iF at ha2;omega
   ·have:=hinc.1 (key x) (List.mem_append_left _ (List.mem_map_of_mem hy))
    have:=this (by show (iF s st').who=x.who;rw[h3',ha1])
    have e2:(key ((aL s st').done.getD 0 default)).2=(iF s st').n:=rfl
    simp only[key] at this e2
    omega
end Go.AM
end
section
namespace Go.AM
theorem TW {l:List Job} (h:(l.map key).Nodup) {a b:Job} (ha:a∈l) (hb:b∈l) (he:key a=key b):a=b:=by
 induction l with
 |nil=>simp at ha
 |cons x l ih=>
  rw[List.map_cons,List.nodup_cons] at h
  rcases List.mem_cons.1 ha with e1|h1
  ·rcases List.mem_cons.1 hb with e2|h2
   ·rw[e1,e2]
   ·exact absurd (List.mem_map.2 ⟨b,h2,by rw[←he,e1]⟩) h.1
  ·rcases List.mem_cons.1 hb with e2|h2
   ·exact absurd (List.mem_map.2 ⟨a,h1,by rw[he,e2]⟩) h.1
   ·exact ih h.2 h1 h2
theorem bL {s s':CSt} {who:Nat} {p:fR} (h:s'.bM=s.bM.set who p) (hw:who<s.bM.length) (k:Nat):aF s' k=if k=who then p else aF s k:=by
 unfold aF;rw[h,pY hw]
theorem bO {s s':CSt} {st:Nat} {v:nY} (h:s'.dD=s.dD.set st v) (hw:st<s.dD.length) (k:Nat):aL s' k=if k=st then v else aL s k:=by
 unfold aL;rw[h,pY hw]
theorem af6 {c:Cfg} {s:CSt} (hb:aQ c) (h:COk c s) {m:Mic} (hg:EH c s m):cX (aR c s m)=runM c (cX s) (y0 s m):=by
 have hpl:=h.pl
 have hsl:=h.sl
 have hwhy:=XZ h hg
 cases m with
 |tick st=>
  obtain⟨h1,h2,h3⟩:=hg
  have hS:=fun k=>bO (s:=s) (s':=aR c s (.tick st)) rfl (by omega:st<s.dD.length) k
  have hP: ∀k,aF (aR c s (.tick st)) k=aF s k:=fun k=>rfl
  have hq: ∀k,hJ (aR c s (.tick st)) k=hJ s k:=fun k=>by
   unfold hJ
   rw[hS]
   split
   ·rename_i hk;subst hk
    rw[gT h2]
    simp[bI]
   ·rfl
  have hd: ∀k,(aL (aR c s (.tick st)) k).done=(aL s k).done:=fun k=>by
   rw[hS]
   split
   ·rename_i hk;subst hk;rfl
   ·rfl
  have hl:(aR c s (.tick st)).dD.length=s.dD.length:=by simp[aR]
  simp only[y0,runM,List.foldl_nil,cX,TSt.mk.injEq]
  refine⟨rfl,rfl,rfl,?_,?_,rfl⟩
  ·congr 1
   unfold qU
   rw[hl]
   simp only[List.flatMap_def]
   congr 2
   exact List.map_congr_left fun k _=>hq k
  ·congr 1
   unfold uQ
   rw[hl]
   simp only[List.flatMap_def]
   congr 1
   exact List.map_congr_left fun k _=>hd k
 |adm who st=>
  obtain⟨h0,h1,h2,h3⟩:=hg
  have hS:=fun k=>bO (s:=s) (s':=aR c s (.adm who st)) rfl (by omega:st<s.dD.length) k
  have hP:=fun k=>bL (s:=s) (s':=aR c s (.adm who st)) rfl (by omega:who<s.bM.length) k
  have hl:(aR c s (.adm who st)).dD.length=s.dD.length:=by simp[aR]
  have hl2:(aR c s (.adm who st)).bM.length=s.bM.length:=by simp[aR]
  have hd: ∀k,(aL (aR c s (.adm who st)) k).done=(aL s k).done:=fun k=>by
   rw[hS]
   split
   ·rename_i hk;subst hk;rfl
   ·rfl
  simp only[y0,runM,List.foldl_nil,cX,TSt.mk.injEq]
  refine⟨rfl,rfl,?_,?_,?_,rfl⟩
  ·apply List.ext_getElem (by simp[aR])
   intro i hi1 hi2
   simp only[aR,List.length_map,List.length_set] at hi1
   simp only[aR,List.getElem_map,List.getElem_set]
   split
   ·rename_i hk;subst hk;simp[aF,List.getD,hi1]
   ·rfl
  ·refine GN h.st.NR ?_
   refine List.Perm.trans ?_ (fH _).symm
   rw[List.perm_iff_count]
   intro z
   have e1:=tE (k:=who) (n:=s.bM.length) (by omega) (f:=jJ (aR c s (.adm who st))) (g:=jJ s) (fun i hi=>by unfold jJ;rw[hP,if_neg hi]) z
   have e2:=tE (k:=st) (n:=s.dD.length) (by omega) (f:=hJ (aR c s (.adm who st))) (g:=hJ s) (fun i hi=>by unfold hJ;rw[hS,if_neg hi]) z
   have e3:jJ (aR c s (.adm who st)) who=((aF s who).queue.drop 1).map fun n=>⟨who,n,oW⟩:=by unfold jJ;rw[hP,if_pos rfl]
   have e4:jJ s who=⟨who,(aF s who).queue.getD 0 default,oW⟩::((aF s who).queue.drop 1).map fun n=>⟨who,n,oW⟩:=by
    unfold jJ
    conv=>lhs;rw[gT h3.1]
    rfl
   have e5:hJ (aR c s (.adm who st)) st=hJ s st++[⟨who,(aF s who).queue.getD 0 default,oW⟩]:=by unfold hJ;rw[hS,if_pos rfl];simp
   rw[e3,e4] at e1
   rw[e5] at e2
   unfold qU
   rw[hl,hl2]
   simp only[List.count_append,List.count_cons,List.count_nil] at*
   omega
  ·congr 1
   unfold uQ
   rw[hl]
   simp only[List.flatMap_def]
   congr 1
   exact List.map_congr_left fun k _=>hd k
 |ask who=>
  obtain⟨h0,h1,h2⟩:=hg
  have hP:=fun k=>bL (s:=s) (s':=aR c s (.ask who)) rfl (by omega:who<s.bM.length) k
  have hl2:(aR c s (.ask who)).bM.length=s.bM.length:=by simp[aR]
  have hso:=G9 hb h.st (hwhy ⟨1,who,(aF s who).next⟩ (List.mem_singleton.2 rfl))
  have e0:lS c (cX s) ⟨1,who,(aF s who).next⟩= {cX s with asked:=(cX s).asked.set who ((aF s who).next+1),wait:=BM (cX s).wait ⟨who,(aF s who).next,oW⟩}:=by simp[lS]
  have hso1:=hso.NR
  rw[e0] at hso1
  simp only[y0]
  rw[wW,e0]
  simp only[runM,List.foldl_nil,cX,TSt.mk.injEq]
  refine⟨rfl,rfl,?_,?_,rfl,rfl⟩
  ·simp[aR,List.map_set]
  ·refine GN hso1 ?_
   refine List.Perm.trans ?_ ((nE _ _).trans ((fH _).cons _)).symm
   rw[List.perm_iff_count]
   intro z
   have e1:=tE (k:=who) (n:=s.bM.length) (by omega) (f:=jJ (aR c s (.ask who))) (g:=jJ s) (fun i hi=>by unfold jJ;rw[hP,if_neg hi]) z
   have e3:jJ (aR c s (.ask who)) who=jJ s who++[⟨who,(aF s who).next,oW⟩]:=by unfold jJ;rw[hP,if_pos rfl];simp
   have e6:(List.range (aR c s (.ask who)).dD.length).flatMap (hJ (aR c s (.ask who)))=(List.range s.dD.length).flatMap (hJ s):=rfl
   rw[e3] at e1
   unfold qU
   rw[hl2,e6]
   simp only[List.count_append,List.count_cons,List.count_nil] at*
   omega
 |work st=>
  obtain⟨h1,h2,h3,h4⟩:=hg
  have hS:=fun k=>bO (s:=s) (s':=aR c s (.work st)) rfl (by omega:st<s.dD.length) k
  have hl:(aR c s (.work st)).dD.length=s.dD.length:=by simp[aR]
  have hw:=hwhy ⟨2,(bI s st).who,(bI s st).n⟩ (List.mem_singleton.2 rfl)
  have hso:=G9 hb h.st hw
  have hz:=(M8 hw).2
  have hin: ¬bK (iM (bI s st).who (bI s st).n) (cX s).wait<0:=by
   rcases hz with⟨hk,_⟩|⟨hk,hi⟩|⟨hk,_⟩
   ·exact absurd hk (by dsimp only;decide)
   ·exact hi
   ·exact absurd hk (by dsimp only;decide)
  obtain⟨hi1,hi2⟩:=pW hin
  have e0:lS c (cX s) ⟨2,(bI s st).who,(bI s st).n⟩= {cX s with words:=(jD c s st).1.1,holds:=(jD c s st).1.2,wait:=MT (cX s).wait (bK (iM (bI s st).who (bI s st).n) (cX s).wait).toNat,done:=BM (cX s).done ⟨(bI s st).who,(bI s st).n,(jD c s st).2⟩}:=by
   simp only[lS,jD,cX,if_true,if_false,Int.reduceEq]
  have hso1:=hso.NR
  have hso2:=hso.NW
  rw[e0] at hso1 hso2
  simp only[y0]
  rw[wW,e0]
  simp only[runM,List.foldl_nil]
  have hjob:(cX s).wait.getD (bK (iM (bI s st).who (bI s st).n) (cX s).wait).toNat default=⟨(bI s st).who,(bI s st).n,oW⟩:=by
   have hm:=cC hi1
   have hr:=h.st.P4 _ hm
   generalize (cX s).wait.getD (bK (iM (bI s st).who (bI s st).n) (cX s).wait).toNat default=x at hi2 hr
   obtain⟨x1,x2,aYM⟩:=x
   simp only[key,Prod.mk.injEq] at hi2
   dsimp only at hr
   rw[hi2.1,hi2.2,hr]
  have hperm:=A4 hi1
  rw[hjob] at hperm
  have aYL:jX (qU (aR c s (.work st)))=MT (cX s).wait (bK (iM (bI s st).who (bI s st).n) (cX s).wait).toNat:=by
   refine GN hso1 ?_
   refine List.Perm.cons_inv (a:=⟨(bI s st).who,(bI s st).n,oW⟩) ?_
   refine List.Perm.trans ?_ ((fH _).symm.trans hperm)
   rw[List.perm_iff_count]
   intro z
   have e2:=tE (k:=st) (n:=s.dD.length) (by omega) (f:=hJ (aR c s (.work st))) (g:=hJ s) (fun i hi=>by unfold hJ;rw[hS,if_neg hi]) z
   have e5:hJ s st=⟨(bI s st).who,(bI s st).n,oW⟩::hJ (aR c s (.work st)) st:=by
    unfold hJ;rw[hS,if_pos rfl]
    conv=>lhs;rw[gT h2]
    rfl
   have e6:(List.range (aR c s (.work st)).bM.length).flatMap (jJ (aR c s (.work st)))=(List.range s.bM.length).flatMap (jJ s):=rfl
   rw[e5] at e2
   unfold qU
   rw[hl,e6]
   simp only[List.count_append,List.count_cons,List.count_nil] at*
   omega
  have hD:jX (uQ (aR c s (.work st)))=BM (cX s).done ⟨(bI s st).who,(bI s st).n,(jD c s st).2⟩:=by
   refine GN hso2 ?_
   refine List.Perm.trans ?_ ((nE _ _).trans ((fH _).cons _)).symm
   rw[List.perm_iff_count]
   intro z
   have e2:=tE (k:=st) (n:=s.dD.length) (by omega) (f:=fun k=>(aL (aR c s (.work st)) k).done) (g:=fun k=>(aL s k).done) (fun i hi=>by rw[hS,if_neg hi]) z
   have e5:(aL (aR c s (.work st)) st).done=(aL s st).done++[⟨(bI s st).who,(bI s st).n,(jD c s st).2⟩]:=by rw[hS,if_pos rfl]
   rw[e5] at e2
   unfold uQ
   rw[hl]
   simp only[List.count_append,List.count_cons,List.count_nil] at*
   omega
  show TSt.mk _ _ _ (jX (qU (aR c s (.work st)))) (jX (uQ (aR c s (.work st)))) _=_
  rw[aYL,hD]
  rfl
 |tell who st=>
  obtain⟨h0,h1,h2,h3⟩:=hg
  have h3':(iF s st).who=who:=h3
  have hS:=fun k=>bO (s:=s) (s':=aR c s (.tell who st)) rfl (by omega:st<s.dD.length) k
  have hP:=fun k=>bL (s:=s) (s':=aR c s (.tell who st)) rfl (by omega:who<s.bM.length) k
  have hl:(aR c s (.tell who st)).dD.length=s.dD.length:=by simp[aR]
  have hl2:(aR c s (.tell who st)).bM.length=s.bM.length:=by simp[aR]
  have hw:=hwhy ⟨3,who,(iF s st).n⟩ (List.mem_singleton.2 rfl)
  have hso:=G9 hb h.st hw
  have hz:=(M8 hw).2
  have hin: ¬bK (iM who (iF s st).n) (cX s).done<0:=by
   rcases hz with⟨hk,_⟩|⟨hk,hi⟩|⟨hk,hi⟩
   ·exact absurd hk (by dsimp only;decide)
   ·exact absurd hk (by dsimp only;decide)
   ·exact hi
  obtain⟨hi1,hi2⟩:=pW hin
  have e0:lS c (cX s) ⟨3,who,(iF s st).n⟩= {cX s with told:=(cX s).told++[(cX s).done.getD (bK (iM who (iF s st).n) (cX s).done).toNat default],done:=MT (cX s).done (bK (iM who (iF s st).n) (cX s).done).toNat}:=by
   simp only[lS,if_false,Int.reduceEq]
  have hso2:=hso.NW
  rw[e0] at hso2
  simp only[y0]
  rw[wW,e0]
  simp only[runM,List.foldl_nil]
  have hjob:(cX s).done.getD (bK (iM who (iF s st).n) (cX s).done).toNat default=iF s st:=by
   refine TW (zG h.st.NW) (cC hi1) (BF.2 (BU.2 ⟨st,by omega,cC h2⟩)) ?_
   rw[hi2];simp[key,h3']
  have hperm:=A4 hi1
  rw[hjob] at hperm
  have aYL:jX (qU (aR c s (.tell who st)))=(cX s).wait:=by
   show jX _=jX _
   congr 1
   unfold qU
   rw[hl,hl2]
   simp only[List.flatMap_def]
   congr 2
   ·exact List.map_congr_left fun k _=>by
     unfold jJ;rw[hP];split
     ·rename_i hk;subst hk;rfl
     ·rfl
   ·exact List.map_congr_left fun k _=>by
     unfold hJ;rw[hS];split
     ·rename_i hk;subst hk;rfl
     ·rfl
  have hD:jX (uQ (aR c s (.tell who st)))=MT (cX s).done (bK (iM who (iF s st).n) (cX s).done).toNat:=by
   refine GN hso2 ?_
   refine List.Perm.cons_inv (a:=iF s st) ?_
   refine List.Perm.trans ?_ ((fH _).symm.trans hperm)
   rw[List.perm_iff_count]
   intro z
   have e2:=tE (k:=st) (n:=s.dD.length) (by omega) (f:=fun k=>(aL (aR c s (.tell who st)) k).done) (g:=fun k=>(aL s k).done) (fun i hi=>by rw[hS,if_neg hi]) z
   have e5:(aL s st).done=iF s st::(aL (aR c s (.tell who st)) st).done:=by
    rw[hS,if_pos rfl]
    exact gT h2
   rw[e5] at e2
   unfold uQ
   rw[hl]
   simp only[List.count_append,List.count_cons,List.count_nil] at*
   omega
  have hA:(aR c s (.tell who st)).bM.map (·.next)=s.bM.map (·.next):=by
   apply List.ext_getElem (by simp[aR])
   intro i hi1 hi2
   simp only[aR,List.length_map,List.length_set] at hi1
   simp only[aR,List.getElem_map,List.getElem_set]
   split
   ·rename_i hk;subst hk;simp[aF,List.getD,hi1]
   ·rfl
  show TSt.mk _ _ ((aR c s (.tell who st)).bM.map (·.next)) (jX (qU (aR c s (.tell who st)))) (jX (uQ (aR c s (.tell who st)))) (s.told++[iF s st])=_
  rw[aYL,hD,hA,hjob]
  rfl
end Go.AM
end
section
namespace Go.AM
theorem WU {α:Type} [Inhabited α] {l:List α} {k:Nat} (h:k<l.length):l.Perm (l.getD k default::B3 l k):=by
 have e:l=l.take k++l.getD k default::l.drop (k+1):=by
  have:l.getD k default=l[k]:=by simp[List.getD,h]
  rw[this,←List.drop_eq_getElem_cons h,List.take_append_drop]
 conv=>lhs;rw[e]
 exact List.perm_middle
theorem akU {α:Type} {l:List α} {k:Nat}:(B3 l k).Sublist l:=by
 unfold B3
 have h:=(List.Sublist.refl (l.take k)).append (List.drop_sublist_drop_left l (Nat.le_succ k))
 rwa [List.take_append_drop] at h
theorem RP {α:Type} [Inhabited α] {l:List α} {k:Nat} (h:k<l.length):(B3 l k).length+1=l.length:=by
 have:=(WU h).length_eq
 simp at this;omega
theorem ajV {α:Type} [Inhabited α] {p:α→Bool} {l:List α} (h:0≤bK p l):(bK p l).toNat<l.length∧p (l.getD (bK p l).toNat default)=true:=by
 have h1:=PQ (p:=p) (l:=l)
 refine⟨by omega,?_⟩
 unfold bK at*
 split at h
 ·rename_i i hi
  have:=List.findIdx?_eq_some_iff_getElem.1 hi
  obtain⟨q1,q2,_⟩:=this
  simpa [List.getD,q1] using q2
 ·omega
theorem PJ {l:List fC} {n:Int} (h: ∃j∈l,j.n=n):(bK (isC n) l).toNat<l.length∧(l.getD (bK (isC n) l).toNat default).n=n:=by
 obtain⟨j,hj,hn⟩:=h
 have h1:0≤bK (isC n) l:=cH.2 ⟨j,hj,by simp[isC,hn]⟩
 obtain⟨q1,q2⟩:=ajV h1
 exact⟨q1,by simpa [isC] using q2⟩
theorem aj2 {l:List fC} {n:Int} (h: ∃j∈l,j.n=n):(PE l n).length+1=l.length:=RP (PJ h).1
theorem amU {l:List fC} {n:Int} (h: ∃j∈l,j.n=n) {x:fC} (hx:x∈l) (hn:x.n≠n):x∈PE l n:=by
 obtain⟨h1,h2⟩:=PJ h
 have:=(WU h1).mem_iff.1 hx
 rcases List.mem_cons.1 this with rfl|hm
 ·exact absurd h2 hn
 ·exact hm
theorem TA {l:List fC} {n:Int}:(PE l n).Sublist l:=akU
theorem QF {α:Type} [Inhabited α] {l:List α} {i:Nat}:(l.drop 1).getD i default=l.getD (i+1) default:=by
 cases l with
 |nil=>simp
 |cons x l=>simp
theorem WI {α:Type} [Inhabited α] {l:List α} {x:α} {i:Nat}:(l++[x]).getD i default=if i=l.length then x else l.getD i default:=by
 simp only[List.getD,List.getElem?_append]
 split
 ·rw[if_neg (by omega)]
 ·split
  ·rename_i h;subst h;simp
  ·rename_i h1 h2
   rw[List.getElem?_eq_none (by simp;omega),List.getElem?_eq_none (by omega)]
theorem ZO {l:List fC} (h:l.Pairwise fun a b=>a.n<b.n) {a b:fC} (ha:a∈l) (hb:b∈l) (he:a.n=b.n):a=b:=by
 induction l with
 |nil=>simp at ha
 |cons x l ih=>
  rw[List.pairwise_cons] at h
  rcases List.mem_cons.1 ha with e1|h1
  ·rcases List.mem_cons.1 hb with e2|h2
   ·rw[e1,e2]
   ·have:=h.1 b h2;rw[e1] at he;omega
  ·rcases List.mem_cons.1 hb with e2|h2
   ·have:=h.1 a h1;rw[e2] at he;omega
   ·exact ih h.2 h1 h2
theorem S0 {c:Cfg} (hb:aQ c) {st:Nat} (h:st<4):0≤c.lat.getD st default∧c.lat.getD st default≤3:=aj1 hb.2.2.1 (by have:=hb.2.1;omega)
theorem COk.af8 {c:Cfg} {s:CSt} (h:COk c s) {st:Nat} (hs:st<4) (hd:0<(aL s st).done.length): ∃j∈(aF s (iF s st).who.toNat).out,j.n=(iF s st).n∧j.left=st:=
 ((h.slv st hs).out _ (M9 (cC hd))).2
theorem Z0.wT {c:Cfg} {s s':CSt} {st:Nat} (h:Z0 c s st) (he:aL s' st=aL s st) (ho: ∀x∈cS (aL s st),∀j∈(aF s x.1.toNat).out,j.n=x.2→j.left=st→j∈(aF s' x.1.toNat).out):Z0 c s' st:=by
 refine⟨by rw[he];exact h.pl,by rw[he];exact h.dl,by rw[he];exact h.last,by rw[he];exact h.inc,fun x hx=> ?_,by rw[he];exact h.rsp,by rw[he];exact h.left⟩
 rw[he] at hx
 obtain⟨q1,j,q2,q3,q4⟩:=h.out x hx
 exact⟨q1,j,ho x hx j q2 q3 q4,q3,q4⟩
theorem mD.tell {c:Cfg} {who:Nat} {p:fR} (h:mD c who p) {n:Int} {st:Nat} (hs:st<4):mD c who {p with out:=PE p.out n,last:=st}:=by
 have hm: ∀j∈PE p.out n,j∈p.out:=fun j hj=>TA.subset hj
 exact⟨h.next,h.ql,Nat.le_trans TA.length_le h.ol,by dsimp only;omega,h.queue,fun j hj=>h.out j (hm j hj),h.acX.sublist TA,fun a ha b hb=>h.akF a (hm a ha) b (hm b hb)⟩
theorem mD.adm {c:Cfg} {who:Nat} {p:fR} (h:mD c who p) {st:Nat} (h1:0<p.queue.length) (h2:p.out.length<4) (h3:gZ c.map (bT c who (p.queue.getD 0 default))=st)
 (h4: ∀j∈p.out,(bT c who j.n).id=(bT c who (p.queue.getD 0 default)).id→j.left=st):mD c who {p with queue:=p.queue.drop 1,out:=p.out++[⟨who,p.queue.getD 0 default,st⟩]}:=by
 have hq0:=h.queue 0 h1
 have hn:=h.next
 have hql:=h.ql
 have hl:(p.queue.drop 1).length=p.queue.length-1:=by simp
 refine⟨hn,by dsimp only;omega,by simp;omega,h.last,fun i hi=> ?_,fun j hj=> ?_,?_,fun a ha b hb hab=> ?_⟩
 ·dsimp only at hi ⊢
  rw[QF,h.queue (i+1) (by omega)];omega
 ·dsimp only at hj ⊢
  rcases List.mem_append.1 hj with hj|hj
  ·have:=h.out j hj
   exact⟨this.1,by omega,this.2.2⟩
  ·simp only[List.mem_singleton] at hj
   subst hj
   exact⟨rfl,by dsimp only;omega,h3.symm⟩
 ·dsimp only
  rw[List.pairwise_append]
  refine⟨h.acX,by simp,fun a ha b hb=> ?_⟩
  simp only[List.mem_singleton] at hb
  subst hb
  have:=(h.out a ha).2.1
  dsimp only;omega
 ·dsimp only at ha hb
  rcases List.mem_append.1 ha with ha|ha<;>rcases List.mem_append.1 hb with hb|hb
  ·exact h.akF a ha b hb hab
  ·simp only[List.mem_singleton] at hb;subst hb;exact h4 a ha hab
  ·simp only[List.mem_singleton] at ha;subst ha;exact(h4 b hb hab.symm).symm
  ·simp only[List.mem_singleton] at ha hb;subst ha;subst hb;rfl
theorem mD.ask {c:Cfg} {who:Nat} {p:fR} (h:mD c who p) (h1:p.queue.length<2) (h2:p.next<(c.cP.getD who default).length):mD c who {p with queue:=p.queue++[p.next],next:=p.next+1}:=by
 have hn:=h.next
 have hql:=h.ql
 refine⟨by dsimp only;omega,by simp;omega,h.ol,h.last,fun i hi=> ?_,fun j hj=> ?_,h.acX,h.akF⟩
 ·simp only[List.length_append,List.length_singleton] at hi ⊢
  rw[WI]
  split
  ·omega
  ·rw[h.queue i (by omega)];omega
 ·have:=h.out j hj
  refine⟨this.1,?_,this.2.2⟩
  simp only[List.length_append,List.length_singleton];omega
theorem ajG {c:Cfg} {s:CSt} (hb:aQ c) (h:COk c s) {m:Mic} (hg:EH c s m):BA c (cX (aR c s m)):=by
 rw[af6 hb h hg]
 have hw:=XZ h hg
 cases m with
 |tick st=>exact h.st
 |adm who st=>exact h.st
 |tell who st=>exact G9 hb h.st (hw ⟨3,who,(iF s st).n⟩ (List.mem_singleton.2 rfl))
 |work st=>exact G9 hb h.st (hw ⟨2,(bI s st).who,(bI s st).n⟩ (List.mem_singleton.2 rfl))
 |ask who=>exact G9 hb h.st (hw ⟨1,who,(aF s who).next⟩ (List.mem_singleton.2 rfl))
theorem aa4 {c:Cfg} {s:CSt} {m:Mic}:(aR c s m).bM.length=s.bM.length∧(aR c s m).dD.length=s.dD.length:=by
 cases m<;>simp[aR]
theorem am9 {c:Cfg} {s:CSt} (h:COk c s) {m:Mic} (hg:EH c s m): ∀k,k<3→mD c k (aF (aR c s m) k):=by
 have hpl:=h.pl
 intro k hk
 have hp:=h.port k hk
 cases m with
 |tick st=>exact hp
 |work st=>exact hp
 |tell who st=>
  obtain⟨h0,h1,h2,h3⟩:=hg
  rw[bL (s:=s) (s':=aR c s (.tell who st)) rfl (by omega)]
  split
  ·rename_i e;subst e;exact hp.tell h1
  ·exact hp
 |adm who st=>
  obtain⟨h0,h1,h2,h3,h4,h5,h6⟩:=hg
  rw[bL (s:=s) (s':=aR c s (.adm who st)) rfl (by omega)]
  split
  ·rename_i e;subst e;exact hp.adm h3 h4 h5 h6
  ·exact hp
 |ask who=>
  obtain⟨h0,h1,h2⟩:=hg
  rw[bL (s:=s) (s':=aR c s (.ask who)) rfl (by omega)]
  split
  ·rename_i e;subst e;exact hp.ask h1 h2
  ·exact hp
theorem an6 {c:Cfg} {s:CSt} (hb:aQ c) (h:COk c s) {m:Mic} (hg:EH c s m): ∀k,k<4→Z0 c (aR c s m) k:=by
 have hpl:=h.pl
 have hsl:=h.sl
 intro k hk
 have hv:=h.slv k hk
 cases m with
 |ask who=>
  obtain⟨h0,h1,h2⟩:=hg
  refine hv.wT rfl fun x hx j hj _ _=> ?_
  rw[bL (s:=s) (s':=aR c s (.ask who)) rfl (by omega)]
  split
  ·rename_i e;rw[e] at hj;exact hj
  ·exact hj
 |tick st=>
  obtain⟨h1,h2,h3⟩:=hg
  have hS:=bO (s:=s) (s':=aR c s (.tick st)) rfl (by omega:st<s.dD.length) k
  by_cases e:k=st
  ·subst e
   rw[if_pos rfl] at hS
   have hl0:=hv.left 0 h2
   have hk2:cS (aL (aR c s (.tick k)) k)=cS (aL s k):=by
    rw[hS];unfold cS;dsimp only
    congr 1
    conv=>rhs;rw[gT h2]
    conv=>lhs;rw[gT h2]
    rfl
   refine⟨by rw[hS];simpa using hv.pl,by rw[hS];exact hv.dl,by rw[hS];exact hv.last,by rw[hk2];exact hv.inc,fun x hx=> ?_,by rw[hS];exact hv.rsp,?_⟩
   ·rw[hk2] at hx;exact hv.out x hx
   ·rw[hS]
    simp only[List.length_set]
    intro i hi
    rw[pY h2]
    split
    ·rename_i e;subst e
     dsimp only
     unfold bI
     exact⟨by omega,fun hc=>absurd hc (by omega)⟩
    ·exact hv.left i hi
  ·rw[if_neg e] at hS
   exact hv.wT hS fun x hx j hj _ _=>hj
 |work st=>
  obtain⟨h1,h2,h3,h4⟩:=hg
  have hS:=bO (s:=s) (s':=aR c s (.work st)) rfl (by omega:st<s.dD.length) k
  by_cases e:k=st
  ·subst e
   rw[if_pos rfl] at hS
   have hk2:cS (aL (aR c s (.work k)) k)=cS (aL s k):=by
    rw[hS];unfold cS;dsimp only
    conv=>rhs;rw[gT h2]
    simp[key,bI]
   have hm:((bI s k).who,(bI s k).n)∈cS (aL s k):=JB (cC h2)
   obtain⟨q1,q2,q3⟩:=h.vIn h1 hm
   dsimp only at q1 q2 q3
   refine⟨by rw[hS];have:=hv.pl;simp;omega,by rw[hS];simp;omega,by rw[hS];exact hv.last,by rw[hk2];exact hv.inc,fun x hx=> ?_,?_,?_⟩
   ·rw[hk2] at hx;exact hv.out x hx
   ·rw[hS]
    intro j hj
    rcases List.mem_append.1 hj with hj|hj
    ·exact hv.rsp j hj
    ·simp only[List.mem_singleton] at hj
     subst hj
     have hp:=h.port (bI s k).who.toNat (by omega)
     have hask:oA c (bI s k).who (bI s k).n:=by
      have:=hp.asks (n:=(bI s k).n) (by omega) q2 (by have:=hp.ql;omega)
      have e1:(((bI s k).who.toNat:Nat):Int)=(bI s k).who:=by omega
      rwa [e1] at this
     exact afD h.atm.wr (GK hb hask)
   ·rw[hS]
    simp only[List.length_drop]
    intro i hi
    rw[QF]
    have:=hv.left (i+1) (by omega)
    rw[this.2 (by omega)]
    have:=S0 hb h1
    exact⟨by omega,fun _=>rfl⟩
  ·rw[if_neg e] at hS
   exact hv.wT hS fun x hx j hj _ _=>hj
 |adm who st=>
  obtain⟨h0,h1,h2,h3,h4,h5,h6⟩:=hg
  have hS:=bO (s:=s) (s':=aR c s (.adm who st)) rfl (by omega:st<s.dD.length) k
  have hP:=fun w=>bL (s:=s) (s':=aR c s (.adm who st)) rfl (by omega:who<s.bM.length) w
  have hsub: ∀w,∀j∈(aF s w).out,j∈(aF (aR c s (.adm who st)) w).out:=fun w j hj=>by
   rw[hP]
   split
   ·rename_i e;subst e;exact List.mem_append_left _ hj
   ·exact hj
  by_cases e:k=st
  ·subst e
   rw[if_pos rfl] at hS
   have hk2:cS (aL (aR c s (.adm who k)) k)=cS (aL s k)++[((who:Int),(aF s who).queue.getD 0 default)]:=by
    rw[hS];unfold cS;simp
   have hq0:=(h.port who h0).queue 0 h3
   refine⟨by rw[hS];simp;omega,by rw[hS];exact hv.dl,by rw[hS];dsimp only;omega,?_,fun x hx=> ?_,by rw[hS];exact hv.rsp,?_⟩
   ·rw[hk2,List.pairwise_append]
    refine⟨hv.inc,by simp,fun a ha b hb' hab=> ?_⟩
    simp only[List.mem_singleton] at hb'
    subst hb'
    dsimp only at hab ⊢
    have:=(h.vIn h1 ha).2.2
    have e:a.1.toNat=who:=by omega
    rw[e] at this
    omega
   ·rw[hk2] at hx
    rcases List.mem_append.1 hx with hx|hx
    ·obtain⟨q1,j,q2,q3⟩:=hv.out x hx
     exact⟨q1,j,hsub _ j q2,q3⟩
    ·simp only[List.mem_singleton] at hx
     subst hx
     refine⟨by dsimp only;omega,⟨who,(aF s who).queue.getD 0 default,k⟩,?_,rfl,rfl⟩
     rw[hP,if_pos (by simp)]
     simp
   ·rw[hS]
    simp only[List.length_append,List.length_singleton]
    intro i hi
    rw[WI]
    have:=S0 hb h1
    split
    ·exact⟨by dsimp only;omega,fun _=>rfl⟩
    ·exact hv.left i (by omega)
  ·rw[if_neg e] at hS
   exact hv.wT hS fun x hx j hj _ _=>hsub _ j hj
 |tell who st=>
  obtain⟨h0,h1,h2,h3⟩:=hg
  have h3':(iF s st).who=who:=h3
  have hS:=bO (s:=s) (s':=aR c s (.tell who st)) rfl (by omega:st<s.dD.length) k
  have hP:=fun w=>bL (s:=s) (s':=aR c s (.tell who st)) rfl (by omega:who<s.bM.length) w
  obtain⟨jh,g1,g2,g3⟩:=h.af8 h1 h2
  have ew:(iF s st).who.toNat=who:=by omega
  rw[ew] at g1
  have hex: ∃j∈(aF s who).out,j.n=(iF s st).n:=⟨jh,g1,g2⟩
  have hsub: ∀w,∀j∈(aF s w).out,(w=who→j.n≠(iF s st).n)→j∈(aF (aR c s (.tell who st)) w).out:=fun w j hj hne=>by
   rw[hP]
   split
   ·rename_i e;subst e;exact amU hex hj (hne rfl)
   ·exact hj
  have hcons:cS (aL s st)=key (iF s st)::(((aL s st).done.drop 1).map key++(aL s st).pipe.map fun j=>(j.who,j.n)):=by
   unfold cS
   conv=>lhs;rw[gT h2]
   rfl
  by_cases e:k=st
  ·subst e
   rw[if_pos rfl] at hS
   have hk2:cS (aL (aR c s (.tell who k)) k)=((aL s k).done.drop 1).map key++(aL s k).pipe.map fun j=>(j.who,j.n):=by
    rw[hS];rfl
   have hinc:=hv.inc
   rw[hcons,List.pairwise_cons] at hinc
   refine⟨by rw[hS];exact hv.pl,by rw[hS];have:=hv.dl;simp;omega,by rw[hS];exact hv.last,by rw[hk2];exact hinc.2,fun x hx=> ?_,?_,by rw[hS];exact hv.left⟩
   ·rw[hk2] at hx
    obtain⟨q1,j,q2,q3,q4⟩:=hv.out x (by rw[hcons];exact List.mem_cons_of_mem _ hx)
    refine⟨q1,j,hsub _ j q2 fun he hn=> ?_,q3,q4⟩
    have:=hinc.1 x hx (by simp only[key];omega)
    simp only[key] at this
    omega
   ·rw[hS]
    exact fun j hj=>hv.rsp j (List.mem_of_mem_drop hj)
  ·rw[if_neg e] at hS
   refine hv.wT hS fun x hx j hj hn hl=>hsub _ j hj fun he hne=> ?_
   subst he
   have hp:=h.port x.1.toNat h0
   have hu:jh=j:=by
    exact ZO hp.acX g1 hj (by omega)
   subst hu
   omega
theorem abB {f g:Nat→Nat} {who:Nat} (h:who<3) (hfg: ∀i,i≠who→f i=g i):f 0+f 1+f 2+g who=g 0+g 1+g 2+f who:=by
 have:who=0∨who=1∨who=2:=by omega
 rcases this with rfl|rfl|rfl
 ·have:=hfg 1 (by omega);have:=hfg 2 (by omega);omega
 ·have:=hfg 0 (by omega);have:=hfg 2 (by omega);omega
 ·have:=hfg 0 (by omega);have:=hfg 1 (by omega);omega
theorem aaC {f g:Nat→Nat} {st:Nat} (h:st<4) (hfg: ∀i,i≠st→f i=g i):f 0+f 1+f 2+f 3+g st=g 0+g 1+g 2+g 3+f st:=by
 have:st=0∨st=1∨st=2∨st=3:=by omega
 rcases this with rfl|rfl|rfl|rfl
 ·have:=hfg 1 (by omega);have:=hfg 2 (by omega);have:=hfg 3 (by omega);omega
 ·have:=hfg 0 (by omega);have:=hfg 2 (by omega);have:=hfg 3 (by omega);omega
 ·have:=hfg 0 (by omega);have:=hfg 1 (by omega);have:=hfg 3 (by omega);omega
 ·have:=hfg 0 (by omega);have:=hfg 1 (by omega);have:=hfg 2 (by omega);omega
theorem ahN {c:Cfg} {s:CSt} (h:COk c s) {m:Mic} (hg:EH c s m):(aF (aR c s m) 0).out.length+(aF (aR c s m) 1).out.length+(aF (aR c s m) 2).out.length=hU (aR c s m) 0+hU (aR c s m) 1+hU (aR c s m) 2+hU (aR c s m) 3:=by
 have hpl:=h.pl
 have hsl:=h.sl
 have hc:=h.count
 cases m with
 |ask who=>
  obtain⟨h0,h1,h2⟩:=hg
  have hP:=fun w=>bL (s:=s) (s':=aR c s (.ask who)) rfl (by omega:who<s.bM.length) w
  have: ∀w,(aF (aR c s (.ask who)) w).out=(aF s w).out:=fun w=>by
   rw[hP];split
   ·rename_i e;subst e;rfl
   ·rfl
  rw[this,this,this];exact hc
 |tick st=>
  obtain⟨h1,h2,h3⟩:=hg
  have hS:=fun k=>bO (s:=s) (s':=aR c s (.tick st)) rfl (by omega:st<s.dD.length) k
  have: ∀k,hU (aR c s (.tick st)) k=hU s k:=fun k=>by
   unfold hU;rw[hS];split
   ·rename_i e;subst e;simp
   ·rfl
  rw[this,this,this,this];exact hc
 |work st=>
  obtain⟨h1,h2,h3,h4⟩:=hg
  have hS:=fun k=>bO (s:=s) (s':=aR c s (.work st)) rfl (by omega:st<s.dD.length) k
  have: ∀k,hU (aR c s (.work st)) k=hU s k:=fun k=>by
   unfold hU;rw[hS];split
   ·rename_i e;subst e;simp;omega
   ·rfl
  rw[this,this,this,this];exact hc
 |adm who st=>
  obtain⟨h0,h1,h2,h3⟩:=hg
  have hS:=fun k=>bO (s:=s) (s':=aR c s (.adm who st)) rfl (by omega:st<s.dD.length) k
  have hP:=fun w=>bL (s:=s) (s':=aR c s (.adm who st)) rfl (by omega:who<s.bM.length) w
  have e1:=abB (f:=fun w=>(aF (aR c s (.adm who st)) w).out.length) (g:=fun w=>(aF s w).out.length) h0 fun i hi=>by rw[hP,if_neg hi]
  have e2:=aaC (f:=hU (aR c s (.adm who st))) (g:=hU s) h1 fun i hi=>by unfold hU;rw[hS,if_neg hi]
  have e3:(aF (aR c s (.adm who st)) who).out.length=(aF s who).out.length+1:=by rw[hP,if_pos rfl];simp
  have e4:hU (aR c s (.adm who st)) st=hU s st+1:=by unfold hU;rw[hS,if_pos rfl];simp;omega
  omega
 |tell who st=>
  obtain⟨h0,h1,h2,h3⟩:=hg
  have h3':(iF s st).who=who:=h3
  have hS:=fun k=>bO (s:=s) (s':=aR c s (.tell who st)) rfl (by omega:st<s.dD.length) k
  have hP:=fun w=>bL (s:=s) (s':=aR c s (.tell who st)) rfl (by omega:who<s.bM.length) w
  obtain⟨jh,g1,g2,g3⟩:=h.af8 h1 h2
  have ew:(iF s st).who.toNat=who:=by omega
  rw[ew] at g1
  have e1:=abB (f:=fun w=>(aF (aR c s (.tell who st)) w).out.length) (g:=fun w=>(aF s w).out.length) h0 fun i hi=>by rw[hP,if_neg hi]
  have e2:=aaC (f:=hU (aR c s (.tell who st))) (g:=hU s) h1 fun i hi=>by unfold hU;rw[hS,if_neg hi]
  have e3:(aF (aR c s (.tell who st)) who).out.length+1=(aF s who).out.length:=by rw[hP,if_pos rfl];exact aj2 ⟨jh,g1,g2⟩
  have e4:hU (aR c s (.tell who st)) st+1=hU s st:=by unfold hU;rw[hS,if_pos rfl];simp;omega
  omega
theorem o9 {c:Cfg} {s:CSt} (hb:aQ c) (h:COk c s) {m:Mic} (hg:EH c s m):COk c (aR c s m):=
 ⟨(ajG hb h hg).atm,by rw[aa4.1];exact h.pl,by rw[aa4.2];exact h.sl,am9 h hg,an6 hb h hg,ahN h hg,ajG hb h hg⟩
end Go.AM
end
section
namespace Go.AM
def wY (c:Cfg):CSt→List Mic→Prop
 |_,[]=>True
 |s,m::l=>EH c s m∧wY c (aR c s m) l
def dR (c:Cfg) (s:CSt) (l:List Mic):CSt:=l.foldl (aR c) s
def iP (c:Cfg):CSt→List Mic→List Ev
 |_,[]=>[]
 |s,m::l=>y0 s m++iP c (aR c s m) l
theorem tB {c:Cfg} {s:CSt} {a b:List Mic}:dR c s (a++b)=dR c (dR c s a) b:=by simp[dR]
theorem HA {c:Cfg}: ∀{a b:List Mic} {s:CSt},wY c s (a++b)↔wY c s a∧wY c (dR c s a) b
 | [],b,s=>by simp[wY,dR]
 |m::a,b,s=>by
  have:=HA (c:=c) (a:=a) (b:=b) (s:=aR c s m)
  simp only[List.cons_append,wY,this,and_assoc]
  rfl
theorem CV {c:Cfg} (hb:aQ c): ∀{l:List Mic} {s:CSt},COk c s→wY c s l→COk c (dR c s l)∧cX (dR c s l)=runM c (cX s) (iP c s l)∧F9 c (cX s) (iP c s l)
 | [],s,h,_=>⟨h,rfl,pV⟩
 |m::l,s,h,hg=>by
  obtain⟨h1,h2⟩:=hg
  obtain⟨q1,q2,q3⟩:=CV hb (l:=l) (o9 hb h h1) h2
  have ha:=af6 hb h h1
  refine⟨q1,?_,?_⟩
  ·show cX (dR c (aR c s m) l)=_
   rw[q2,ha]
   show _=runM c (cX s) (y0 s m++iP c (aR c s m) l)
   rw[ZL]
  ·show F9 c (cX s) (y0 s m++iP c (aR c s m) l)
   rw[WS]
   refine⟨?_,by rw[←ha];exact q3⟩
   have hw:=XZ h h1
   cases m with
   |tick st=>exact pV
   |adm who st=>exact pV
   |tell who st=>exact xB.2 ⟨hw ⟨3,who,(iF s st).n⟩ (List.mem_singleton.2 rfl),pV⟩
   |work st=>exact xB.2 ⟨hw ⟨2,(bI s st).who,(bI s st).n⟩ (List.mem_singleton.2 rfl),pV⟩
   |ask who=>exact xB.2 ⟨hw ⟨1,who,(aF s who).next⟩ (List.mem_singleton.2 rfl),pV⟩
def pQ (s:CSt) (who k:Nat):Nat:=(((aF s who).last+(k:Int))%4).toNat
def NN (s:CSt) (who st:Nat):Bool:=decide (0<(aL s st).done.length∧((aL s st).done.getD 0 default).who=who)
def vT (i:CIn) (s:CSt) (who:Nat):Option Mic:=if i.ready.getD who default=true then (([1,2,3,4].map (pQ s who)).find? (NN s who)).map (.tell who) else none
def qW (i:CIn) (s:CSt) (st:Nat):Option Mic:=
 if i.n9.getD st default=true∨(aL s st).pipe.length=0 then none else if 0<(bI s st).left then some (.tick st) else if (aL s st).done.length<2 then some (.work st) else none
def sM (s:CSt) (st k:Nat):Nat:=(((aL s st).last+(k:Int))%3).toNat
def KE (c:Cfg) (s:CSt) (used:List Bool) (st who:Nat):Bool:= !(used.getD who default)&&decide (HV c s who st)
def AO (c:Cfg) (s:CSt) (used:List Bool) (st:Nat):Option Nat:=if (aL s st).pipe.length<2 then ([1,2,3].map (sM s st)).find? (KE c s used st) else none
def PA (c:Cfg) (i:CIn) (s:CSt) (who:Nat):Option Mic:=if i.send.getD who default=true∧(aF s who).queue.length<2∧(aF s who).next<(c.cP.getD who default).length then some (.ask who) else none
def atS (c:Cfg) (s:CSt):Option Mic→CSt
 |none=>s
 |some m=>aR c s m
def vE (c:Cfg) (f:CSt→Nat→Option Mic):CSt→List Nat→List Mic
 |_,[]=>[]
 |s,k::l=>match f s k with
  |none=>vE c f s l
  |some m=>m::vE c f (aR c s m) l
def oP (c:Cfg):CSt→List Bool→List Nat→List Mic
 |_,_,[]=>[]
 |s,u,st::l=>match AO c s u st with
  |none=>oP c s u l
  |some who=>.adm who st::oP c (aR c s (.adm who st)) (u.set who true) l
def KQ (c:Cfg) (i:CIn) (s:CSt):List Mic:=vE c (vT i) s [0,1,2]
def xX (c:Cfg) (i:CIn) (s:CSt):List Mic:=vE c (qW i) s [0,1,2,3]
def ad4 (c:Cfg) (s:CSt):List Mic:=oP c s [false,false,false] [0,1,2,3]
def MV (c:Cfg) (i:CIn) (s:CSt):List Mic:=vE c (PA c i) s [0,1,2]
def CW (c:Cfg) (i:CIn) (s:CSt):CSt:=dR c s (KQ c i s)
def QD (c:Cfg) (i:CIn) (s:CSt):CSt:=dR c (CW c i s) (xX c i (CW c i s))
def OI (c:Cfg) (i:CIn) (s:CSt):CSt:=dR c (QD c i s) (ad4 c (QD c i s))
def vF (c:Cfg) (i:CIn) (s:CSt):CSt:=dR c (OI c i s) (MV c i (OI c i s))
def YC (c:Cfg) (i:CIn) (s:CSt):List Mic:=KQ c i s++xX c i (CW c i s)++ad4 c (QD c i s)++MV c i (OI c i s)
theorem PI {c:Cfg} {i:CIn} {s:CSt}:vF c i s=dR c s (YC c i s):=by
 unfold YC vF OI QD CW
 simp only[tB]
theorem LW {c:Cfg} (hb:aQ c) {f:CSt→Nat→Option Mic}: ∀{l:List Nat} {s:CSt},COk c s→(∀s k m,COk c s→k∈l→f s k=some m→EH c s m)→wY c s (vE c f s l)
 | [],s,_,_=>trivial
 |k::l,s,h,hf=>by
  unfold vE
  split
  ·exact LW hb h fun s k m hs hk hm=>hf s k m hs (List.mem_cons_of_mem _ hk) hm
  ·rename_i m hm
   have hg:=hf s k m h (by simp) hm
   exact⟨hg,LW hb (o9 hb h hg) fun s k m hs hk hm=>hf s k m hs (List.mem_cons_of_mem _ hk) hm⟩
theorem TB {c:Cfg} {i:CIn} {s:CSt} (_:COk c s) {who:Nat} (hw:who<3) {m:Mic} (hm:vT i s who=some m):EH c s m:=by
 unfold vT at hm
 split at hm
 ·rw[Option.map_eq_some_iff] at hm
  obtain⟨st,h1,rfl⟩:=hm
  have h2:=List.find?_some h1
  have h3:=List.mem_of_find?_eq_some h1
  obtain⟨k,_,rfl⟩:=List.mem_map.1 h3
  obtain⟨q1,q2⟩:=of_decide_eq_true h2
  exact⟨hw,by unfold pQ;omega,q1,q2⟩
 ·cases hm
theorem LM {c:Cfg} {i:CIn} {s:CSt} (_:COk c s) {st:Nat} (hw:st<4) {m:Mic} (hm:qW i s st=some m):EH c s m:=by
 unfold qW at hm
 split at hm
 ·cases hm
 ·rename_i h1
  split at hm
  ·rename_i h2
   cases hm
   exact⟨hw,by omega,h2⟩
  ·rename_i h2
   split at hm
   ·rename_i h3
    cases hm
    exact⟨hw,by omega,h2,h3⟩
   ·cases hm
theorem XH {c:Cfg} {s:CSt} {u:List Bool} {st:Nat} (hs:st<4) {who:Nat} (hm:AO c s u st=some who):EH c s (.adm who st):=by
 unfold AO at hm
 split at hm
 ·rename_i h1
  have h2:=List.find?_some hm
  have h3:=List.mem_of_find?_eq_some hm
  obtain⟨k,_,rfl⟩:=List.mem_map.1 h3
  unfold KE at h2
  rw[Bool.and_eq_true] at h2
  exact⟨by unfold sM;omega,hs,h1,of_decide_eq_true h2.2⟩
 ·cases hm
theorem YH {c:Cfg} {i:CIn} {s:CSt} (_:COk c s) {who:Nat} (hw:who<3) {m:Mic} (hm:PA c i s who=some m):EH c s m:=by
 unfold PA at hm
 split at hm
 ·rename_i h
  cases hm
  exact⟨hw,h.2.1,h.2.2⟩
 ·cases hm
theorem XU {c:Cfg} (hb:aQ c): ∀{l:List Nat} {s:CSt} {u:List Bool},COk c s→(∀k∈l,k<4)→wY c s (oP c s u l)
 | [],s,u,_,_=>trivial
 |k::l,s,u,h,hl=>by
  unfold oP
  split
  ·exact XU hb h fun k hk=>hl k (List.mem_cons_of_mem _ hk)
  ·rename_i who hm
   have hg:=XH (hl k (by simp)) hm
   exact⟨hg,XU hb (o9 hb h hg) fun k hk=>hl k (List.mem_cons_of_mem _ hk)⟩
theorem tC {k:Nat} (h:k∈[0,1,2]):k<3:=by simp at h;omega
theorem w8 {k:Nat} (h:k∈[0,1,2,3]):k<4:=by simp at h;omega
theorem aaI {c:Cfg} (hb:aQ c) {i:CIn} {s:CSt} (h:COk c s):wY c s (KQ c i s):=LW hb h fun s k m hs hk hm=>TB hs (tC hk) hm
theorem ZB {c:Cfg} (hb:aQ c) {i:CIn} {s:CSt} (h:COk c s):wY c s (xX c i s):=LW hb h fun s k m hs hk hm=>LM hs (w8 hk) hm
theorem afK {c:Cfg} (hb:aQ c) {s:CSt} (h:COk c s):wY c s (ad4 c s):=XU hb h fun k hk=>w8 hk
theorem an9 {c:Cfg} (hb:aQ c) {i:CIn} {s:CSt} (h:COk c s):wY c s (MV c i s):=LW hb h fun s k m hs hk hm=>YH hs (tC hk) hm
theorem PH {c:Cfg} (hb:aQ c) {i:CIn} {s:CSt} (h:COk c s):COk c (CW c i s):=(CV hb h (aaI hb h)).1
theorem PV {c:Cfg} (hb:aQ c) {i:CIn} {s:CSt} (h:COk c s):COk c (QD c i s):=(CV hb (PH hb h) (ZB hb (PH hb h))).1
theorem afG {c:Cfg} (hb:aQ c) {i:CIn} {s:CSt} (h:COk c s):COk c (OI c i s):=(CV hb (PV hb h) (afK hb (PV hb h))).1
theorem KG {c:Cfg} (hb:aQ c) {i:CIn} {s:CSt} (h:COk c s):wY c s (YC c i s):=by
 unfold YC
 rw[HA,HA,HA]
 refine⟨⟨⟨aaI hb h,ZB hb (PH hb h)⟩,?_⟩,?_⟩
 ·rw[tB];exact afK hb (PV hb h)
 ·rw[tB,tB];exact an9 hb (afG hb h)
theorem PN {c:Cfg} (hb:aQ c) {i:CIn} {s:CSt} (h:COk c s):COk c (vF c i s):=by
 rw[PI];exact(CV hb h (KG hb h)).1
def HY:CSt:=⟨List.replicate 64 0,List.replicate 6 (-1),List.replicate 3 ⟨0,[],[],3⟩,List.replicate 4 ⟨[],[],2⟩,[]⟩
theorem amS:cX HY=st0:=by rfl
theorem MX {k:Nat} (hk:k<3):aF HY k=⟨0,[],[],3⟩:=by
 have:k=0∨k=1∨k=2:=by omega
 rcases this with rfl|rfl|rfl<;>rfl
theorem K4 {k:Nat} (hk:k<4):aL HY k=⟨[],[],2⟩:=by
 have:k=0∨k=1∨k=2∨k=3:=by omega
 rcases this with rfl|rfl|rfl|rfl<;>rfl
theorem anK (c:Cfg):COk c HY:=by
 have hst:BA c (cX HY):=by rw[amS];exact arF c
 refine⟨hst.atm,rfl,rfl,fun k hk=> ?_,fun k hk=> ?_,rfl,hst⟩
 ·rw[MX hk]
  exact⟨by simp,by simp,by simp,by decide,fun i hi=>by simp at hi,fun j hj=>by simp at hj,List.Pairwise.nil,fun a ha=>by simp at ha⟩
 ·refine⟨?_,?_,?_,?_,?_,?_,?_⟩<;>rw[K4 hk]
  ·simp
  ·simp
  ·decide
  ·exact List.Pairwise.nil
  ·intro x hx;simp[cS] at hx
  ·intro j hj;simp at hj
  ·intro i hi;simp at hi
end Go.AM
end
section
namespace Go.AM
end Go.AM
end
section
namespace Go.AM
end Go.AM
end
section
namespace Go.AM
end Go.AM
end
