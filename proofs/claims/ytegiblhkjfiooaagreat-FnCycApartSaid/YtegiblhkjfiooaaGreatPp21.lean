/- Texts laid together by a program: rules, contracts and the walk that leads to the law. -/
import Derived.Test.YtegiblhkjfiooaaGreatPp11
import Derived.Test.YtegiblhkjfiooaaGreatPp13
import Derived.Test.YtegiblhkjfiooaaGreatPp3
import Derived.Test.YtegiblhkjfiooaaGreatPp17
import Derived.Test.YtegiblhkjfiooaaGreatPp19
import Derived.Test.YtegiblhkjfiooaaGreatPp20
import Derived.Test.YtegiblhkjfiooaaGreatPp6
import Derived.OpenShut
import Derived.Below
set_option linter.unusedVariables false
set_option linter.unusedSimpArgs false
set_option linter.unusedSectionVars false
section
namespace Go.AM
def abD (m:List Rng) (O:Nat→Bool) (a:Int):Prop:=0≤bK (inR · a) m∧O (m.getD (bK (inR · a) m).toNat default).K5.toNat=true
theorem ZR {m:List Rng} {q:Req} (h:0≤bV m (kP q)): ∀a∈kP q,bK (inR · a) m=bV m (kP q):=by
 intro a ha
 unfold bV at h ⊢
 split at h
 ·omega
 ·rename_i h0
  rw[if_neg h0]
  split at h
  ·rename_i h1
   rw[if_pos h1]
   rw[List.all_eq_true] at h1
   exact of_decide_eq_true (h1 a ha)
  ·omega
theorem arL {m:List Rng} {O:Nat→Bool} {q:Req} (h:0≤bV m (kP q)) (ho:O (gZ m q).toNat=true): ∀a∈kP q,abD m O a:=by
 intro a ha
 have e:=ZR h a ha
 unfold gZ at ho
 rw[if_neg (show ¬bV m (bE q.addr q.many q.wrap)<0 by have h':=h;unfold kP at h';omega)] at ho
 refine⟨by rw[e];exact h,?_⟩
 rw[e]
 exact ho
theorem ao8 {m:List Rng} {O:Nat→Bool} {q:Req} (h:0≤bV m (kP q)) (ho:O (gZ m q).toNat=false): ∀a∈kP q,¬abD m O a:=by
 intro a ha hc
 have e:=ZR h a ha
 unfold gZ at ho
 rw[if_neg (show ¬bV m (bE q.addr q.many q.wrap)<0 by have h':=h;unfold kP at h';omega)] at ho
 have:=hc.2
 rw[e] at this
 rw[show bV m (bE q.addr q.many q.wrap)=bV m (kP q) from rfl] at ho
 rw[ho] at this
 cases this
structure GB (c c':Cfg) (A O:Nat→Bool):Prop where
 map:c'.map=c.map
 lat:c'.lat=c.lat
 yes: ∀k,k<3→A k=true→c'.cP.getD k default=c.cP.getD k default
 no: ∀k,k<3→A k=false→c'.cP.getD k default=[]
 own: ∀(k:Nat) (n:Int),k<3→oA c k n→O (gZ c.map (bT c k n)).toNat=A k
structure Sim (c c':Cfg) (A O:Nat→Bool) (s t:CSt):Prop where
 port: ∀k,k<3→A k=true→aF s k=aF t k
 idle: ∀k,k<3→A k=false→(aF t k).next=0∧(aF t k).queue=[]∧(aF t k).out=[]
 ED: ∀st,st<4→O st=true→aL s st=aL t st
 void: ∀st,st<4→O st=false→(aL t st).pipe=[]∧(aL t st).done=[]
 who: ∀st,st<4→∀x∈cS (aL s st),A x.1.toNat=O st
 words: ∀a:Int,0≤a→abD c.map O a→s.words.getD a.toNat default=t.words.getD a.toNat default
 holds: ∀k i:Nat,k<3→i<2→A k=true→s.holds.getD (k*2+i) default=t.holds.getD (k*2+i) default∧(s.holds.getD (k*2+i) default= -1∨abD c.map O (s.holds.getD (k*2+i) default))
 told:s.told.filter (fun j=>A j.who.toNat)=t.told
theorem GB.at {c c':Cfg} {A O:Nat→Bool} (h:GB c c' A O) {k:Nat} {n:Int} (hk:k<3) (ha:A k=true):bT c' k n=bT c k n:=by
 unfold bT
 rw[show (k:Int).toNat=k by omega,h.yes k hk ha]
theorem COk.atK {c:Cfg} {s:CSt} (h:COk c s) {k:Nat} (hk:k<3) (hq:0<(aF s k).queue.length):oA c k ((aF s k).queue.getD 0 default):=by
 have hp:=h.port k hk
 have:=hp.qIn (cC hq)
 have:=hp.ql
 exact hp.asks hk (by omega) (by omega)
theorem COk.asK {c:Cfg} {s:CSt} (h:COk c s) {st:Nat} (hs:st<4) {x:Int×Int} (hx:x∈cS (aL s st)):x.1=(x.1.toNat:Int)∧x.1.toNat<3∧oA c x.1 x.2:=by
 obtain⟨h1,h2,h3⟩:=h.vIn hs hx
 have hk:x.1.toNat<3:=by omega
 have e:x.1=(x.1.toNat:Int):=by omega
 refine⟨e,hk,?_⟩
 rw[e]
 exact(h.port _ hk).asks hk h2 (by omega)
theorem Sim.init {c c':Cfg} {A O:Nat→Bool}:Sim c c' A O HY HY:=by
 refine⟨fun _ _ _=>rfl,fun k hk _=> ?_,fun _ _ _=>rfl,fun st hs _=> ?_,fun st hs x hx=> ?_,fun _ _ _=>rfl,fun k i hk hi _=>⟨rfl,.inl ?_⟩,rfl⟩
 ·rw[MX hk];exact⟨rfl,rfl,rfl⟩
 ·rw[K4 hs];exact⟨rfl,rfl⟩
 ·rw[K4 hs] at hx;simp[cS] at hx
 ·show (List.replicate 6 (-1:Int)).getD (k*2+i) default= -1
  simp only[List.getD,List.getElem?_replicate]
  rw[if_pos (by omega)]
  rfl
def ag5 (A O:Nat→Bool):Mic→Bool
 | .tell who _=>A who
 | .tick st=>O st
 | .work st=>O st
 | .adm who _=>A who
 | .ask who=>A who
def ZN (O:Nat→Bool) (b:Bool):Mic→Prop
 | .tell _ st=>O st=b
 | .adm _ st=>O st=b
 |_=>True
theorem TC {v:nY} {x:fC}:cS {v with pipe:=v.pipe.set 0 {v.pipe.getD 0 default with left:=x.left}}=cS v:=by
 unfold cS
 dsimp only
 congr 1
 cases v.pipe with
 |nil=>rfl
 |cons y l=>rfl
theorem P3 {v:nY}: ∀x∈cS {v with done:=v.done.drop 1},x∈cS v:=by
 intro x hx
 unfold cS at hx ⊢
 dsimp only at hx
 rcases List.mem_append.1 hx with hx|hx
 ·obtain⟨j,hj,rfl⟩:=List.mem_map.1 hx
  exact List.mem_append_left _ (List.mem_map_of_mem (List.mem_of_mem_drop hj))
 ·exact List.mem_append_right _ hx
theorem QO {v:nY} (h:0<v.pipe.length) {r:Rsp}: ∀x∈cS {v with pipe:=v.pipe.drop 1,done:=v.done++[⟨(v.pipe.getD 0 default).who,(v.pipe.getD 0 default).n,r⟩]},x∈cS v:=by
 intro x hx
 unfold cS at hx ⊢
 dsimp only at hx
 rw[List.map_append] at hx
 rcases List.mem_append.1 hx with hx|hx
 ·rcases List.mem_append.1 hx with hx|hx
  ·exact List.mem_append_left _ hx
  ·simp only[List.map_cons,List.map_nil,List.mem_singleton] at hx
   subst hx
   exact List.mem_append_right _ (List.mem_map.2 ⟨_,cC h,rfl⟩)
 ·obtain⟨j,hj,rfl⟩:=List.mem_map.1 hx
  exact List.mem_append_right _ (List.mem_map.2 ⟨j,List.mem_of_mem_drop hj,rfl⟩)
theorem WL {v:nY} {j:fC} {l:Int}: ∀x∈cS {v with pipe:=v.pipe++[j],last:=l},x∈cS v∨x=(j.who,j.n):=by
 intro x hx
 unfold cS at hx ⊢
 dsimp only at hx
 rw[List.map_append,←List.append_assoc] at hx
 rcases List.mem_append.1 hx with hx|hx
 ·exact .inl hx
 ·simp only[List.map_cons,List.map_nil,List.mem_singleton] at hx
  exact .inr hx
theorem Sim.both {c c':Cfg} {A O:Nat→Bool} {s t:CSt} (hb:aQ c) (hp:GB c c' A O) (hs:COk c s) (ht:COk c' t) (h:Sim c c' A O s t) {m:Mic} (hg:EH c s m) (ha:ag5 A O m=true) (hi:ZN O true m):EH c' t m∧Sim c c' A O (aR c s m) (aR c' t m):=by
 have spl:=hs.pl
 have ssl:=hs.sl
 have tpl:=ht.pl
 have tsl:=ht.sl
 cases m with
 |tell who st=>
  obtain⟨h0,h1,h2,h3⟩:=hg
  have ha:A who=true:=ha
  have hi:O st=true:=hi
  have ev:=h.ED st h1 hi
  have ep:=h.port who h0 ha
  have ed:iF s st=iF t st:=by unfold iF;rw[ev]
  refine⟨⟨h0,h1,by rw[←ev];exact h2,by rw[←ev];exact h3⟩,?_⟩
  have hP: ∀k,aF (aR c s (.tell who st)) k=if k=who then {aF s who with out:=PE (aF s who).out (iF s st).n,last:=st} else aF s k:=bL (s:=s) rfl (by omega)
  have hP': ∀k,aF (aR c' t (.tell who st)) k=if k=who then {aF t who with out:=PE (aF t who).out (iF t st).n,last:=st} else aF t k:=bL (s:=t) rfl (by omega)
  have hV: ∀k,aL (aR c s (.tell who st)) k=if k=st then {aL s st with done:=(aL s st).done.drop 1} else aL s k:=bO (s:=s) rfl (by omega)
  have hV': ∀k,aL (aR c' t (.tell who st)) k=if k=st then {aL t st with done:=(aL t st).done.drop 1} else aL t k:=bO (s:=t) rfl (by omega)
  refine⟨fun k hk hak=> ?_,fun k hk hak=> ?_,fun st' hs' ho=> ?_,fun st' hs' ho=> ?_,fun st' hs' x hx=> ?_,h.words,h.holds,?_⟩
  ·rw[hP,hP'];split
   ·rw[ep,ed]
   ·exact h.port k hk hak
  ·rw[hP'];split
   ·rename_i e;subst e;rw[ha] at hak;cases hak
   ·exact h.idle k hk hak
  ·rw[hV,hV'];split
   ·rw[ev]
   ·exact h.ED st' hs' ho
  ·rw[hV'];split
   ·rename_i e;subst e;rw[hi] at ho;cases ho
   ·exact h.void st' hs' ho
  ·rw[hV] at hx
   split at hx
   ·rename_i e;subst e;exact h.who _ hs' x (P3 x hx)
   ·exact h.who st' hs' x hx
  ·show (s.told++[iF s st]).filter _=t.told++[iF t st]
   rw[List.filter_append,h.told,ed]
   have:A (iF t st).who.toNat=true:=by rw[←ed];show A ((aL s st).done.getD 0 default).who.toNat=true;rw[h3];simpa using ha
   simp[this]
 |tick st=>
  obtain⟨h1,h2,h3⟩:=hg
  have hi:O st=true:=ha
  have ev:=h.ED st h1 hi
  have ej:bI s st=bI t st:=by unfold bI;rw[ev]
  refine⟨⟨h1,by rw[←ev];exact h2,by rw[←ev];exact h3⟩,?_⟩
  have hV: ∀k,aL (aR c s (.tick st)) k=if k=st then {aL s st with pipe:=(aL s st).pipe.set 0 {bI s st with left:=(bI s st).left-1}} else aL s k:=bO (s:=s) rfl (by omega)
  have hV': ∀k,aL (aR c' t (.tick st)) k=if k=st then {aL t st with pipe:=(aL t st).pipe.set 0 {bI t st with left:=(bI t st).left-1}} else aL t k:=bO (s:=t) rfl (by omega)
  refine⟨h.port,h.idle,fun st' hs' ho=> ?_,fun st' hs' ho=> ?_,fun st' hs' x hx=> ?_,h.words,h.holds,h.told⟩
  ·rw[hV,hV'];split
   ·rw[ev,ej]
   ·exact h.ED st' hs' ho
  ·rw[hV'];split
   ·rename_i e;subst e;rw[hi] at ho;cases ho
   ·exact h.void st' hs' ho
  ·rw[hV] at hx
   split at hx
   ·rename_i e;subst e
    exact h.who _ hs' x (by rw[←TC (x:={bI s st' with left:=(bI s st').left-1})];exact hx)
   ·exact h.who st' hs' x hx
 |work st=>
  obtain⟨h1,h2,h3,h4⟩:=hg
  have hi:O st=true:=ha
  have ev:=h.ED st h1 hi
  have ej:bI s st=bI t st:=by unfold bI;rw[ev]
  have hmem:((bI s st).who,(bI s st).n)∈cS (aL s st):=JB (cC h2)
  obtain⟨k1,k2,k3⟩:=hs.asK h1 hmem
  dsimp only at k1 k2 k3
  have hwa:A (bI s st).who.toNat=true:=(h.who st h1 _ hmem).trans hi
  have er:bT c' (bI s st).who (bI s st).n=bT c (bI s st).who (bI s st).n:=by rw[k1];exact hp.at k2 hwa
  obtain⟨who,hwho⟩: ∃who,who=(bI s st).who.toNat:=⟨_,rfl⟩
  obtain⟨q,hq⟩: ∃q,q=bT c (bI s st).who (bI s st).n:=⟨_,rfl⟩
  have hqo:dH q:=hq▸GK hb k3
  have hO:O (gZ c.map q).toNat=true:=by rw[hq,k1,hp.own _ _ k2 (k1▸k3)];exact hwa
  have hid:q.id.toNat<2∧0≤q.id:=by have:=hqo.1;omega
  have hix:((bI s st).who*2+q.id).toNat=who*2+q.id.toNat:=by omega
  have hhold:=h.holds who q.id.toNat (by omega) hid.1 (by rw[hwho];exact hwa)
  have hbr:brM c.map s.holds (bI s st).who q=brM c.map t.holds (bI s st).who q:=by
   unfold brM
   rw[hix,hhold.1]
  obtain⟨br,hbrd⟩: ∃br,br=brM c.map s.holds (bI s st).who q:=⟨_,rfl⟩
  have hin:br=0∨ ∀a∈kP q,abD c.map O a:=by
   by_cases hw:bV c.map (kP q)<0
   ·exact .inl (by rw[hbrd];unfold brM;rw[if_pos hw])
   ·exact .inr (arL (by omega) hO)
  have aAR:jD c s st=((aAK br q s.words,hB br (bI s st).who q s.holds),aAL br q s.words):=by
   unfold jD;rw[←hq,X1,←hbrd]
  have eR':jD c' t st=((aAK br q t.words,hB br (bI s st).who q t.holds),aAL br q t.words):=by
   unfold jD;rw[←ej,er,←hq,hp.map,X1,←hbr,←hbrd]
  have hrd:(kP q).map (fun a=>s.words.getD a.toNat default)=(kP q).map (fun a=>t.words.getD a.toNat default)∨br=0:=by
   rcases hin with h0|hin
   ·exact .inr h0
   ·exact .inl (List.map_congr_left fun a ha=>h.words a (CO a ha).1 (hin a ha))
  have eRB:aAL br q s.words=aAL br q t.words:=by
   rcases hrd with h0|h0
   ·unfold aAL;rw[h0]
   ·rw[h0];rfl
  refine⟨⟨h1,by rw[←ev];exact h2,by rw[←ev];exact h3,by rw[←ev];exact h4⟩,?_⟩
  have hV: ∀k,aL (aR c s (.work st)) k=if k=st then {aL s st with pipe:=(aL s st).pipe.drop 1,done:=(aL s st).done++[⟨(bI s st).who,(bI s st).n,(jD c s st).2⟩]} else aL s k:=bO (s:=s) rfl (by omega)
  have hV': ∀k,aL (aR c' t (.work st)) k=if k=st then {aL t st with pipe:=(aL t st).pipe.drop 1,done:=(aL t st).done++[⟨(bI t st).who,(bI t st).n,(jD c' t st).2⟩]} else aL t k:=bO (s:=t) rfl (by omega)
  have hsl:s.words.length=t.words.length:=by rw[hs.atm.wl,ht.atm.wl]
  refine⟨h.port,h.idle,fun st' hs' ho=> ?_,fun st' hs' ho=> ?_,fun st' hs' x hx=> ?_,fun a h0 hoa=> ?_,fun k i hk hi2 hak=> ?_,h.told⟩
  ·rw[hV,hV'];split
   ·rw[ev,ej,aAR,eR',eRB]
   ·exact h.ED st' hs' ho
  ·rw[hV'];split
   ·rename_i e;subst e;rw[hi] at ho;cases ho
   ·exact h.void st' hs' ho
  ·rw[hV] at hx
   split at hx
   ·rename_i e;subst e;exact h.who _ hs' x (QO h2 x hx)
   ·exact h.who st' hs' x hx
  ·show (jD c s st).1.1.getD a.toNat default=(jD c' t st).1.1.getD a.toNat default
   rw[aAR,eR']
   dsimp only
   unfold aAK
   split
   ·rename_i h5
    exact G7 hsl (h.words a h0 hoa) (fun b hb2=>h.words b (CO b hb2).1 ((hin.resolve_left (by omega)) b hb2)) _ (Nat.le_refl _)
   ·exact h.words a h0 hoa
  ·show (jD c s st).1.2.getD (k*2+i) default=(jD c' t st).1.2.getD (k*2+i) default∧((jD c s st).1.2.getD (k*2+i) default= -1∨abD c.map O ((jD c s st).1.2.getD (k*2+i) default))
   rw[aAR,eR']
   dsimp only
   have hki:=h.holds k i hk hi2 hak
   have hl1:=hs.atm.hl
   have hl2:=ht.atm.hl
   unfold hB
   split
   ·rw[B0 (by omega),B0 (by omega),hki.1]
    refine⟨rfl,?_⟩
    split
    ·exact .inl rfl
    ·rw[←hki.1];exact hki.2
   ·split
    ·rename_i h5
     rw[hix,wV (by omega),wV (by omega)]
     split
     ·have h3':=PX (hbrd▸h5)
      exact⟨rfl,.inr ((hin.resolve_left (by omega)) _ (EU hqo (.inl h3')))⟩
     ·exact hki
    ·exact hki
 |adm who st=>
  obtain⟨h0,h1,h2,h3,h4,h5,h6⟩:=hg
  have ha:A who=true:=ha
  have hi:O st=true:=hi
  have ev:=h.ED st h1 hi
  have ep:=h.port who h0 ha
  have er: ∀n,bT c' who n=bT c who n:=fun n=>hp.at h0 ha
  refine⟨⟨h0,h1,by rw[←ev];exact h2,by rw[←ep];exact h3,by rw[←ep];exact h4,by rw[←ep,er,hp.map];exact h5,fun j hj hj2=> ?_⟩,?_⟩
  ·rw[←ep] at hj hj2
   rw[er,er] at hj2
   exact h6 j hj hj2
  have hP: ∀k,aF (aR c s (.adm who st)) k=if k=who then {aF s who with queue:=(aF s who).queue.drop 1,out:=(aF s who).out++[⟨who,(aF s who).queue.getD 0 default,st⟩]} else aF s k:=bL (s:=s) rfl (by omega)
  have hP': ∀k,aF (aR c' t (.adm who st)) k=if k=who then {aF t who with queue:=(aF t who).queue.drop 1,out:=(aF t who).out++[⟨who,(aF t who).queue.getD 0 default,st⟩]} else aF t k:=bL (s:=t) rfl (by omega)
  have hV: ∀k,aL (aR c s (.adm who st)) k=if k=st then {aL s st with pipe:=(aL s st).pipe++[⟨who,(aF s who).queue.getD 0 default,c.lat.getD st default⟩],last:=who} else aL s k:=bO (s:=s) rfl (by omega)
  have hV': ∀k,aL (aR c' t (.adm who st)) k=if k=st then {aL t st with pipe:=(aL t st).pipe++[⟨who,(aF t who).queue.getD 0 default,c'.lat.getD st default⟩],last:=who} else aL t k:=bO (s:=t) rfl (by omega)
  refine⟨fun k hk hak=> ?_,fun k hk hak=> ?_,fun st' hs' ho=> ?_,fun st' hs' ho=> ?_,fun st' hs' x hx=> ?_,h.words,h.holds,h.told⟩
  ·rw[hP,hP'];split
   ·rw[ep]
   ·exact h.port k hk hak
  ·rw[hP'];split
   ·rename_i e;subst e;rw[ha] at hak;cases hak
   ·exact h.idle k hk hak
  ·rw[hV,hV'];split
   ·rw[ev,ep,hp.lat]
   ·exact h.ED st' hs' ho
  ·rw[hV'];split
   ·rename_i e;subst e;rw[hi] at ho;cases ho
   ·exact h.void st' hs' ho
  ·rw[hV] at hx
   split at hx
   ·rename_i e;subst e
    rcases WL x hx with hx|hx
    ·exact h.who _ hs' x hx
    ·rw[hx,hi];show A (who:Int).toNat=true;rw[Int.toNat_natCast];exact ha
   ·exact h.who st' hs' x hx
 |ask who=>
  obtain⟨h0,h1,h2⟩:=hg
  have ha:A who=true:=ha
  have ep:=h.port who h0 ha
  refine⟨⟨h0,by rw[←ep];exact h1,by rw[←ep,hp.yes who h0 ha];exact h2⟩,?_⟩
  have hP: ∀k,aF (aR c s (.ask who)) k=if k=who then {aF s who with queue:=(aF s who).queue++[(aF s who).next],next:=(aF s who).next+1} else aF s k:=bL (s:=s) rfl (by omega)
  have hP': ∀k,aF (aR c' t (.ask who)) k=if k=who then {aF t who with queue:=(aF t who).queue++[(aF t who).next],next:=(aF t who).next+1} else aF t k:=bL (s:=t) rfl (by omega)
  refine⟨fun k hk hak=> ?_,fun k hk hak=> ?_,h.ED,h.void,h.who,h.words,h.holds,h.told⟩
  ·rw[hP,hP'];split
   ·rw[ep]
   ·exact h.port k hk hak
  ·rw[hP'];split
   ·rename_i e;subst e;rw[ha] at hak;cases hak
   ·exact h.idle k hk hak
end Go.AM
end
section
namespace Go.AM
theorem Sim.other {c c':Cfg} {A O:Nat→Bool} {s t:CSt} (hb:aQ c) (hp:GB c c' A O) (hs:COk c s) (h:Sim c c' A O s t) {m:Mic} (hg:EH c s m) (ha:ag5 A O m=false) (hi:ZN O false m):Sim c c' A O (aR c s m) t:=by
 have spl:=hs.pl
 have ssl:=hs.sl
 cases m with
 |tell who st=>
  obtain⟨h0,h1,h2,h3⟩:=hg
  have ha:A who=false:=ha
  have hi:O st=false:=hi
  have hP: ∀k,aF (aR c s (.tell who st)) k=if k=who then {aF s who with out:=PE (aF s who).out (iF s st).n,last:=st} else aF s k:=bL (s:=s) rfl (by omega)
  have hV: ∀k,aL (aR c s (.tell who st)) k=if k=st then {aL s st with done:=(aL s st).done.drop 1} else aL s k:=bO (s:=s) rfl (by omega)
  refine⟨fun k hk hak=> ?_,h.idle,fun st' hs' ho=> ?_,h.void,fun st' hs' x hx=> ?_,h.words,h.holds,?_⟩
  ·rw[hP,if_neg (fun e=>by subst e;rw[ha] at hak;cases hak)];exact h.port k hk hak
  ·rw[hV,if_neg (fun e=>by subst e;rw[hi] at ho;cases ho)];exact h.ED st' hs' ho
  ·rw[hV] at hx
   split at hx
   ·rename_i e;subst e;exact h.who _ hs' x (P3 x hx)
   ·exact h.who st' hs' x hx
  ·show (s.told++[iF s st]).filter _=t.told
   rw[List.filter_append,h.told]
   have:A (iF s st).who.toNat=false:=by show A ((aL s st).done.getD 0 default).who.toNat=false;rw[h3,Int.toNat_natCast];exact ha
   simp[this]
 |tick st=>
  obtain⟨h1,h2,h3⟩:=hg
  have hi:O st=false:=ha
  have hV: ∀k,aL (aR c s (.tick st)) k=if k=st then {aL s st with pipe:=(aL s st).pipe.set 0 {bI s st with left:=(bI s st).left-1}} else aL s k:=bO (s:=s) rfl (by omega)
  refine⟨h.port,h.idle,fun st' hs' ho=> ?_,h.void,fun st' hs' x hx=> ?_,h.words,h.holds,h.told⟩
  ·rw[hV,if_neg (fun e=>by subst e;rw[hi] at ho;cases ho)];exact h.ED st' hs' ho
  ·rw[hV] at hx
   split at hx
   ·rename_i e;subst e
    exact h.who _ hs' x (by rw[←TC (x:={bI s st' with left:=(bI s st').left-1})];exact hx)
   ·exact h.who st' hs' x hx
 |work st=>
  obtain⟨h1,h2,h3,h4⟩:=hg
  have hi:O st=false:=ha
  have hmem:((bI s st).who,(bI s st).n)∈cS (aL s st):=JB (cC h2)
  obtain⟨k1,k2,k3⟩:=hs.asK h1 hmem
  dsimp only at k1 k2 k3
  have hwa:A (bI s st).who.toNat=false:=(h.who st h1 _ hmem).trans hi
  obtain⟨who,hwho⟩: ∃who,who=(bI s st).who.toNat:=⟨_,rfl⟩
  obtain⟨q,hq⟩: ∃q,q=bT c (bI s st).who (bI s st).n:=⟨_,rfl⟩
  have hqo:dH q:=hq▸GK hb k3
  have hO:O (gZ c.map q).toNat=false:=by rw[hq,k1,hp.own _ _ k2 (k1▸k3)];exact hwa
  have hid:q.id.toNat<2∧0≤q.id:=by have:=hqo.1;omega
  have hix:((bI s st).who*2+q.id).toNat=who*2+q.id.toNat:=by omega
  obtain⟨br,hbrd⟩: ∃br,br=brM c.map s.holds (bI s st).who q:=⟨_,rfl⟩
  have hin:br=0∨ ∀a∈kP q,¬abD c.map O a:=by
   by_cases hw:bV c.map (kP q)<0
   ·exact .inl (by rw[hbrd];unfold brM;rw[if_pos hw])
   ·exact .inr (ao8 (by omega) hO)
  have aAR:jD c s st=((aAK br q s.words,hB br (bI s st).who q s.holds),aAL br q s.words):=by
   unfold jD;rw[←hq,X1,←hbrd]
  have hV: ∀k,aL (aR c s (.work st)) k=if k=st then {aL s st with pipe:=(aL s st).pipe.drop 1,done:=(aL s st).done++[⟨(bI s st).who,(bI s st).n,(jD c s st).2⟩]} else aL s k:=bO (s:=s) rfl (by omega)
  refine⟨h.port,h.idle,fun st' hs' ho=> ?_,h.void,fun st' hs' x hx=> ?_,fun a h0 hoa=> ?_,fun k i hk hi2 hak=> ?_,h.told⟩
  ·rw[hV,if_neg (fun e=>by subst e;rw[hi] at ho;cases ho)];exact h.ED st' hs' ho
  ·rw[hV] at hx
   split at hx
   ·rename_i e;subst e;exact h.who _ hs' x (QO h2 x hx)
   ·exact h.who st' hs' x hx
  ·show (jD c s st).1.1.getD a.toNat default=_
   rw[aAR]
   dsimp only
   rcases hin with h5|h5
   ·unfold aAK;rw[if_neg (by omega)];exact h.words a h0 hoa
   ·rw[NJ h0 (fun hm=>h5 a hm hoa)];exact h.words a h0 hoa
  ·show (jD c s st).1.2.getD (k*2+i) default=_∧((jD c s st).1.2.getD (k*2+i) default= -1∨abD c.map O ((jD c s st).1.2.getD (k*2+i) default))
   rw[aAR]
   dsimp only
   have hki:=h.holds k i hk hi2 hak
   have hl1:=hs.atm.hl
   unfold hB
   split
   ·rename_i h5
    rw[B0 (by omega),if_neg]
    ·exact hki
    ·intro hm
     rcases hki.2 with h6|h6
     ·have:=(CO _ hm).1;omega
     ·exact(hin.resolve_left (by omega)) _ hm h6
   ·split
    ·rw[hix,wV (by omega),if_neg]
     ·exact hki
     ·intro he
      have:k=who:=by omega
      subst this;subst hwho;rw[hwa] at hak;cases hak
    ·exact hki
 |adm who st=>
  obtain⟨h0,h1,h2,h3,h4,h5,h6⟩:=hg
  have ha:A who=false:=ha
  have hi:O st=false:=hi
  have hP: ∀k,aF (aR c s (.adm who st)) k=if k=who then {aF s who with queue:=(aF s who).queue.drop 1,out:=(aF s who).out++[⟨who,(aF s who).queue.getD 0 default,st⟩]} else aF s k:=bL (s:=s) rfl (by omega)
  have hV: ∀k,aL (aR c s (.adm who st)) k=if k=st then {aL s st with pipe:=(aL s st).pipe++[⟨who,(aF s who).queue.getD 0 default,c.lat.getD st default⟩],last:=who} else aL s k:=bO (s:=s) rfl (by omega)
  refine⟨fun k hk hak=> ?_,h.idle,fun st' hs' ho=> ?_,h.void,fun st' hs' x hx=> ?_,h.words,h.holds,h.told⟩
  ·rw[hP,if_neg (fun e=>by subst e;rw[ha] at hak;cases hak)];exact h.port k hk hak
  ·rw[hV,if_neg (fun e=>by subst e;rw[hi] at ho;cases ho)];exact h.ED st' hs' ho
  ·rw[hV] at hx
   split at hx
   ·rename_i e;subst e
    rcases WL x hx with hx|hx
    ·exact h.who _ hs' x hx
    ·rw[hx,hi];show A (who:Int).toNat=false;rw[Int.toNat_natCast];exact ha
   ·exact h.who st' hs' x hx
 |ask who=>
  obtain⟨h0,h1,h2⟩:=hg
  have ha:A who=false:=ha
  have hP: ∀k,aF (aR c s (.ask who)) k=if k=who then {aF s who with queue:=(aF s who).queue++[(aF s who).next],next:=(aF s who).next+1} else aF s k:=bL (s:=s) rfl (by omega)
  refine⟨fun k hk hak=> ?_,h.idle,h.ED,h.void,h.who,h.words,h.holds,h.told⟩
  rw[hP,if_neg (fun e=>by subst e;rw[ha] at hak;cases hak)];exact h.port k hk hak
theorem Sim.steps {c c':Cfg} {A O:Nat→Bool} (hb:aQ c) (hb':aQ c') (hp:GB c c' A O) {f g:CSt→Nat→Option Mic}: ∀{l:List Nat} {s t:CSt},COk c s→COk c' t→Sim c c' A O s t→
 (∀s t k,k∈l→COk c s→COk c' t→Sim c c' A O s t→∀m,f s k=some m→EH c s m∧(ag5 A O m=true→ZN O true m∧g t k=some m)∧(ag5 A O m=false→ZN O false m∧g t k=none))→
 (∀s t k,k∈l→COk c s→COk c' t→Sim c c' A O s t→f s k=none→g t k=none)→
 COk c (dR c s (vE c f s l))∧COk c' (dR c' t (vE c' g t l))∧Sim c c' A O (dR c s (vE c f s l)) (dR c' t (vE c' g t l))
 | [],s,t,hs,ht,h,_,_=>⟨hs,ht,h⟩
 |k::l,s,t,hs,ht,h,h1,h2=>by
  have r1:=fun s t k (hk:k∈l)=>h1 s t k (List.mem_cons_of_mem _ hk)
  have r2:=fun s t k (hk:k∈l)=>h2 s t k (List.mem_cons_of_mem _ hk)
  cases hf:f s k with
  |none=>
   rw[GZ hf,GZ (h2 s t k List.mem_cons_self hs ht h hf)]
   exact Sim.steps hb hb' hp hs ht h r1 r2
  |some m=>
   obtain⟨q1,q2,q3⟩:=h1 s t k List.mem_cons_self hs ht h m hf
   rw[NH hf]
   cases hm:ag5 A O m with
   |true=>
    obtain⟨q4,q5⟩:=q2 hm
    obtain⟨q6,q7⟩:=h.both hb hp hs ht q1 hm q4
    rw[NH q5]
    exact Sim.steps hb hb' hp (o9 hb hs q1) (o9 hb' ht q6) q7 r1 r2
   |false=>
    obtain⟨q4,q5⟩:=q3 hm
    rw[GZ q5]
    exact Sim.steps hb hb' hp (o9 hb hs q1) ht (h.other hb hp hs q1 hm q4) r1 r2
theorem find_congr {α:Type} {p q:α→Bool}: ∀{l:List α},(∀x∈l,p x=q x)→l.find? p=l.find? q
 | [],_=>rfl
 |x::l,h=>by
  rw[List.find?_cons,List.find?_cons,h x List.mem_cons_self,find_congr fun y hy=>h y (List.mem_cons_of_mem _ hy)]
theorem V0 {s:CSt} {who k:Nat}:pQ s who k<4:=by unfold pQ;omega
theorem abK {s:CSt} {st k:Nat}:sM s st k<3:=by unfold sM;omega
theorem SL {s:CSt} {st:Nat} (h:0<(aL s st).done.length):key ((aL s st).done.getD 0 default)∈cS (aL s st):=M9 (cC h)
structure YX (A:Nat→Bool) (i i':CIn):Prop where
 ready: ∀k,k<3→A k=true→i.ready.getD k default=i'.ready.getD k default
 n9: ∀k,k<4→i.n9.getD k default=i'.n9.getD k default
 send: ∀k,k<3→A k=true→i.send.getD k default=i'.send.getD k default
theorem Sim.asB {c c':Cfg} {A O:Nat→Bool} (hb:aQ c) (hb':aQ c') (hp:GB c c' A O) {i i':CIn} (hi:YX A i i') {s t:CSt} (hs:COk c s) (ht:COk c' t) (h:Sim c c' A O s t):
 COk c (CW c i s)∧COk c' (CW c' i' t)∧Sim c c' A O (CW c i s) (CW c' i' t):=by
 have key: ∀s t k,k<3→COk c s→COk c' t→Sim c c' A O s t→vT i' t k=if A k then vT i s k else none:=by
  intro s t k hk hs ht h
  have hc: ∀st,st<4→NN t k st=if A k then NN s k st else false:=by
   intro st hst
   unfold NN
   cases ho:O st with
   |true=>
    rw[←h.ED st hst ho]
    by_cases hd:0<(aL s st).done.length
    ·cases hak:A k with
     |true=>rw[if_pos rfl]
     |false=>
      rw[if_neg (by simp)]
      refine decide_eq_false fun hc=> ?_
      have:=h.who st hst _ (SL hd)
      rw[ho] at this
      unfold AM.key at this
      dsimp only at this
      rw[hc.2,Int.toNat_natCast,hak] at this
      cases this
    ·cases A k<;>simp[hd]
   |false=>
    have hv:=(h.void st hst ho).2
    rw[hv]
    cases hak:A k with
    |false=>simp
    |true=>
     rw[if_pos rfl]
     refine(decide_eq_false (by simp)).trans (decide_eq_false fun hc=> ?_).symm
     have:=h.who st hst _ (SL hc.1)
     rw[ho] at this
     unfold AM.key at this
     dsimp only at this
     rw[hc.2,Int.toNat_natCast,hak] at this
     cases this
  unfold vT
  cases hak:A k with
  |true=>
   rw[hi.ready k hk hak,if_pos rfl]
   have e1:pQ t k=pQ s k:=by funext j;unfold pQ;rw[h.port k hk hak]
   rw[e1]
   split
   ·congr 1
    refine find_congr fun x hx=> ?_
    obtain⟨j,_,rfl⟩:=List.mem_map.1 hx
    rw[hc _ V0,hak,if_pos rfl]
   ·rfl
  |false=>
   rw[if_neg (by simp: ¬(false=true))]
   split
   ·rw[Option.map_eq_none_iff,List.find?_eq_none]
    intro x hx
    obtain⟨j,_,rfl⟩:=List.mem_map.1 hx
    rw[hc _ V0,hak]
    simp
   ·rfl
 refine Sim.steps hb hb' hp hs ht h (fun s t k hk hs ht h m hm=> ?_) fun s t k hk hs ht h hm=> ?_
 ·have hk:=tC hk
  have hg:=TB (c:=c) hs hk hm
  have hkey:=key s t k hk hs ht h
  obtain⟨st,rfl⟩: ∃st,m= .tell k st:=by
   unfold vT at hm
   split at hm
   ·obtain⟨st,_,rfl⟩:=Option.map_eq_some_iff.1 hm;exact⟨st,rfl⟩
   ·cases hm
  have hO:A k=O st:=by
   obtain⟨_,h1,h2,h3⟩:=hg
   have:=h.who st h1 _ (SL h2)
   unfold AM.key at this
   dsimp only at this
   rw[h3,Int.toNat_natCast] at this
   exact this
  refine⟨hg,fun ha=> ?_,fun ha=> ?_⟩
  ·have ha:A k=true:=ha
   exact⟨hO.symm.trans ha,by rw[hkey,if_pos ha,hm]⟩
  ·have ha:A k=false:=ha
   exact⟨hO.symm.trans ha,by rw[hkey,ha];rfl⟩
 ·rw[key s t k (tC hk) hs ht h,hm]
  split<;>rfl
theorem Sim.asD {c c':Cfg} {A O:Nat→Bool} (hb:aQ c) (hb':aQ c') (hp:GB c c' A O) {i i':CIn} (hi:YX A i i') {s t:CSt} (hs:COk c s) (ht:COk c' t) (h:Sim c c' A O s t):
 COk c (dR c s (xX c i s))∧COk c' (dR c' t (xX c' i' t))∧Sim c c' A O (dR c s (xX c i s)) (dR c' t (xX c' i' t)):=by
 have key: ∀s t k,k<4→Sim c c' A O s t→qW i' t k=if O k then qW i s k else none:=by
  intro s t k hk h
  cases ho:O k with
  |true=>
   rw[if_pos rfl]
   unfold qW bI
   rw[h.ED k hk ho,hi.n9 k hk]
  |false=>
   unfold qW
   rw[(h.void k hk ho).1,if_pos (.inr rfl)]
   rfl
 refine Sim.steps hb hb' hp hs ht h (fun s t k hk hs ht h m hm=> ?_) fun s t k hk hs ht h hm=> ?_
 ·have hk:=w8 hk
  have hg:=LM (c:=c) hs hk hm
  have hkey:=key s t k hk h
  have hmm:m= .tick k∨m= .work k:=by
   unfold qW at hm
   split at hm
   ·cases hm
   ·split at hm
    ·cases hm;exact .inl rfl
    ·split at hm
     ·cases hm;exact .inr rfl
     ·cases hm
  have e:ag5 A O m=O k:=by rcases hmm with rfl|rfl<;>rfl
  have e2: ∀b,ZN O b m:=fun b=>by rcases hmm with rfl|rfl<;>exact trivial
  refine⟨hg,fun ha=>⟨e2 _,?_⟩,fun ha=>⟨e2 _,?_⟩⟩
  ·rw[hkey,if_pos (e.symm.trans ha),hm]
  ·rw[hkey,e.symm.trans ha];rfl
 ·rw[key s t k (w8 hk) h,hm]
  split<;>rfl
theorem Sim.asks {c c':Cfg} {A O:Nat→Bool} (hb:aQ c) (hb':aQ c') (hp:GB c c' A O) {i i':CIn} (hi:YX A i i') {s t:CSt} (hs:COk c s) (ht:COk c' t) (h:Sim c c' A O s t):
 COk c (dR c s (MV c i s))∧COk c' (dR c' t (MV c' i' t))∧Sim c c' A O (dR c s (MV c i s)) (dR c' t (MV c' i' t)):=by
 have key: ∀s t k,k<3→Sim c c' A O s t→PA c' i' t k=if A k then PA c i s k else none:=by
  intro s t k hk h
  cases ha:A k with
  |true=>
   rw[if_pos rfl]
   unfold PA
   rw[h.port k hk ha,hi.send k hk ha,hp.yes k hk ha]
  |false=>
   unfold PA
   rw[(h.idle k hk ha).1,hp.no k hk ha,if_neg (by simp)]
   rfl
 refine Sim.steps hb hb' hp hs ht h (fun s t k hk hs ht h m hm=> ?_) fun s t k hk hs ht h hm=> ?_
 ·have hk:=tC hk
  have hg:=YH (c:=c) hs hk hm
  have hkey:=key s t k hk h
  obtain rfl:m= .ask k:=by
   unfold PA at hm
   split at hm
   ·cases hm;rfl
   ·cases hm
  refine⟨hg,fun ha=>⟨trivial,?_⟩,fun ha=>⟨trivial,?_⟩⟩
  ·have ha:A k=true:=ha
   rw[hkey,if_pos ha,hm]
  ·have ha:A k=false:=ha
   rw[hkey,ha];rfl
 ·rw[key s t k (tC hk) h,hm]
  split<;>rfl
theorem Sim.lets {c c':Cfg} {A O:Nat→Bool} (hb:aQ c) (hb':aQ c') (hp:GB c c' A O): ∀{l:List Nat} {s t:CSt} {u u':List Bool},(∀k∈l,k<4)→u.length=3→u'.length=3→(∀k,k<3→A k=true→u.getD k default=u'.getD k default)→COk c s→COk c' t→Sim c c' A O s t→
 COk c (dR c s (oP c s u l))∧COk c' (dR c' t (oP c' t u' l))∧Sim c c' A O (dR c s (oP c s u l)) (dR c' t (oP c' t u' l))
 | [],s,t,u,u',_,_,_,_,hs,ht,h=>⟨hs,ht,h⟩
 |st::l,s,t,u,u',hl,hul,hul',hu,hs,ht,h=>by
  have hst:=hl st List.mem_cons_self
  have hl': ∀k∈l,k<4:=fun k hk=>hl k (List.mem_cons_of_mem _ hk)
  have hmay: ∀k,k<3→HV c s k st→A k=O st:=fun k hk hm=>by
   have hq:=hp.own k _ hk (hs.atK hk hm.1)
   rw[hm.2.2.1] at hq
   rw[←hq,Int.toNat_natCast]
  have hmay': ∀k,k<3→(HV c' t k st↔A k=true∧HV c s k st):=fun k hk=>by
   cases ha:A k with
   |true=>
    unfold HV
    rw[h.port k hk ha,hp.map]
    simp only[hp.at hk ha,true_and]
   |false=>
    unfold HV
    rw[(h.idle k hk ha).2.1]
    simp
  have key:AO c' t u' st=if O st then AO c s u st else none:=by
   cases ho:O st with
   |true=>
    rw[if_pos rfl]
    unfold AO
    rw[←h.ED st hst ho]
    split
    ·have e1:sM t st=sM s st:=by funext j;unfold sM;rw[←h.ED st hst ho]
     rw[e1]
     refine find_congr fun x hx=> ?_
     obtain⟨j,_,rfl⟩:=List.mem_map.1 hx
     have hx3:=abK (s:=s) (st:=st) (k:=j)
     generalize sM s st j=x at hx3 ⊢
     unfold KE
     cases ha:A x with
     |true=>
      rw[hu x hx3 ha]
      congr 1
      rw[decide_eq_decide]
      rw[hmay' x hx3]
      simp[ha]
     |false=>
      rw[decide_eq_false (fun hm=>by have:=(hmay' x hx3).1 hm;rw[ha] at this;cases this.1),decide_eq_false (fun hm=>by have:=hmay x hx3 hm;rw[ha,ho] at this;cases this)]
      simp
    ·rfl
   |false=>
    unfold AO
    rw[if_neg (by simp: ¬(false=true))]
    split
    ·rw[List.find?_eq_none]
     intro x hx
     obtain⟨j,_,rfl⟩:=List.mem_map.1 hx
     have hx3:=abK (s:=t) (st:=st) (k:=j)
     generalize sM t st j=x at hx3 ⊢
     unfold KE
     rw[decide_eq_false fun hm=> ?_]
     ·simp
     ·have h1:=(hmay' x hx3).1 hm
      have:=hmay x hx3 h1.2
      rw[h1.1,ho] at this
      cases this
    ·rfl
  cases hw:AO c s u st with
  |none=>
   have hw':AO c' t u' st=none:=by rw[key,hw];split<;>rfl
   have e1:oP c s u (st::l)=oP c s u l:=by rw[oP,hw]
   have e2:oP c' t u' (st::l)=oP c' t u' l:=by rw[oP,hw']
   rw[e1,e2]
   exact Sim.lets hb hb' hp hl' hul hul' hu hs ht h
  |some who=>
   have hg:=XH hst hw
   have hwh:who<3:=hg.1
   have hAO:=hmay who hwh hg.2.2.2
   have e1:oP c s u (st::l)= .adm who st::oP c (aR c s (.adm who st)) (u.set who true) l:=by rw[oP,hw]
   rw[e1]
   cases ho:O st with
   |true=>
    have hw':AO c' t u' st=some who:=by rw[key,hw,ho];rfl
    have e2:oP c' t u' (st::l)= .adm who st::oP c' (aR c' t (.adm who st)) (u'.set who true) l:=by rw[oP,hw']
    rw[e2]
    obtain⟨q6,q7⟩:=h.both hb hp hs ht hg (show A who=true from hAO.trans ho) ho
    refine Sim.lets hb hb' hp hl' (by simpa using hul) (by simpa using hul') (fun k hk ha=> ?_) (o9 hb hs hg) (o9 hb' ht q6) q7
    rw[pY (by omega),pY (by omega),hu k hk ha]
   |false=>
    have hw':AO c' t u' st=none:=by rw[key,hw,ho];rfl
    have e2:oP c' t u' (st::l)=oP c' t u' l:=by rw[oP,hw']
    rw[e2]
    refine Sim.lets hb hb' hp hl' (by simpa using hul) hul' (fun k hk ha=> ?_) (o9 hb hs hg) ht (h.other hb hp hs hg (show A who=false from hAO.trans ho) ho)
    rw[pY (by omega),if_neg (fun e=>by subst e;rw[hAO,ho] at ha;cases ha)]
    exact hu k hk ha
theorem Sim.cyc {c c':Cfg} {A O:Nat→Bool} (hb:aQ c) (hb':aQ c') (hp:GB c c' A O) {i i':CIn} (hi:YX A i i') {s t:CSt} (hs:COk c s) (ht:COk c' t) (h:Sim c c' A O s t):
 COk c (vF c i s)∧COk c' (vF c' i' t)∧Sim c c' A O (vF c i s) (vF c' i' t):=by
 obtain⟨az9,az2,aAD⟩:=h.asB hb hb' hp hi hs ht
 obtain⟨b1,b2,b3⟩:=aAD.asD hb hb' hp hi az9 az2
 obtain⟨c1,c2,c3⟩:=b3.lets (l:=[0,1,2,3]) (u:=[false,false,false]) (u':=[false,false,false]) hb hb' hp (fun k hk=>w8 hk) rfl rfl (fun _ _ _=>rfl) b1 b2
 exact c3.asks hb hb' hp hi c1 c2
theorem Sim.run {c c':Cfg} {A O:Nat→Bool} (hb:aQ c) (hb':aQ c') (hp:GB c c' A O): ∀{l l':List CIn} {s t:CSt},l.length=l'.length→(∀k,k<l.length→YX A (l.getD k default) (l'.getD k default))→COk c s→COk c' t→Sim c c' A O s t→COk c (sQ c s l)∧COk c' (sQ c' t l')∧Sim c c' A O (sQ c s l) (sQ c' t l')
 | [],[],s,t,_,_,hs,ht,h=>⟨hs,ht,h⟩
 | [],_::_,s,t,hl,_,_,_,_=>by cases hl
 |_::_,[],s,t,hl,_,_,_,_=>by cases hl
 |i::l,i'::l',s,t,hl,hi,hs,ht,h=>by
  obtain⟨az9,az2,aAD⟩:=h.cyc hb hb' hp (hi 0 (by simp)) hs ht
  rw[ME,ME]
  exact Sim.run hb hb' hp (by simpa using hl) (fun k hk=>hi (k+1) (by simpa using hk)) az9 az2 aAD
end Go.AM
end
section
namespace Go.AM
theorem aG6 {c:Cfg} (hb:aQ c) (hg: ∀k n,k<3→oA c (k:Nat) n→(gZ c.map (bT c k n)=0↔k=0)):GB c (aGT c 0) (fun k=>decide (k=0)) (fun k=>decide (k=0)):=by
 refine⟨rfl,rfl,fun k hk ha=> ?_,fun k hk ha=> ?_,fun k n hk hn=> ?_⟩
 ·rw[aG3 hb hk,if_pos (of_decide_eq_true ha)]
 ·rw[aG3 hb hk,if_neg (of_decide_eq_false ha)]
 ·have hs:=(aiT hb (q:=bT c k n)).1
  rw[decide_eq_decide]
  have:=hg k n hk hn
  omega
theorem aG9 {c c':Cfg} {s t:CSt} {O:Nat→Bool} (hs:COk c s) (h:Sim c c' (fun k=>decide (k=0)) O s t):fS s.told 0=t.told:=by
 rw[←h.told]
 unfold fS
 refine List.filter_congr fun j hj=> ?_
 have:=(hs.st.ab8 (key j) (List.mem_map_of_mem (List.mem_append_right _ hj))).1
 rw[decide_eq_decide]
 have h1:0≤j.who:=this.1
 omega
end Go.AM
namespace Go.Proofs.YtegiblhkjfiooaaGreat
open Go Go.AM
set_option maxRecDepth 100000
set_option maxHeartbeats 8000000
theorem aGV:cJ Tryz.prog aGI Tryz.f7 aFK aGB:=cJ.mk Tryz.func7 (by kernel_rfl) aGX
theorem aG8 (l:List Int) (hby: ∀x∈l,0≤x∧x<256):aB Tryz.prog aGI [dS (l.map eU8)] .nil 0 fun rr _ _=>rr.plain=true∧rr=dB true:=by
 refine aGV rfl fun Q hQ=> ?_
 unfold aFK
 by_cases hbig:l.length≤1048576
 case neg=>
  repeat' (first| (with_reducible first| (refine hK _ _ _ ?_;clear hK K)| (refine hA ?_;clear hA hB A B)|refine Z1 ?_|refine Z4 (by omega) ?_)| (with_reducible first|refine Y2 fun K hK=> ?_|refine Y3 fun A B hA hB=> ?_)<;>(simp only[go_sem])| ((with_reducible refine Y8 ?_);try simp only[AQ.then,AQ.blk,reduceIte,Nat.reduceEqDiff])|fail)
  exact hQ _ _ _ _ _ (.inr rfl) rfl ⟨rfl,rfl⟩
 have hl:kZ l:=⟨by omega,hby⟩
 have hap: ∀{H:aA} {nx:Nat} {K:D→aA→Nat→Prop} {c:Cfg},aQ c→jO c→(c.map=E9 false∧ ∀k,k<3→∀q∈c.cP.getD k default,aBY k q)→K (dB true) H nx→aB Tryz.prog aAS [dA (cU c),dI 0] H nx K:=fun hb hf hg h=>
  aC1 hb hf (fun q hq=>by rw[hg.1];exact(hg.2 0 (by omega) q hq).1.2 rfl) (fun k h1 h3 q hq he=>by rw[hg.1] at he;have:=(hg.2 k h3 q hq).1.1 he;omega) h
 have hal: ∀{H:aA} {nx:Nat} {K:D→aA→Nat→Prop} {c:Cfg},aQ c→jO c→(∀H' nx',nx≤nx'→(∀id,id<nx→H' id=H id)→K (dA (cU (aGT c 0))) H' nx')→aB Tryz.prog aFI [dA (cU c),dI 0] H nx K:=fun hb hf h=>aG1 (who:=0) hb hf (by omega) h
 repeat' (first| (with_reducible first| (refine hK _ _ _ ?_;clear hK K)| (refine hB ?_;clear hA hB A B)|refine Z1 ?_|refine Z2 ?_|refine Z5 (by omega) ?_)| (first| (with_reducible first|refine Y2 fun K hK=> ?_|refine Y3 fun A B hA hB=> ?_)| (refine aCM hl (fun c xs hb hf hg hxl hxo=> ?_))| (refine hap hb hf hg ?_)| (refine hal hb hf (fun H1 nx1 hx1 ffr1=> ?_)))<;>(simp only[go_sem])|fail)
 have hpl: ∀k n,k<3→oA c (k:Nat) n→(gZ c.map (bT c k n)=0↔k=0):=fun k n hk hn=>by
  have hm:bT c k n∈c.cP.getD k default:=by
   have h1:=hn.2
   rw[Int.toNat_natCast] at h1
   unfold bT
   rw[Int.toNat_natCast]
   exact cC (by omega)
  rw[hg.1];exact(hg.2 k hk _ hm).1
 have hpt:=aG6 hb hpl
 have hbA:=aHA hb 0
 have hfA:=aG7 hf 0
 have e9:=(ffr1 9 (by omega)).trans (show _=some ⟨3,1,[cU c]⟩ from rfl)
 clear ffr1 hpl hap hal
 generalize aGT c 0=c' at*
 repeat' (first| (with_reducible first| (refine hK _ _ _ ?_;clear hK K)|refine Z1 ?_|refine Z3 fun KB hKB=> ?_)| (first| (with_reducible refine Y2 fun K hK=> ?_)| (refine UC (fun H2 nx2 hx2 ffr2=> ?_)))<;>(simp only[go_sem])|fail)
 rename_i Ha na hna fa
 (have hKX:=hKB;clear hKB)
 have aHG:H2 9=some ⟨3,1,[cU c]⟩:=by rw[ffr2 _ (by omega),aA.aC (by omega),fa _ (by omega),aA.aC (by omega)];exact e9
 have d17:H2 17=some ⟨3,1,[cU c']⟩:=by rw[ffr2 _ (by omega),aA.aC (by omega),fa _ (by omega)];exact aA.bH
 have ds:H2 (nx1+1)=some ⟨5,1,[eI HY]⟩:=by rw[ffr2 _ (by omega)];exact aA.bH
 clear ffr2 fa e9
 refine aM.gP (β:=Nat×CSt×CSt) (fun u=>en [(8,dI u.1),(7,.one (.c (.ptr 5 (na+1) 0 0))),(6,.one (.c (.ptr 5 (nx1+1) 0 0))),(5,.one (.c (.ptr 3 17 0 0))),(4,dS (xs.map eIn)),(3,.one (.c (.ptr 3 9 0 0)))])
  (fun u H3 _=>(u.1≤xs.length∧COk c u.2.1∧COk c' u.2.2∧Sim c c' (fun k=>decide (k=0)) (fun k=>decide (k=0)) u.2.1 u.2.2)∧H3 9=some ⟨3,1,[cU c]⟩∧H3 17=some ⟨3,1,[cU c']⟩∧H3 (nx1+1)=some ⟨5,1,[eI u.2.1]⟩∧H3 (na+1)=some ⟨5,1,[eI u.2.2]⟩) (fun u=>xs.length-u.1) (0,HY,HY)
  ⟨noF,_,by repeat' (first| (with_reducible first|exact C1|refine C2 ?_ ?_)| ((with_reducible refine C0 ?_);exact CE (by omega) rfl)| ((with_reducible refine D0 ?_);first|exact CA rfl|refine CJ ?_)|fail),aK,⟨by dsimp only;omega,anK c,anK c',Sim.init⟩,by rw[aA.aC (by omega)];exact aHG,by rw[aA.aC (by omega)];exact d17,by rw[aA.aC (by omega)];exact ds,aA.bH⟩ ?_
 clear aHG d17 ds
 rintro⟨k,S,T⟩ H3 nx3 hnx3 ⟨⟨hk,hS,aAI,hsim⟩,g9,g17,gs,gt⟩ KL hKL
 dsimp only at hk hS aAI hsim gs gt
 by_cases hlt:k<xs.length
 ·obtain⟨i,hi⟩: ∃i,i=xs.getD k default:=⟨_,rfl⟩
  have hi':xs.getD k default=i:=hi.symm
  have hio:vZ i:=by rw[hi];exact hxo _ (cC hlt)
  have hin:YX (fun k=>decide (k=0)) i i:=⟨fun _ _ _=>rfl,fun _ _=>rfl,fun _ _ _=>rfl⟩
  obtain⟨hS2,hT2,hsim2⟩:=hsim.cyc hb hbA hpt hin hS aAI
  have hA:bQ nx3 [9,17,nx1+1,na+1]:=AM.apart (by simp;omega) (by simp;omega)
  simp only[bQ,eZ] at hA
  repeat' (first| (with_reducible first| (refine hK _ _ _ ?_;clear hK K)| (refine hA ?_;clear hA hB A B)|refine Z1 ?_|refine Z2 ?_|refine Z3 fun KB hKB=> ?_|refine Z4 (by omega) ?_)| (with_reducible first|refine Y2 fun K hK=> ?_|refine Y3 fun A B hA hB=> ?_)<;>(simp only[go_sem,hi',g9,g17,gs,gt,hA])|refine⟨by omega,?_⟩|fail)
  refine ajU hb hf hS hio fun H4 nx4 hx4 ffr4=> ?_
  have e9:=(ffr4 9 (by omega)).trans g9
  have e17:=(ffr4 17 (by omega)).trans g17
  have es:=(ffr4 (nx1+1) (by omega)).trans gs
  have et:=(ffr4 (na+1) (by omega)).trans gt
  obtain⟨S2,hS2e⟩: ∃S2,S2=vF c i S:=⟨_,rfl⟩
  obtain⟨aHH,hT2e⟩: ∃aHH,aHH=vF c' i T:=⟨_,rfl⟩
  rw[←hS2e] at hS2 hsim2 ⊢
  rw[←hT2e] at hT2 hsim2
  simp only[go_sem,es]
  refine hK _ _ _ ?_
  clear hK K
  have m1:(9=nx1+1)=False:=eq_false (by omega)
  have m2:(17=nx1+1)=False:=eq_false (by omega)
  have m3:(na+1=nx1+1)=False:=eq_false (by omega)
  have m3':(nx1+1=na+1)=False:=eq_false (by omega)
  have m4:(nx1=8)=False:=eq_false (by omega)
  have m5:(nx1=16)=False:=eq_false (by omega)
  have aHI:(na=nx1)=False:=eq_false (by omega)
  have aHJ:(nx1=na)=False:=eq_false (by omega)
  have aHK:(na=8)=False:=eq_false (by omega)
  have a6:(na=16)=False:=eq_false (by omega)
  repeat' (first| (with_reducible refine Z1 ?_)| (with_reducible refine Y2 fun K hK=> ?_)<;>(simp only[go_sem,hi',e9,e17,es,et,m1,m2,m3,m3',m4,m5,aHI,aHJ])|refine⟨by omega,?_⟩|fail)
  refine ajU hbA hfA aAI hio fun H5 nx5 hx5 ffr5=> ?_
  rw[←hT2e]
  have aHL:=(ffr5 9 (by omega)).trans ((aA.aC (by omega)).trans e9)
  have p17:=(ffr5 17 (by omega)).trans ((aA.aC (by omega)).trans e17)
  have ps:=(ffr5 (nx1+1) (by omega)).trans aA.bH
  have pt:=(ffr5 (na+1) (by omega)).trans ((aA.aC (by omega)).trans et)
  clear ffr5 ffr4 e9 e17 es et g9 g17 gs gt hA
  simp only[go_sem,pt]
  refine hK _ _ _ ?_
  clear hK K
  have hP:=hsim2.port 0 (by omega) rfl
  obtain⟨P,hPd⟩: ∃P,P=aF S2 0:=⟨_,rfl⟩
  have hPs:S2.bM.getD 0 default=P:=hPd.symm
  have hPt:aHH.bM.getD 0 default=P:=hP.symm.trans hPd.symm
  have hps:=hS2.port 0 (by omega)
  rw[←hPd] at hps
  have hpq:=hps.ql
  have hpo:=hps.ol
  have hsl:=hS2.pl
  have htl:=hT2.pl
  have hlens:=hS2.st.lens hb
  have hlent:=hT2.st.lens hbA
  have hST:(cX S2).told=S2.told:=rfl
  have hTT:(cX aHH).told=aHH.told:=rfl
  rw[hST] at hlens
  rw[hTT] at hlent
  have hSr: ∀j∈S2.told,j.rsp.data.length<2^20:=fun j hj=>by have:=(hS2.st.R8 j (List.mem_append_right _ hj)).1.2.2.1;omega
  have hTr: ∀j∈aHH.told,j.rsp.data.length<2^40:=fun j hj=>by have:=(hT2.st.R8 j (List.mem_append_right _ hj)).1.2.2.1;omega
  have hto: ∀{H:aA} {nx:Nat} {K:D→aA→Nat→Prop},K (dS (aHH.told.map aS)) H nx→aB Tryz.prog zR [dS (S2.told.map aS),dI 0] H nx K:=fun h=>anE (by omega) hSr (by rw[aG9 hS2 hsim2];exact h)
  have hci: ∀{H:aA} {nx:Nat} {K:D→aA→Nat→Prop},K (dB true) H nx→aB Tryz.prog jM [dS (P.queue.map aJ),dS (P.queue.map aJ)] H nx K:=fun h=>tP (by omega) (by omega) (by rw[decide_eq_true rfl];exact h)
  have hco: ∀{H:aA} {nx:Nat} {K:D→aA→Nat→Prop},K (dB true) H nx→aB Tryz.prog oJ [dS (P.out.map eCJ),dS (P.out.map eCJ)] H nx K:=fun h=>IH (by omega) (by omega) (by rw[decide_eq_true rfl];exact h)
  have hcj: ∀{H:aA} {nx:Nat} {K:D→aA→Nat→Prop},K (dB true) H nx→aB Tryz.prog jN [dS (aHH.told.map aS),dS (aHH.told.map aS)] H nx K:=fun h=>AL (by omega) (by omega) hTr hTr (by rw[decide_eq_true rfl];exact h)
  have hB:bQ nx5 [9,17,nx1+1,na+1]:=AM.apart (by simp;omega) (by simp;omega)
  simp only[bQ,eZ] at hB
  repeat' (first| (with_reducible first| (refine hK _ _ _ ?_;clear hK K)| (refine hB ?_;clear hA hB A B)|refine Z1 ?_|refine Z2 ?_)| (first| (with_reducible first|refine Y2 fun K hK=> ?_|refine Y3 fun A B hA hB=> ?_)| (refine hto ?_)| (refine hci ?_)| (refine hco ?_)| (refine hcj ?_))<;>(simp only[go_sem,Nat.add_assoc,Nat.left_eq_add,Nat.add_eq_left,aHL,p17,ps,pt,m1,m2,m3,m3',m4,m5,aHI,aHJ,aHK,a6,hPs,hPt,hsl,htl,hB];try simp (disch:=omega) only[Iw])| ((with_reducible refine Y0 ?_);simp only[AQ.then,AQ.blk])|refine⟨by omega,?_⟩| (with_reducible refine hKB _ _ _ ?_)|fail)
  exact hKL _ _ _ (k+1,S2,aHH) noF _ (by omega) (by dsimp only;omega) (by repeat' (first| (with_reducible first|exact C1|refine C2 ?_ ?_)| ((with_reducible refine C0 ?_);exact CE (by omega) rfl)| ((with_reducible refine D0 ?_);first|exact CA rfl|refine CJ ?_)|fail)) aK ⟨⟨by dsimp only;omega,hS2,hT2,hsim2⟩,by rw[aA.aC (by omega),aA.aC (by omega),aA.aC (by omega)];exact aHL,by rw[aA.aC (by omega),aA.aC (by omega),aA.aC (by omega)];exact p17,by rw[aA.aC (by omega),aA.aC (by omega),aA.aC (by omega)];exact ps,by rw[aA.aC (by omega),aA.aC (by omega)];exact aA.bH⟩
 ·repeat' (first| (with_reducible first| (refine hK _ _ _ ?_;clear hK K)| (refine hB ?_;clear hA hB A B)|refine Z1 ?_|refine Z5 (by omega) ?_|refine hKX _ _ _ ?_)| (first| (with_reducible first|refine Y2 fun K hK=> ?_|refine Y3 fun A B hA hB=> ?_)| (with_reducible refine apY ?_))<;>(simp only[go_sem])| ((with_reducible first|refine Y8 ?_|refine Y9 ?_);try simp only[AQ.then,AQ.blk,reduceIte,Nat.reduceEqDiff])|fail)
  exact hQ _ _ _ _ _ (.inr rfl) rfl ⟨rfl,rfl⟩
end Go.Proofs.YtegiblhkjfiooaaGreat
end
section
namespace Go.AM
open Go.RowKit
def asV (k:IntKind) (w:World) (a:Option Addr) (len cap:Nat) (zs:List Int):Prop:=
 (a=none∧len=0∧cap=0∧zs=[])∨
 ∃x,a=some x∧len≤cap∧cap≤maxLen∧zs.length=cap∧(∀i,i<zs.length→w.cell? (x.add i)=some (.int k (zs.getD i 0)))∧ ∀n∈zs,(Lit.int k n).wf=true
theorem abA {P:Program} {f:FuncId} {l:List Int} {w:World} {v:Value} {I:Nat→Prop} (h:aB P f [dS (l.map eU8)] .nil 0 fun rr _ _=>rr.plain=true∧rr=dB true) (hI: ∀b,I b→b<w.heap.size) (hv:Imm I w (.isl (l.map eU8)) v):
 Calls P f #[v] w fun e w'=>e= .returned (.bool true)∧Below w.heap.size w w':=by
 have hno: ∀b,¬uG ⟨fun _=>(0,0),fun _=>False,I,w⟩ .nil b:=by rintro b ⟨id,o,h,_⟩;cases h
 have hst:St ⟨fun _=>(0,0),fun _=>False,I,w⟩ .nil:=⟨fun id o h=>(by cases h),fun id o h=>(by cases h),fun id o h=>(by cases h),fun id o i j r d h=>(by cases h),fun id id' o o' h=>(by cases h),fun id o h=>(by cases h),hI⟩
 refine(h.2 ⟨fun _=>(0,0),fun _=>False,I,w⟩ [v] hst (fun i hi=>hi.elim) rfl (fun i d u h1 h2=> ?_)).mono ?_
 ·match i with
  |0=>simp at h1 h2;subst h1;subst h2;exact hv
  |i+1=>simp at h1
 ·rintro x w' ⟨u,c',r,H',nx',rfl,rfl,p1,p2,p3,p4,p5,p6,rfl⟩
  have hu:u= .bool true:=by
   simp only[fD,jZ,Rel,bY] at p5
   cases p5;rfl
  subst hu
  exact⟨rfl,p2.os,p2.tape,p2.output,p2.size,fun k hk=>p2.frame k hk (hno k)⟩
theorem atQ {P:Program} {f:FuncId} (h: ∀l:List Int,(∀x∈l,0≤x∧x<256)→aB P f [dS (l.map eU8)] .nil 0 fun rr _ _=>rr.plain=true∧rr=dB true) (az5:Option Addr) (len0 cap0:Nat) (z0:List Int) (w:World) (w0:asV .u8 w az5 len0 cap0 z0):
 Calls P f #[.slice az5 len0 cap0] w fun e w'=>e= .returned (.bool true)∧Below w.heap.size w w':=by
 rcases w0 with⟨rfl,rfl,rfl,rfl⟩|⟨x,rfl,hl,hm,hz,hc,hw⟩
 ·refine abA (I:=fun _=>False) (h [] (fun x hx=>by cases hx)) (fun b hb=>hb.elim) ?_
  exact .isl [] none 0 1 0 0 (fun _ _=>.int .u8 0) (fun h=>absurd rfl h) (Nat.le_refl _) (fun i r h=>by simp at h) (fun i j r d h=>by simp at h) (fun i j r d h=>by simp at h)
 ·have hlt:(z0.take len0).length=len0:=by simp;omega
  have hby: ∀y∈z0.take len0,0≤y∧y<256:=fun y hy=>by
   have:=bounds_u8 (hw y (List.take_subset _ _ hy));omega
  refine abA (I:=fun b=>b=x.block∧0<len0) (h (z0.take len0) hby) (fun b hb=> ?_) ?_
  ·obtain⟨rfl,h0⟩:=hb
   have:=World.block_lt_of_cell? w _ (hc 0 (by omega))
   simpa [Addr.add] using this
  ·have key:=Imm.isl (I:=fun b=>b=x.block∧0<len0) (w:=w) ((z0.take len0).map eU8) (some x) cap0 1 x.block x.off (fun i _=>.int .u8 (z0.getD i 0)) (fun hne=> ?_) (by simp;omega) (fun i r hr=> ?_) (fun i j r d hr hd=> ?_) (fun i j r d hr hd=> ?_)
   ·rw[List.length_map,hlt] at key;exact key
   ·have h0:0<len0:=by
     rcases Nat.eq_zero_or_pos len0 with h0|h0
     ·subst h0;exact absurd (by simp) hne
     ·exact h0
    have hsp:=World.cell?_spot (hc 0 (by omega))
    refine⟨?_,rfl,h0⟩
    obtain⟨b,o,s⟩:=x
    simp only[Addr.add,if_true] at hsp
    subst hsp
    rfl
   ·obtain⟨y,_,rfl⟩:=List.mem_map.1 (List.mem_of_getElem? hr)
    rfl
   ·rw[List.getElem?_map] at hr
    obtain⟨y,hy,rfl⟩:=Option.map_eq_some_iff.1 hr
    match j with
    |0=>
     have hi:i<len0:=by have:=(List.getElem?_eq_some_iff.1 hy).1;omega
     have h1:=hc i (by omega)
     have hsp:=World.cell?_spot (hc 0 (by omega))
     obtain⟨b,o,s⟩:=x
     simp only[Addr.add,if_true] at hsp
     subst hsp
     have e:(Addr.mk b o none).add i=⟨b,o+(i*1+0),none⟩:=by
      unfold Addr.add
      split
      ·rename_i h;subst h;simp
      ·simp
     rw[e] at h1
     exact h1
    |j+1=>simp[eU8] at hd
   ·rw[List.getElem?_map] at hr
    obtain⟨y,hy,rfl⟩:=Option.map_eq_some_iff.1 hr
    match j with
    |0=>
     simp only[eU8,List.getElem?_cons_zero,Option.some.injEq] at hd
     subst hd
     have hyz:y=z0.getD i 0:=by
      rw[List.getElem?_take] at hy
      split at hy
      ·simp[List.getD,hy]
      ·cases hy
     subst hyz
     exact .v _ rfl
    |j+1=>simp[eU8] at hd
end Go.AM
end
