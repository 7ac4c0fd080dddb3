/- Texts laid together by a program: rules, contracts and the walk that leads to the law. -/
import Derived.Test.YtegiblhkjfiooaaGreatPx11
import Derived.Test.YtegiblhkjfiooaaGreatPx10
import Derived.Test.YtegiblhkjfiooaaGreatPx8
import Derived.Test.YtegiblhkjfiooaaGreatPx3
set_option linter.unusedVariables false
set_option linter.unusedSimpArgs false
set_option linter.unusedSectionVars false
section
namespace Go.AM
theorem MC: ∀{m:Nat} {l:List Int},l.Nodup→(∀x∈l,0≤x∧x<m)→l.length≤m
 |0,l,_,h=>by
  cases l with
  |nil=>simp
  |cons x l=>have:=h x (by simp);omega
 |m+1,l,hn,h=>by
  by_cases hm:(m:Int)∈l
  ·have h1:=MC (m:=m) (l:=l.erase (m:Int)) (hn.erase _) fun x hx=>by
    obtain⟨q1,q2⟩:=(hn.mem_erase_iff).1 hx
    have:=h x q2
    omega
   rw[List.length_erase_of_mem hm] at h1
   omega
  ·have:=MC (m:=m) (l:=l) hn fun x hx=>by
    have:=h x hx
    have:x≠m:=fun he=>hm (he▸hx)
    omega
   omega
theorem akR {l:List Job} {who m:Nat} (hn:(l.map key).Nodup) (h: ∀j∈l,j.who=who→0≤j.n∧j.n<m):(fS l who).length≤m:=by
 have h1:((fS l who).map (·.n)).Nodup:=by
  have h2:((fS l who).map key).Nodup:=hn.sublist ((List.filter_sublist).map key)
  rw[List.nodup_iff_pairwise_ne,List.pairwise_map] at h2 ⊢
  refine h2.imp_of_mem ?_
  intro a b ha hb hab he
  refine hab ?_
  have q1:=of_decide_eq_true (List.mem_filter.1 ha).2
  have q2:=of_decide_eq_true (List.mem_filter.1 hb).2
  simp only[key,Prod.mk.injEq]
  exact⟨by omega,he⟩
 have:=MC (m:=m) h1 fun x hx=>by
  obtain⟨j,hj,rfl⟩:=List.mem_map.1 hx
  exact h j (WN j hj) (of_decide_eq_true (List.mem_filter.1 hj).2)
 simpa using this
theorem aaV {l:List Job} (h: ∀j∈l,0≤j.who∧j.who≤2):(fS l 0).length+(fS l 1).length+(fS l 2).length=l.length:=by
 induction l with
 |nil=>rfl
 |cons x l ih=>
  have h1:=ih fun j hj=>h j (by simp[hj])
  have h2:=h x (by simp)
  unfold fS at*
  have:x.who=0∨x.who=1∨x.who=2:=by omega
  rcases this with e|e|e<;>simp[e]<;>omega
theorem WV {c:Cfg} {s:CSt} (h:COk c s) (hf:Fin c s): ∀k,k<4→(aL s k).pipe=[]∧(aL s k).done=[]:=by
 have hc:=h.count
 unfold hU at hc
 rw[(hf 0 (by omega)).2.2,(hf 1 (by omega)).2.2,(hf 2 (by omega)).2.2] at hc
 simp only[List.length_nil] at hc
 intro k hk
 have:k=0∨k=1∨k=2∨k=3:=by omega
 rcases this with rfl|rfl|rfl|rfl<;>exact⟨List.length_eq_zero_iff.1 (by omega),List.length_eq_zero_iff.1 (by omega)⟩
theorem afO {c:Cfg} {s:CSt} (h:COk c s) (hf:Fin c s):(cX s).wait=[]∧(cX s).done=[]:=by
 have he:=WV h hf
 have hpl:=h.pl
 have hsl:=h.sl
 have h1:qU s=[]:=by
  rw[List.eq_nil_iff_forall_not_mem]
  intro j hj
  rcases wU.1 hj with⟨k,hk,m,hm,_⟩|⟨st,hs,x,hx,_⟩
  ·rw[(hf k (by omega)).2.1] at hm;cases hm
  ·rw[(he st (by omega)).1] at hx;cases hx
 have h2:uQ s=[]:=by
  rw[List.eq_nil_iff_forall_not_mem]
  intro j hj
  obtain⟨st,hs,hm⟩:=BU.1 hj
  rw[(he st (by omega)).2] at hm;cases hm
 exact⟨by simp only[cX,h1];rfl,by simp only[cX,h2];rfl⟩
theorem asS {c:Cfg} {s:CSt} (h:COk c s) (hf:Fin c s): ∀k:Nat,k<3→(fS s.told k).length=(c.cP.getD k default).length:=by
 obtain⟨h1,h2⟩:=afO h hf
 have hst:=h.st
 have hcnt:=hst.count
 have hap:=hst.apart.1
 have hin:=hst.inA
 have hpl:=h.pl
 rw[h1,h2] at hcnt hin
 have hA:=fun k (hk:k<3)=>R6 (s:=s) (k:=k) (by omega)
 rw[hA 0 (by omega),hA 1 (by omega),hA 2 (by omega),(hf 0 (by omega)).1,(hf 1 (by omega)).1,(hf 2 (by omega)).1] at hcnt
 have ht:(cX s).told=s.told:=rfl
 rw[ht] at hcnt hap hin
 have hw: ∀j∈s.told,0≤j.who∧j.who≤2:=fun j hj=>(hin j (by simp[hj])).1
 have hle: ∀k:Nat,k<3→(fS s.told k).length≤(c.cP.getD k default).length:=fun k hk=>akR hap fun j hj he=>by
  have:=(hin j (by simp[hj])).2
  rw[show j.who.toNat=k by omega,hA k hk,(hf k hk).1] at this
  exact this
 have h3:=aaV hw
 have az5:=hle 0 (by omega)
 have az9:=hle 1 (by omega)
 have az2:=hle 2 (by omega)
 have e0:fS s.told ((0:Nat):Int)=fS s.told 0:=rfl
 have e1:fS s.told ((1:Nat):Int)=fS s.told 1:=rfl
 have e2:fS s.told ((2:Nat):Int)=fS s.told 2:=rfl
 rw[e0] at az5
 rw[e1] at az9
 rw[e2] at az2
 simp only[List.length_nil] at hcnt
 intro k hk
 have:k=0∨k=1∨k=2:=by omega
 rcases this with rfl|rfl|rfl
 ·rw[e0];omega
 ·rw[e1];omega
 ·rw[e2];omega
theorem afS {c:Cfg} {s:CSt} (hb:aQ c) (h:COk c s):Fin c s↔HF c s=0:=by
 refine⟨fun hf=> ?_,fun hm=> ?_⟩
 ·have he:=WV h hf
  have h1: ∀k,k<3→kK c s k=0:=fun k hk=>by
   unfold kK;rw[(hf k hk).1,(hf k hk).2.1];simp
  have h2: ∀k,k<4→mP s k=0:=fun k hk=>by
   unfold mP;rw[(he k hk).1,(he k hk).2];rfl
  unfold HF
  rw[h1 0 (by omega),h1 1 (by omega),h1 2 (by omega),h2 0 (by omega),h2 1 (by omega),h2 2 (by omega),h2 3 (by omega)]
  rfl
 ·refine Classical.byContradiction fun hf=> ?_
  have h1:=S6 hb h hf
  have h2:=(afV hb (PN hb (i:=pU) h)).1
  omega
theorem aiL {c:Cfg} (hb:aQ c): ∀{n:Nat} {s:CSt},COk c s→HF c s≤n→Fin c (sQ c s (List.replicate n pU))
 |0,s,h,hm=>(afS hb h).2 (by have:=(afV hb h).1;omega)
 |n+1,s,h,hm=>by
  rw[List.replicate_succ,ME]
  refine aiL hb (n:=n) (s:=vF c pU s) (PN hb h) ?_
  by_cases hf:Fin c s
  ·have h1:=(afS hb h).1 hf
   have h2:=aq6 (i:=pU) hb h
   omega
  ·have h1:=S6 hb h hf
   omega
end Go.AM
end
section
namespace Go.AM
def eCJ (j:fC):List D1:=[cI j.who,cI j.n,cI j.left]
theorem anW {j:fC}:(eCJ j).length=3:=rfl
theorem aiX {j:fC}:(eCJ j).take 1=[cI j.who]:=rfl
theorem aiI {j:fC}:(eCJ j).drop 1=[cI j.n,cI j.left]:=rfl
theorem ah9 {j:fC}:(eCJ j).take 2=[cI j.who,cI j.n]:=rfl
theorem ajA {j:fC}:(eCJ j).drop 2=[cI j.left]:=rfl
theorem agT {j:fC}:(eCJ j).take 3=eCJ j:=rfl
theorem agG {j:fC}:(eCJ j).drop 3=[]:=rfl
theorem alE {j:fC} {cs:List D1} {k:Nat}:iA cs (k+1) (eCJ j)=iA cs (k+1) [cI j.who,cI j.n,cI j.left]:=rfl
theorem yK (j:fC):(eCJ j).length=3∧(eCJ j).all D1.dQ=true:=⟨rfl,rfl⟩
attribute [go_sem] anW aiX aiI ah9 ajA agT agG alE
def cD (p:fR):List D1:=[cI p.next,.isl (p.queue.map aJ),.isl (p.out.map eCJ),cI p.last]
theorem ag6 {p:fR}:(cD p).length=4:=rfl
theorem ZZ {p:fR}:(cD p).take 1=[cI p.next]:=rfl
theorem abE {p:fR}:(cD p).drop 1=[.isl (p.queue.map aJ),.isl (p.out.map eCJ),cI p.last]:=rfl
theorem YU {p:fR}:(cD p).take 2=[cI p.next,.isl (p.queue.map aJ)]:=rfl
theorem ZM {p:fR}:(cD p).drop 2=[.isl (p.out.map eCJ),cI p.last]:=rfl
theorem aa2 {p:fR}:(cD p).take 3=[cI p.next,.isl (p.queue.map aJ),.isl (p.out.map eCJ)]:=rfl
theorem aa8 {p:fR}:(cD p).drop 3=[cI p.last]:=rfl
theorem abO {p:fR}:(cD p).take 4=cD p:=rfl
theorem aaG {p:fR}:(cD p).drop 4=[]:=rfl
theorem aeM {p:fR} {cs:List D1} {k:Nat}:iA cs (k+1) (cD p)=iA cs (k+1) [cI p.next,.isl (p.queue.map aJ),.isl (p.out.map eCJ),cI p.last]:=rfl
theorem t7 (p:fR):(cD p).length=4∧(cD p).all D1.dQ=true:=⟨rfl,rfl⟩
attribute [go_sem] ag6 ZZ abE YU ZM aa2 aa8 abO aaG aeM
def gF (v:nY):List D1:=[.isl (v.pipe.map eCJ),.isl (v.done.map aS),cI v.last]
theorem amX {v:nY}:(gF v).length=3:=rfl
theorem ad9 {v:nY}:(gF v).take 1=[.isl (v.pipe.map eCJ)]:=rfl
theorem aeY {v:nY}:(gF v).drop 1=[.isl (v.done.map aS),cI v.last]:=rfl
theorem ab2 {v:nY}:(gF v).take 2=[.isl (v.pipe.map eCJ),.isl (v.done.map aS)]:=rfl
theorem ac3 {v:nY}:(gF v).drop 2=[cI v.last]:=rfl
theorem ad6 {v:nY}:(gF v).take 3=gF v:=rfl
theorem adW {v:nY}:(gF v).drop 3=[]:=rfl
theorem ahZ {v:nY} {cs:List D1} {k:Nat}:iA cs (k+1) (gF v)=iA cs (k+1) [.isl (v.pipe.map eCJ),.isl (v.done.map aS),cI v.last]:=rfl
theorem zJ (v:nY):(gF v).length=3∧(gF v).all D1.dQ=true:=⟨rfl,rfl⟩
attribute [go_sem] amX ad9 aeY ab2 ac3 ad6 adW ahZ
def eI (s:CSt):List D1:=[.isl (s.words.map aJ),.isl (s.holds.map aJ),.isl (s.bM.map cD),.isl (s.dD.map gF),.isl (s.told.map aS)]
theorem ajM {s:CSt}:(eI s).length=5:=rfl
theorem adQ {s:CSt}:(eI s).take 1=[.isl (s.words.map aJ)]:=rfl
theorem acL {s:CSt}:(eI s).drop 1=[.isl (s.holds.map aJ),.isl (s.bM.map cD),.isl (s.dD.map gF),.isl (s.told.map aS)]:=rfl
theorem aeK {s:CSt}:(eI s).take 2=[.isl (s.words.map aJ),.isl (s.holds.map aJ)]:=rfl
theorem aeQ {s:CSt}:(eI s).drop 2=[.isl (s.bM.map cD),.isl (s.dD.map gF),.isl (s.told.map aS)]:=rfl
theorem adC {s:CSt}:(eI s).take 3=[.isl (s.words.map aJ),.isl (s.holds.map aJ),.isl (s.bM.map cD)]:=rfl
theorem adP {s:CSt}:(eI s).drop 3=[.isl (s.dD.map gF),.isl (s.told.map aS)]:=rfl
theorem ab6 {s:CSt}:(eI s).take 4=[.isl (s.words.map aJ),.isl (s.holds.map aJ),.isl (s.bM.map cD),.isl (s.dD.map gF)]:=rfl
theorem aeD {s:CSt}:(eI s).drop 4=[.isl (s.told.map aS)]:=rfl
theorem ac5 {s:CSt}:(eI s).take 5=eI s:=rfl
theorem aeA {s:CSt}:(eI s).drop 5=[]:=rfl
theorem aiO {s:CSt} {cs:List D1} {k:Nat}:iA cs (k+1) (eI s)=iA cs (k+1) [.isl (s.words.map aJ),.isl (s.holds.map aJ),.isl (s.bM.map cD),.isl (s.dD.map gF),.isl (s.told.map aS)]:=rfl
attribute [go_sem] ajM adQ acL aeK aeQ adC adP ab6 aeD ac5 aeA aiO
def eH (b:Bool):List D1:=[cB b]
theorem ai9 {b:Bool}:(eH b).length=1:=rfl
theorem abL {b:Bool}:(eH b).take 1=[cB b]:=rfl
theorem aaB {b:Bool}:(eH b).drop 1=[]:=rfl
theorem abX {b:Bool} {cs:List D1} {k:Nat}:iA cs (k+1) (eH b)=iA cs (k+1) [cB b]:=rfl
theorem mK (b:Bool):(eH b).length=1∧(eH b).all D1.dQ=true:=⟨rfl,rfl⟩
attribute [go_sem] ai9 abL aaB abX
def eIn (i:CIn):List D1:=[.isl (i.ready.map eH),.isl (i.n9.map eH),.isl (i.send.map eH)]
theorem aoW {i:CIn}:(eIn i).length=3:=rfl
theorem agD {i:CIn}:(eIn i).take 1=[.isl (i.ready.map eH)]:=rfl
theorem ah2 {i:CIn}:(eIn i).drop 1=[.isl (i.n9.map eH),.isl (i.send.map eH)]:=rfl
theorem aiC {i:CIn}:(eIn i).take 2=[.isl (i.ready.map eH),.isl (i.n9.map eH)]:=rfl
theorem agZ {i:CIn}:(eIn i).drop 2=[.isl (i.send.map eH)]:=rfl
theorem ajC {i:CIn}:(eIn i).take 3=eIn i:=rfl
theorem agB {i:CIn}:(eIn i).drop 3=[]:=rfl
theorem al9 {i:CIn} {cs:List D1} {k:Nat}:iA cs (k+1) (eIn i)=iA cs (k+1) [.isl (i.ready.map eH),.isl (i.n9.map eH),.isl (i.send.map eH)]:=rfl
theorem QX (i:CIn):(eIn i).length=3∧(eIn i).all D1.dQ=true:=⟨rfl,rfl⟩
attribute [go_sem] aoW agD ah2 aiC agZ ajC agB al9
structure tZ (H:aA) (n id off len cap:Nat) (R:List (List D1)):Prop where
 ex: ∃m rows,H id=some ⟨n,m,rows⟩∧rows.drop off=R∧off+len≤rows.length∧len=R.length∧len≤cap∧off+cap≤m
def af5 (nq no:Nat) (p:fR) (qo qc oc:Nat):List D1:=[cI p.next,.osl 1 nq qo p.queue.length qc,.osl 3 no 0 p.out.length oc,cI p.last]
def aj9 (np nd:Nat) (v:nY) (po pc do_ dc:Nat):List D1:=[.osl 3 np po v.pipe.length pc,.osl 5 nd do_ v.done.length dc,cI v.last]
structure CX (H:aA) (nq no:Nat) (p:fR) (r:List D1):Prop where
 ex: ∃qo qc oc,r=af5 nq no p qo qc oc∧tZ H 1 nq qo p.queue.length qc (p.queue.map aJ)∧tZ H 3 no 0 p.out.length oc (p.out.map eCJ)
structure LJ (H:aA) (np nd:Nat) (v:nY) (r:List D1):Prop where
 ex: ∃po pc do_ dc,r=aj9 np nd v po pc do_ dc∧tZ H 3 np po v.pipe.length pc (v.pipe.map eCJ)∧tZ H 5 nd do_ v.done.length dc (v.done.map aS)
def U2 (nm:Nat→Nat) (s:CSt) (wc hc pc vc tc:Nat):List D1:=[.osl 1 (nm 0) 0 s.words.length wc,.osl 1 (nm 1) 0 s.holds.length hc,.osl 4 (nm 2) 0 3 pc,.osl 3 (nm 3) 0 4 vc,.osl 5 (nm 4) 0 s.told.length tc]
structure abY (H:aA) (nm:Nat→Nat) (s:CSt) (cells:List D1):Prop where
 ex: ∃wc hc pc vc tc,cells=U2 nm s wc hc pc vc tc∧tZ H 1 (nm 0) 0 s.words.length wc (s.words.map aJ)∧tZ H 1 (nm 1) 0 s.holds.length hc (s.holds.map aJ)∧tZ H 5 (nm 4) 0 s.told.length tc (s.told.map aS)∧
  3≤pc∧4≤vc
 bM: ∃m rows,H (nm 2)=some ⟨4,m,rows⟩∧rows.length=3∧ ∀k,k<3→∃r,rows[k]?=some r∧CX H (nm (5+k)) (nm (8+k)) (aF s k) r
 dD: ∃m rows,H (nm 3)=some ⟨3,m,rows⟩∧rows.length=4∧ ∀k,k<4→∃r,rows[k]?=some r∧LJ H (nm (11+k)) (nm (15+k)) (aL s k) r
structure Names (X:Nat→Prop) (nx:Nat) (nm:Nat→Nat):Prop where
 inj: ∀j k,j<19→k<19→nm j=nm k→j=k
 lt: ∀k,k<19→nm k<nx
 av: ∀k,k<19→¬X (nm k)
structure Rep (X:Nat→Prop) (H:aA) (nx i0:Nat) (nm:Nat→Nat) (s:CSt):Prop where
 st: ∃cells,H i0=some ⟨5,1,[cells]⟩∧abY H nm s cells
 names:Names X nx nm
 ne: ∀k,k<19→nm k≠i0
 i0:i0<nx∧ ¬X i0
 x: ∀id,X id→id<nx
def aqA (Y:Nat→Prop) (H:aA) (nx i1:Nat) (es:List Ev) (d:D1):Prop:=
 (es=[]∧d= .osl 0 0 0 0 0)∨ ∃ev cap,d= .osl 3 ev 0 es.length cap∧tZ H 3 ev 0 es.length cap (es.map eEv)∧ev<nx∧ ¬Y ev∧ev≠i1
structure aiW (Y:Nat→Prop) (H:aA) (nx i1:Nat) (es:List Ev):Prop where
 ex: ∃d a b c e,H i1=some ⟨5,1,[[d,cI a,cI b,cI c,cI e]]⟩∧aqA Y H nx i1 es d
 i1:i1<nx∧ ¬Y i1
 y: ∀id,Y id→id<nx
theorem aA.aC {H:aA} {a i:Nat} {o:bA} (h:i≠a):H.set a o i=H i:=if_neg h
theorem aA.bH {H:aA} {a:Nat} {o:bA}:H.set a o a=some o:=if_pos rfl
theorem aA.jG {H:aA} {a i:Nat} (h:i≠a):H.del a i=H i:=if_neg h
def eZ (x:Nat):List Nat→Prop
 | []=>True
 |y::l=>((x=y)=False∧(y=x)=False)∧eZ x l
def bQ (nx:Nat):List Nat→Prop
 | []=>True
 |x::l=>((∀k,(x=nx+k)=False)∧(∀k,(nx+k=x)=False)∧(x=nx)=False∧(nx=x)=False)∧eZ x l∧bQ nx l
theorem apZ {x:Nat}: ∀{l:List Nat},x∉l→eZ x l
 | [],_=>trivial
 |y::l,h=>by
  rw[List.mem_cons,not_or] at h
  exact⟨⟨eq_false h.1,eq_false (Ne.symm h.1)⟩,apZ h.2⟩
theorem apart {nx:Nat}: ∀{l:List Nat},l.Nodup→(∀x∈l,x<nx)→bQ nx l
 | [],_,_=>trivial
 |x::l,h,hl=>by
  rw[List.nodup_cons] at h
  have hx:=hl x (by simp)
  exact⟨⟨fun k=>eq_false (by omega),fun k=>eq_false (by omega),eq_false (by omega),eq_false (by omega)⟩,apZ h.1,apart h.2 fun y hy=>hl y (List.mem_cons_of_mem _ hy)⟩
theorem Names.list {X:Nat→Prop} {nx:Nat} {nm:Nat→Nat} (h:Names X nx nm): ∀{l:List Nat},l.Nodup→(∀k∈l,k<19)→(l.map nm).Nodup
 | [],_,_=>List.Pairwise.nil
 |k::l,hn,hl=>by
  rw[List.nodup_cons] at hn
  rw[List.map_cons,List.nodup_cons]
  refine⟨fun hm=> ?_,h.list hn.2 fun j hj=>hl j (List.mem_cons_of_mem _ hj)⟩
  obtain⟨j,hj,he⟩:=List.mem_map.1 hm
  exact hn.1 (h.inj j k (hl j (List.mem_cons_of_mem _ hj)) (hl k (by simp)) he▸hj)
theorem Rep.apart {X:Nat→Prop} {H:aA} {nx nx' i0:Nat} {nm:Nat→Nat} {s:CSt} (h:Rep X H nx i0 nm s) (ext l:List Nat) (hx:nx≤nx') (he:ext.Nodup) (heX: ∀x∈ext,X x) (hn:l.Nodup) (hl: ∀k∈l,k<19):bQ nx' (ext++i0::l.map nm):=by
 refine AM.apart (List.nodup_append.2 ⟨he,List.nodup_cons.2 ⟨fun hm=> ?_,h.names.list hn hl⟩,fun a ha b hb hab=> ?_⟩) fun x hx=> ?_
 ·obtain⟨j,hj,he⟩:=List.mem_map.1 hm
  exact h.ne j (hl j hj) he
 ·subst hab
  rcases List.mem_cons.1 hb with rfl|hb
  ·exact h.i0.2 (heX _ ha)
  ·obtain⟨j,hj,rfl⟩:=List.mem_map.1 hb
   exact h.names.av j (hl j hj) (heX _ ha)
 ·rcases List.mem_append.1 hx with hx|hx
  ·have:=h.x x (heX x hx);omega
  ·rcases List.mem_cons.1 hx with rfl|hx
   ·have:=h.i0.1;omega
   ·obtain⟨j,hj,rfl⟩:=List.mem_map.1 hx
    have:=h.names.lt j (hl j hj);omega
theorem tZ.frame {H H':aA} {n id off len cap:Nat} {R:List (List D1)} (h:tZ H n id off len cap R) (he:H' id=H id):tZ H' n id off len cap R:=by
 obtain⟨m,rows,h1,h2⟩:=h.ex
 exact⟨m,rows,by rw[he,h1],h2⟩
theorem CX.frame {H H':aA} {nq no:Nat} {p:fR} {r:List D1} (h:CX H nq no p r) (h1:H' nq=H nq) (h2:H' no=H no):CX H' nq no p r:=by
 obtain⟨qo,qc,oc,e,q1,q2⟩:=h.ex
 exact⟨qo,qc,oc,e,q1.frame h1,q2.frame h2⟩
theorem LJ.frame {H H':aA} {np nd:Nat} {v:nY} {r:List D1} (h:LJ H np nd v r) (h1:H' np=H np) (h2:H' nd=H nd):LJ H' np nd v r:=by
 obtain⟨po,pc,do_,dc,e,q1,q2⟩:=h.ex
 exact⟨po,pc,do_,dc,e,q1.frame h1,q2.frame h2⟩
theorem Rep.upd {X:Nat→Prop} {H H':aA} {nx nx' i0:Nat} {nm nm':Nat→Nat} {s s':CSt} {who st:Nat} (h:Rep X H nx i0 nm s) (hx:nx≤nx') (hN:Names X nx' nm') (hne: ∀k,k<19→nm' k≠i0)
 (hk: ∀k,k<19→k≠4→k≠5+who→k≠8+who→k≠11+st→k≠15+st→nm' k=nm k) (hfr: ∀k,5≤k→k<19→k≠5+who→k≠8+who→k≠11+st→k≠15+st→H' (nm k)=H (nm k))
 (e1: ∃wc hc pc vc tc,H' i0=some ⟨5,1,[U2 nm' s' wc hc pc vc tc]⟩∧tZ H' 1 (nm' 0) 0 s'.words.length wc (s'.words.map aJ)∧tZ H' 1 (nm' 1) 0 s'.holds.length hc (s'.holds.map aJ)∧tZ H' 5 (nm' 4) 0 s'.told.length tc (s'.told.map aS)∧3≤pc∧4≤vc)
 (e2: ∃m rows m0 rows0,H (nm 2)=some ⟨4,m0,rows0⟩∧H' (nm 2)=some ⟨4,m,rows⟩∧rows.length=3∧(∀k,k<3→k≠who→rows[k]?=rows0[k]?)∧(who<3→∃r,rows[who]?=some r∧CX H' (nm' (5+who)) (nm' (8+who)) (aF s' who) r))
 (e3: ∃m rows m0 rows0,H (nm 3)=some ⟨3,m0,rows0⟩∧H' (nm 3)=some ⟨3,m,rows⟩∧rows.length=4∧(∀k,k<4→k≠st→rows[k]?=rows0[k]?)∧(st<4→∃r,rows[st]?=some r∧LJ H' (nm' (11+st)) (nm' (15+st)) (aL s' st) r))
 (hw:who<3∨who=14) (hs:st<4∨st=8) (hp: ∀k,k<3→k≠who→aF s' k=aF s k) (hv: ∀k,k<4→k≠st→aL s' k=aL s k):Rep X H' nx' i0 nm' s':=by
 obtain⟨⟨cells,hi0,hex,hports,hslvs⟩,hnames,hne0,hi1,hX⟩:=h
 refine⟨?_,hN,hne,⟨by omega,hi1.2⟩,fun id hid=>by have:=hX id hid;omega⟩
 obtain⟨wc,hc,pc,vc,tc,q1,q2⟩:=e1
 refine⟨_,q1,⟨wc,hc,pc,vc,tc,rfl,q2⟩,?_,?_⟩
 ·obtain⟨m,rows,m0,rows0,g1,g2,g3,g4,g5⟩:=e2
  obtain⟨m1,rows1,j1,j2,j3⟩:=hports
  rw[g1] at j1
  obtain⟨_,rfl,rfl⟩:4=4∧m0=m1∧rows0=rows1:=by simpa using j1
  refine⟨m,rows,by rw[hk 2 (by omega) (by omega) (by omega) (by omega) (by omega) (by omega)];exact g2,g3,fun k hk3=> ?_⟩
  by_cases hkw:k=who
  ·subst hkw;exact g5 hk3
  ·obtain⟨r,j4,j5⟩:=j3 k hk3
   refine⟨r,by rw[g4 k hk3 hkw];exact j4,?_⟩
   rw[hp k hk3 hkw,hk (5+k) (by omega) (by omega) (by omega) (by omega) (by omega) (by omega),hk (8+k) (by omega) (by omega) (by omega) (by omega) (by omega) (by omega)]
   exact j5.frame (hfr _ (by omega) (by omega) (by omega) (by omega) (by omega) (by omega)) (hfr _ (by omega) (by omega) (by omega) (by omega) (by omega) (by omega))
 ·obtain⟨m,rows,m0,rows0,g1,g2,g3,g4,g5⟩:=e3
  obtain⟨m1,rows1,j1,j2,j3⟩:=hslvs
  rw[g1] at j1
  obtain⟨_,rfl,rfl⟩:3=3∧m0=m1∧rows0=rows1:=by simpa using j1
  refine⟨m,rows,by rw[hk 3 (by omega) (by omega) (by omega) (by omega) (by omega) (by omega)];exact g2,g3,fun k hk3=> ?_⟩
  by_cases hkw:k=st
  ·subst hkw;exact g5 hk3
  ·obtain⟨r,j4,j5⟩:=j3 k hk3
   refine⟨r,by rw[g4 k hk3 hkw];exact j4,?_⟩
   rw[hv k hk3 hkw,hk (11+k) (by omega) (by omega) (by omega) (by omega) (by omega) (by omega),hk (15+k) (by omega) (by omega) (by omega) (by omega) (by omega) (by omega)]
   exact j5.frame (hfr _ (by omega) (by omega) (by omega) (by omega) (by omega) (by omega)) (hfr _ (by omega) (by omega) (by omega) (by omega) (by omega) (by omega))
theorem Rep.frame {X X':Nat→Prop} {H H':aA} {nx nx' i0:Nat} {nm:Nat→Nat} {s:CSt} (h:Rep X H nx i0 nm s) (hx:nx≤nx') (h0:H' i0=H i0) (hfr: ∀k,k<19→H' (nm k)=H (nm k)) (hX: ∀id,X' id→id<nx'∧id≠i0∧ ∀k,k<19→id≠nm k):Rep X' H' nx' i0 nm s:=by
 obtain⟨⟨cells,hi0,⟨wc,hc,pc,vc,tc,q1,q2,q3,q4,q5⟩,⟨m,rows,j1,j2,j3⟩,⟨m',rows',j4,j5,j6⟩⟩,hnames,hne0,hi1,_⟩:=h
 refine⟨⟨cells,by rw[h0];exact hi0,⟨wc,hc,pc,vc,tc,q1,q2.frame (hfr _ (by omega)),q3.frame (hfr _ (by omega)),q4.frame (hfr _ (by omega)),q5⟩,⟨m,rows,by rw[hfr 2 (by omega)];exact j1,j2,fun k hk=> ?_⟩,⟨m',rows',by rw[hfr 3 (by omega)];exact j4,j5,fun k hk=> ?_⟩⟩,
  ⟨hnames.inj,fun k hk=>by have:=hnames.lt k hk;omega,fun k hk hn=>(hX _ hn).2.2 k hk rfl⟩,hne0,⟨by omega,fun hn=>(hX _ hn).2.1 rfl⟩,fun id hid=>(hX id hid).1⟩
 ·obtain⟨r,k1,k2⟩:=j3 k hk
  exact⟨r,k1,k2.frame (hfr _ (by omega)) (hfr _ (by omega))⟩
 ·obtain⟨r,k1,k2⟩:=j6 k hk
  exact⟨r,k1,k2.frame (hfr _ (by omega)) (hfr _ (by omega))⟩
def put (nm:Nat→Nat) (k v:Nat):Nat→Nat:=fun j=>if j=k then v else nm j
theorem t8 {nm:Nat→Nat} {k v:Nat}:put nm k v k=v:=if_pos rfl
theorem jE {nm:Nat→Nat} {k v j:Nat} (h:j≠k):put nm k v j=nm j:=if_neg h
theorem Names.mono {X:Nat→Prop} {nx nx':Nat} {nm:Nat→Nat} (h:Names X nx nm) (hx:nx≤nx'):Names X nx' nm:=
 ⟨h.inj,fun k hk=>by have:=h.lt k hk;omega,h.av⟩
theorem Names.put {X:Nat→Prop} {nx nx':Nat} {nm:Nat→Nat} {k v:Nat} (h:Names X nx nm) (h1:nx≤v) (h2:v<nx') (hX: ¬X v):Names X nx' (put nm k v):=by
 refine⟨fun i j hi hj he=> ?_,fun j hj=> ?_,fun j hj=> ?_⟩
 ·have a:=h.lt i hi
  have b:=h.lt j hj
  have c:=h.inj i j hi hj
  unfold AM.put at he
  split at he<;>split at he<;>omega
 ·have:=h.lt j hj
  unfold AM.put;split<;>omega
 ·unfold AM.put;split
  ·exact hX
  ·exact h.av j hj
structure l9 (X:Nat→Prop) (H:aA) (nx i0 i1:Nat) (nm:Nat→Nat) (s:CSt) (es:List Ev):Prop where
 rep:Rep (fun id=>X id∨id=i1) H nx i0 nm s
 hap:aiW (fun id=>X id∨id=i0∨ ∃k,k<19∧id=nm k) H nx i1 es
theorem aiW.frame {Y Y':Nat→Prop} {H H':aA} {nx nx' i1:Nat} {es:List Ev} (h:aiW Y H nx i1 es) (hx:nx≤nx') (h1:H' i1=H i1) (hfr: ∀id,id<nx→¬Y id→H' id=H id) (hY: ∀id,Y' id→id<nx'∧(Y id∨nx≤id)):aiW Y' H' nx' i1 es:=by
 obtain⟨⟨d,a,b,c,e,g1,g2⟩,g3,g4⟩:=h
 have hn: ∀id,id<nx→¬Y id→¬Y' id:=fun id h1 h2 h3=>by
  rcases(hY id h3).2 with h|h
  ·exact h2 h
  ·omega
 refine⟨⟨d,a,b,c,e,by rw[h1];exact g1,?_⟩,⟨by omega,hn _ g3.1 g3.2⟩,fun id h=>(hY id h).1⟩
 rcases g2 with g2|⟨ev,cap,k1,k2,k3,k4,k5⟩
 ·exact .inl g2
 ·exact .inr ⟨ev,cap,k1,k2.frame (hfr _ k3 k4),by omega,hn _ k3 k4,k5⟩
theorem l9.next {X X2:Nat→Prop} {H H2:aA} {nx nx2 i0 i1:Nat} {nm:Nat→Nat} {s:CSt} {es:List Ev} (h:l9 X H nx i0 i1 nm s es) (hx:nx≤nx2) (hfr: ∀id,id<nx→¬X id→H2 id=H id) (hX: ∀id,X2 id→id<nx2∧(X id∨nx≤id)):l9 X2 H2 nx2 i0 i1 nm s es:=by
 have hi0:=h.rep.i0
 have hi1:=h.hap.i1
 have hav:=h.rep.names.av
 have hlt:=h.rep.names.lt
 refine⟨h.rep.frame hx (hfr i0 hi0.1 fun hn=>hi0.2 (.inl hn)) (fun k hk=>hfr _ (hlt k hk) fun hn=>hav k hk (.inl hn)) fun id hid=> ?_,h.hap.frame hx (hfr i1 hi1.1 fun hn=>hi1.2 (.inl hn)) (fun id h1 h2=>hfr id h1 fun hn=>h2 (.inl hn)) fun id hid=> ?_⟩
 ·rcases hid with hid|rfl
  ·obtain⟨q1,q2⟩:=hX id hid
   refine⟨q1,?_,fun k hk=> ?_⟩
   ·rintro rfl
    rcases q2 with q2|q2
    ·exact hi0.2 (.inl q2)
    ·omega
   ·rintro rfl
    have:=hlt k hk
    rcases q2 with q2|q2
    ·exact hav k hk (.inl q2)
    ·omega
  ·refine⟨by omega,fun he=>hi0.2 (.inr he.symm),fun k hk he=>hav k hk (.inr he.symm)⟩
 ·rcases hid with hid|rfl|⟨k,hk,rfl⟩
  ·obtain⟨q1,q2⟩:=hX id hid
   exact⟨q1,q2.imp .inl fun h=>h⟩
  ·exact⟨by omega,.inl (.inr (.inl rfl))⟩
  ·have:=hlt k hk
   exact⟨by omega,.inl (.inr (.inr ⟨k,hk,rfl⟩))⟩
theorem l9.mono {X:Nat→Prop} {H:aA} {nx nx2 i0 i1:Nat} {nm:Nat→Nat} {s:CSt} {es:List Ev} (h:l9 X H nx i0 i1 nm s es) (hx:nx≤nx2):l9 X H nx2 i0 i1 nm s es:=
 h.next hx (fun _ _ _=>rfl) fun id hid=>⟨by have:=h.rep.x id (.inl hid);omega,.inl hid⟩
theorem Rep.get {X:Nat→Prop} {H:aA} {nx i0:Nat} {nm:Nat→Nat} {s:CSt} (h:Rep X H nx i0 nm s):
 ∃wc hc pc vc tc mp rp mv rv,H i0=some ⟨5,1,[[.osl 1 (nm 0) 0 s.words.length wc,.osl 1 (nm 1) 0 s.holds.length hc,.osl 4 (nm 2) 0 3 pc,.osl 3 (nm 3) 0 4 vc,.osl 5 (nm 4) 0 s.told.length tc]]⟩∧H (nm 2)=some ⟨4,mp,rp⟩∧H (nm 3)=some ⟨3,mv,rv⟩∧
  tZ H 1 (nm 0) 0 s.words.length wc (s.words.map aJ)∧tZ H 1 (nm 1) 0 s.holds.length hc (s.holds.map aJ)∧tZ H 5 (nm 4) 0 s.told.length tc (s.told.map aS)∧3≤pc∧4≤vc∧rp.length=3∧rv.length=4∧
  (∀k,k<3→∃qo qc oc,rp[k]?=some [cI (aF s k).next,.osl 1 (nm (5+k)) qo (aF s k).queue.length qc,.osl 3 (nm (8+k)) 0 (aF s k).out.length oc,cI (aF s k).last]∧tZ H 1 (nm (5+k)) qo (aF s k).queue.length qc ((aF s k).queue.map aJ)∧tZ H 3 (nm (8+k)) 0 (aF s k).out.length oc ((aF s k).out.map eCJ))∧
  ∀k,k<4→∃po pc do_ dc,rv[k]?=some [.osl 3 (nm (11+k)) po (aL s k).pipe.length pc,.osl 5 (nm (15+k)) do_ (aL s k).done.length dc,cI (aL s k).last]∧tZ H 3 (nm (11+k)) po (aL s k).pipe.length pc ((aL s k).pipe.map eCJ)∧tZ H 5 (nm (15+k)) do_ (aL s k).done.length dc ((aL s k).done.map aS):=by
 obtain⟨cells,hi0,⟨wc,hc,pc,vc,tc,rfl,q1,q2,q3,q4,q5⟩,⟨mp,rp,j1,j2,j3⟩,⟨mv,rv,j4,j5,j6⟩⟩:=h.st
 refine⟨wc,hc,pc,vc,tc,mp,rp,mv,rv,hi0,j1,j4,q1,q2,q3,q4,q5,j2,j5,fun k hk=> ?_,fun k hk=> ?_⟩
 ·obtain⟨r,h1,⟨qo,qc,oc,rfl,h2⟩⟩:=j3 k hk
  exact⟨qo,qc,oc,h1,h2⟩
 ·obtain⟨r,h1,⟨po,pc,do_,dc,rfl,h2⟩⟩:=j6 k hk
  exact⟨po,pc,do_,dc,h1,h2⟩
theorem l9.upd {X:Nat→Prop} {H H':aA} {nx nx' i0 i1:Nat} {nm:Nat→Nat} {s:CSt} {es:List Ev} (h:l9 X H nx i0 i1 nm s es) (who st:Nat) (nm':Nat→Nat) (s':CSt) (hx:nx≤nx') (hN:Names (fun id=>X id∨id=i1) nx' nm')
 (hk: ∀k,k<19→nm' k=nm k∨((k=4∨k=5+who∨k=8+who∨k=11+st∨k=15+st)∧nx≤nm' k))
 (hfr: ∀id,id<nx→id≠i0→(∀k,k<5∨k=5+who∨k=8+who∨k=11+st∨k=15+st→k<19→id≠nm k)→H' id=H id)
 (e1: ∃wc hc pc vc tc,H' i0=some ⟨5,1,[U2 nm' s' wc hc pc vc tc]⟩∧tZ H' 1 (nm' 0) 0 s'.words.length wc (s'.words.map aJ)∧tZ H' 1 (nm' 1) 0 s'.holds.length hc (s'.holds.map aJ)∧tZ H' 5 (nm' 4) 0 s'.told.length tc (s'.told.map aS)∧3≤pc∧4≤vc)
 (e2: ∃m rows m0 rows0,H (nm 2)=some ⟨4,m0,rows0⟩∧H' (nm 2)=some ⟨4,m,rows⟩∧rows.length=3∧(∀k,k<3→k≠who→rows[k]?=rows0[k]?)∧(who<3→∃r,rows[who]?=some r∧CX H' (nm' (5+who)) (nm' (8+who)) (aF s' who) r))
 (e3: ∃m rows m0 rows0,H (nm 3)=some ⟨3,m0,rows0⟩∧H' (nm 3)=some ⟨3,m,rows⟩∧rows.length=4∧(∀k,k<4→k≠st→rows[k]?=rows0[k]?)∧(st<4→∃r,rows[st]?=some r∧LJ H' (nm' (11+st)) (nm' (15+st)) (aL s' st) r))
 (hw:who<3∨who=14) (hs:st<4∨st=8) (hp: ∀k,k<3→k≠who→aF s' k=aF s k) (hv: ∀k,k<4→k≠st→aL s' k=aL s k):l9 X H' nx' i0 i1 nm' s' es∧ ∀id,X id→H' id=H id:=by
 have hav:=h.rep.names.av
 have hi0:=h.rep.i0
 have hi1:=h.hap.i1
 have hlt:=h.rep.names.lt
 have hXf: ∀id,X id∨id=i1→H' id=H id:=fun id hid=>hfr id (h.rep.x id hid) (fun he=>hi0.2 (he▸hid)) fun k _ hk he=>hav k hk (he▸hid)
 refine⟨⟨h.rep.upd (who:=who) (st:=st) hx hN (fun k hk19=> ?_) (fun k hk19 h1 h2 h3 h4 h5=> ?_) (fun k h5 hk19 h1 h2 h3 h4=> ?_) e1 e2 e3 hw hs hp hv,h.hap.frame hx (hXf _ (.inr rfl)) (fun id h1 h2=> ?_) fun id hid=> ?_⟩,fun id hid=>hXf id (.inl hid)⟩
 ·rcases hk k hk19 with h1|h1
  ·rw[h1];exact h.rep.ne k hk19
  ·omega
 ·rcases hk k hk19 with h6|h6
  ·exact h6
  ·omega
 ·refine hfr _ (hlt k hk19) (h.rep.ne k hk19) fun j hj hj19 he=> ?_
  have:=h.rep.names.inj k j hk19 hj19 he
  omega
 ·exact hfr id h1 (fun he=>h2 (.inr (.inl he))) fun k _ hk19 he=>h2 (.inr (.inr ⟨k,hk19,he⟩))
 ·rcases hid with hid|rfl|⟨k,hk19,rfl⟩
  ·have:=h.rep.x id (.inl hid)
   exact⟨by omega,.inl (.inl hid)⟩
  ·exact⟨by omega,.inl (.inr (.inl rfl))⟩
  ·have:=hN.lt k hk19
   rcases hk k hk19 with h6|h6
   ·exact⟨this,.inl (.inr (.inr ⟨k,hk19,h6⟩))⟩
   ·exact⟨this,.inr h6.2⟩
end Go.AM
end
section
namespace Go.AM
def VK (H:aA) (F:Nat→Prop) (r' r:List D1):Prop:=r'.length=r.length∧ ∀(j:Nat) (d':D1),r'[j]?=some d'→∃d,r[j]?=some d∧Frz H F d' d
section
variable {H : aA} {F : Nat → Prop} {σ : Nat → Nat} {nh : Nat}
theorem LH:VK H F [] []:=⟨rfl,fun j d h=>by simp at h⟩
theorem fO {x y:D1} {xs ys:List D1} (h:Frz H F x y) (h2:VK H F xs ys):VK H F (x::xs) (y::ys):=by
 refine⟨by simp[h2.1],fun j d hd=> ?_⟩
 match j with
 |0=>simp at hd;subst hd;exact⟨y,rfl,h⟩
 |j+1=>exact h2.2 j d (by simpa using hd)
theorem amO {r:List D1} (h: ∀x∈r,x.dQ=true):VK H F r r:=⟨rfl,fun j d hd=>⟨d,hd,.same d (h d (List.mem_of_getElem? hd))⟩⟩
theorem A8 {r' r:List D1} (h:VK H F r' r):CvL H F σ nh r' r:=⟨h.1,fun i x y hx hy=>by
 obtain⟨d,h1,h2⟩:=h.2 i x hx
 rw[hy] at h1;cases h1
 exact .frz h2⟩
theorem QM {rows:List (List D1)} {n id off len cap:Nat} {o:bA} (hF:F id) (ho:H id=some o) (hn:o.n=n) (hl:len=rows.length) (hlen:off+len≤o.rows.length) (hcap:len≤cap)
 (hr: ∀i r',rows[i]?=some r'→r'.length=n∧ ∃r,o.rows[off+i]?=some r∧VK H F r' r):Frz H F (.isl rows) (.osl n id off len cap):=by
 subst hl
 refine .frz rows n id off cap o (fun i j=>((o.rows[off+i]?.getD [])[j]?).getD .dead) hF ho hn hlen hcap (fun i r' h=>(hr i r' h).1) (fun i j r' d' h1 h2=> ?_) (fun i j r' d' h1 h2=> ?_)
 ·obtain⟨_,r,h3,h4⟩:=hr i r' h1
  obtain⟨d,h5,_⟩:=h4.2 j d' h2
  exact⟨r,h3,by rw[h3];simp[h5]⟩
 ·obtain⟨_,r,h3,h4⟩:=hr i r' h1
  obtain⟨d,h5,h6⟩:=h4.2 j d' h2
  rw[h3];simpa [h5] using h6
theorem tZ.frz {n id off len cap:Nat} {R:List (List D1)} (h:tZ H n id off len cap R) (hi:alR n R) (hF:F id):Frz H F (.isl R) (.osl n id off len cap):=by
 obtain⟨m,rows,h1,h2,h3,h4,h5,h6⟩:=h.ex
 refine QM hF h1 rfl h4 h3 h5 fun i r' hr=>⟨(hi r' (List.mem_of_getElem? hr)).1,r',?_,amO fun x hx=>(hi r' (List.mem_of_getElem? hr)).2 x hx⟩
 subst h2
 rw[List.getElem?_drop] at hr
 exact hr
theorem ZX {x:Value}:Frz H F (.v x) (.v x):=.same _ rfl
theorem CX.VI {nq no:Nat} {p:fR} {r:List D1} (h:CX H nq no p r) (h1:F nq) (h2:F no):VK H F (cD p) r:=by
 obtain⟨qo,qc,oc,rfl,q1,q2⟩:=h.ex
 exact fO ZX (fO (q1.frz (aG bF _) h1) (fO (q2.frz (aG yK _) h2) (fO ZX LH)))
theorem LJ.VI {np nd:Nat} {v:nY} {r:List D1} (h:LJ H np nd v r) (h1:F np) (h2:F nd):VK H F (gF v) r:=by
 obtain⟨qo,qc,o,oc,rfl,q1,q2⟩:=h.ex
 exact fO (q1.frz (aG yK _) h1) (fO (q2.frz (aG dZ _) h2) (fO ZX LH))
theorem getD_some {α:Type} [Inhabited α] {l:List α} {k:Nat} {x:α} (h:l[k]?=some x):l.getD k default=x∧k<l.length:=by
 refine⟨by simp[List.getD,h],(List.getElem?_eq_some_iff.1 h).1⟩
theorem abY.VI {nm:Nat→Nat} {s:CSt} {cells:List D1} (h:abY H nm s cells) (hF: ∀k,k<19→F (nm k)) (hp:s.bM.length=3) (hs:s.dD.length=4):VK H F (eI s) cells:=by
 obtain⟨⟨wc,hc,pc,vc,tc,rfl,q1,q2,q3,q4,q5⟩,⟨m,rows,j1,j2,j3⟩,m',rows',j4,j5,j6⟩:=h
 refine fO (q1.frz (aG bF _) (hF _ (by omega))) (fO (q2.frz (aG bF _) (hF _ (by omega))) (fO ?_ (fO ?_ (fO (q3.frz (aG dZ _) (hF _ (by omega))) LH))))
 ·refine QM (hF _ (by omega)) j1 rfl (by simp[hp]) (by simp;omega) q4 fun i r' hr=> ?_
  rw[List.getElem?_map,Option.map_eq_some_iff] at hr
  obtain⟨p,hr,rfl⟩:=hr
  obtain⟨e1,e2⟩:=getD_some hr
  obtain⟨r,k1,k2⟩:=j3 i (by omega)
  rw[show aF s i=p from e1] at k2
  exact⟨rfl,r,by rw[Nat.zero_add];exact k1,k2.VI (hF _ (by omega)) (hF _ (by omega))⟩
 ·refine QM (hF _ (by omega)) j4 rfl (by simp[hs]) (by simp;omega) q5 fun i r' hr=> ?_
  rw[List.getElem?_map,Option.map_eq_some_iff] at hr
  obtain⟨p,hr,rfl⟩:=hr
  obtain⟨e1,e2⟩:=getD_some hr
  obtain⟨r,k1,k2⟩:=j6 i (by omega)
  rw[show aL s i=p from e1] at k2
  exact⟨rfl,r,by rw[Nat.zero_add];exact k1,k2.VI (hF _ (by omega)) (hF _ (by omega))⟩
theorem alY {r' r:List D1} {n id:Nat} {o:bA} (hF:F id) (ho:H id=some o) (hn:o.n=n) (hr:o.rows[0]?=some r) (h:VK H F r' r):Frz H F (.fQ r') (.ptr n id 0 0):=
 .ptr r' n id 0 0 o r (fun j=>(r[j]?).getD .dead) hF ho hn hr (fun j d hd=>by obtain⟨e,h1,_⟩:=h.2 j d hd;rw[Nat.zero_add];simp[h1]) (fun j d hd=>by obtain⟨e,h1,h2⟩:=h.2 j d hd;simpa [h1] using h2)
theorem Rep.ar5 {X:Nat→Prop} {nx i0:Nat} {nm:Nat→Nat} {s:CSt} (h:Rep X H nx i0 nm s) (hp:s.bM.length=3) (hs:s.dD.length=4):CvD H (fun _=>True) id 0 (.one (.c (.fQ (eI s)))) (.one (.c (.ptr 5 i0 0 0))):=by
 obtain⟨cells,h1,h2⟩:=h.st
 exact .frz (alY trivial h1 rfl rfl (h2.VI (fun _ _=>trivial) hp hs))
end
end Go.AM
end
section
namespace Go.Proofs.YtegiblhkjfiooaaGreat
open Go Go.AM
set_option maxRecDepth 100000
set_option maxHeartbeats 4000000
section
variable {H : aA} {nx : Nat} {K : D → aA → Nat → Prop}
end
end Go.Proofs.YtegiblhkjfiooaaGreat
end
section
namespace Go.Proofs.YtegiblhkjfiooaaGreat
open Go Go.AM
set_option maxRecDepth 100000
set_option maxHeartbeats 4000000
section
variable {H : aA} {nx : Nat} {K : D → aA → Nat → Prop}
theorem BS (l:List Int) (x:Int) (hl:l.length<2^40):aB Tryz.prog gN [dS (l.map aJ),dI x] .nil 0 fun rr _ _=>rr.plain=true∧rr=dI (bK (fun y=>decide (x=y)) l):=by
 refine AD rfl fun Q hQ=> ?_
 unfold jQ
 repeat' (first| (with_reducible first| (refine hK _ _ _ ?_;clear hK K)|refine Z1 ?_|refine Z3 fun KB hKB=> ?_)| (with_reducible refine Y2 fun K hK=> ?_)<;>(simp only[go_sem])|fail)
 (have hKX:=hKB;clear hKB);(refine aM.loop (α:={k:Nat//k≤l.length∧(∀i,i<k→(fun y=>decide (x=y)) (l.getD i default)=false)}) (fun u=>en [(8,dI u.1),(7,dI l.length),(1,dI x),(0,dS (l.map aJ))]) (fun _=>.nil) _ (fun u=>l.length-u.1) ⟨0,by omega,(by intros;first|trivial|omega)⟩ (bU (Nat.le_refl _) (by repeat' (first| (with_reducible first|exact C1|refine C2 ?_ ?_)| ((with_reducible refine D0 ?_);exact CA rfl)|fail))) ?_);(rintro⟨k,hk,hinv⟩ KL hKL)
 by_cases hlt:k<l.length
 ·repeat' (first| (with_reducible first| (refine hK _ _ _ ?_;clear hK K)| (refine hA ?_;clear hA hB A B)| (refine hB ?_;clear hA hB A B)|refine Z1 ?_|refine Z2 ?_|refine Z3 fun KB hKB=> ?_|refine Z4 (by omega) ?_|refine Z6 (fun h=> ?_) fun h=> ?_)| (with_reducible first|refine Y2 fun K hK=> ?_|refine Y3 fun A B hA hB=> ?_)<;>(simp only[go_sem];try simp (disch:=omega) only[Iw])| ((with_reducible refine Y8 ?_);try simp only[AQ.then,AQ.blk,reduceIte,Nat.reduceEqDiff])| ((with_reducible refine Y0 ?_);simp only[AQ.then,AQ.blk])|refine⟨by omega,?_⟩| (with_reducible refine hKB _ _ _ ?_)|fail)
  ·refine aZ hQ _ rfl rfl (qA (Eq.symm (CU (by omega) (decide_eq_true (by assumption)) hinv)))
  · (refine hKL _ _ _ ⟨k+1,by omega,iS hinv (decide_eq_false (by assumption))⟩ (by omega) (by(try dsimp only);omega) (bU (Nat.le_refl _) (by repeat' (first| (with_reducible first|exact C1|refine C2 ?_ ?_)| ((with_reducible refine D0 ?_);exact CA rfl)|fail))))
 ·repeat' (first| (with_reducible first| (refine hK _ _ _ ?_;clear hK K)| (refine hB ?_;clear hA hB A B)|refine Z1 ?_|refine Z5 (by omega) ?_|refine hKX _ _ _ ?_)| (with_reducible first|refine Y2 fun K hK=> ?_|refine Y3 fun A B hA hB=> ?_)<;>(simp only[go_sem])| ((with_reducible first|refine Y8 ?_|refine Y9 ?_);try simp only[AQ.then,AQ.blk,reduceIte,Nat.reduceEqDiff])|fail)
  refine aZ hQ (dI _) rfl rfl (qA (Eq.symm (tI fun i hi=>hinv i (by omega))))
theorem BG {l:List Int} {x:Int} (hl:l.length<2^40) {d0:D} (hd0:CvD H (fun _=>True) id 0 (dS (l.map aJ)) d0) (h:K (dI (bK (fun y=>decide (x=y)) l)) H nx):aB Tryz.prog gN [d0,dI x] H nx K:=
 (BS l x hl).pure rfl (aI ⟨hd0,aE rfl,trivial⟩) (fun r hr=>hr▸h)
theorem xC (l:List Int) (x:Int) (hl:l.length<2^40):aB Tryz.prog fK [dS (l.map aJ),dI x] .nil 0 fun rr _ _=>rr.plain=true∧rr=dB (decide (x∈l)):=by
 refine wG rfl fun Q hQ=> ?_
 unfold iC
 repeat' (first| (with_reducible first| (refine hK _ _ _ ?_;clear hK K)|refine Z1 ?_)| (first| (with_reducible refine Y2 fun K hK=> ?_)| (refine BG hl (aE rfl) ?_))<;>(simp only[go_sem])| ((with_reducible refine Y8 ?_);try simp only[AQ.then,AQ.blk,reduceIte,Nat.reduceEqDiff])|fail)
 all_goals first|with_reducible refine aZ hQ _ rfl rfl ?_|skip
 all_goals refine pD (cH.trans ⟨fun⟨y,hy,he⟩=> ?_,fun h=>⟨x,h,by simp⟩⟩)
 all_goals have:=of_decide_eq_true he;subst this;exact hy
theorem x8 {l:List Int} {x:Int} (hl:l.length<2^40) {d0:D} (hd0:CvD H (fun _=>True) id 0 (dS (l.map aJ)) d0) (h:K (dB (decide (x∈l))) H nx):aB Tryz.prog fK [d0,dI x] H nx K:=
 (xC l x hl).pure rfl (aI ⟨hd0,aE rfl,trivial⟩) (fun r hr=>hr▸h)
theorem XT {f:Nat→Int} {n k:Nat} {x:Int} (hk:k<n) (hx:x=f k):((List.range k).map f++List.replicate (n-k) (0:Int)).set k x=(List.range (k+1)).map f++List.replicate (n-(k+1)) 0:=by
 have e:n-k=(n-(k+1))+1:=by omega
 have h1:((List.range k).map f).length=k:=by simp
 rw[List.set_append,h1,if_neg (Nat.lt_irrefl k),Nat.sub_self,e,List.replicate_succ,List.set_cons_zero,List.range_succ,List.map_append,List.append_assoc,hx]
 rfl
theorem N0 (addr many:Int) (wrap:Bool):aB Tryz.prog oS [dI addr,dI many,dB wrap] .nil 0 fun rr _ nn=>nn=0∧rr.imm=true∧rr=dS ((bE addr many wrap).map aJ):=by
 refine M3 rfl fun Q hQ=> ?_
 unfold s6
 by_cases hok:o7 addr many wrap
 ·obtain⟨f1,f2,f3,f4,f5,f6,f7,f8⟩:=aaA hok
  repeat' (first| (with_reducible first| (refine hK _ _ _ ?_;clear hK K)| (refine hB ?_;clear hA hB A B)|refine Z1 ?_|refine Z2 ?_|refine Z3 fun KB hKB=> ?_)| (first| (with_reducible first|refine Y2 fun K hK=> ?_|refine Y3 fun A B hA hB=> ?_)| (with_reducible refine wS ?_))<;>(simp only[go_sem,f6,eq_true hok])|refine⟨by omega,?_⟩|fail)
  (have hKX:=hKB;clear hKB)
  refine aM.sG 1 (β:=Nat) (fun b k=>en [(18,dI k),(17,dI many),(7,dO 1 b many.toNat many.toNat),(2,dB wrap),(1,dI many),(0,dI addr)])
   (fun b k=>hp [(b,⟨1,many.toNat,((List.range k).map (bAt addr many wrap)++List.replicate (many.toNat-k) (0:Int)).map aJ⟩)]) (fun k=>k≤many.toNat) (fun k=>many.toNat-k) 0 ?_ (by omega) ?_
  · (refine cR [7] (by omega) (by repeat' (first| (with_reducible first|exact C1|refine C2 ?_ ?_)| ((with_reducible refine C0 ?_);first|exact CQ (by omega) rfl rfl (by rfl) rfl| (exact CG (by(congr 2;omega)) rfl))| ((with_reducible refine D0 ?_);first|exact CA rfl|refine CJ ?_)|fail)) ⟨⟨by simp,by simp[sgL],_,rfl,bP (aG bF _) (by simp[aJ]) rfl⟩,trivial⟩ (by simp[sgL]))
  intro k hk KL hKL
  have hlen:((List.range k).map (bAt addr many wrap)++List.replicate (many.toNat-k) (0:Int)).length=many.toNat:=by simp;omega
  by_cases hlt:k<many.toNat
  ·obtain⟨g1,g2,g3⟩:=agW hok k hlt
   have hmod:(addr+k).tmod many=(addr+k)%many:=Int.tmod_eq_emod_of_nonneg (by omega)
   have hm2:=Int.emod_lt_of_pos (addr+k) f2
   have hm3:=Int.emod_nonneg (addr+k) f1
   repeat' (first| (with_reducible first| (refine hK _ _ _ ?_;clear hK K)| (refine hA ?_;clear hA hB A B)| (refine hB ?_;clear hA hB A B)|refine Z1 ?_|refine Z2 ?_|refine Z3 fun KB hKB=> ?_|refine Z4 (by omega) ?_)| (with_reducible first|refine Y2 fun K hK=> ?_|refine Y3 fun A B hA hB=> ?_)<;>(simp only[go_sem,f6,hmod,List.set_set,hlen];try simp (disch:=omega) only[Iw])| ((with_reducible refine Y0 ?_);simp only[AQ.then,AQ.blk])| ((with_reducible refine Z8 (fun h=> ?_) (fun h=> ?_))<;>try subst h)|refine⟨by omega,?_⟩| (with_reducible refine hKB _ _ _ ?_)|fail)
   ·exact hKL _ _ _ (k+1) (by omega) (by(refine cR [12] (by omega) (by repeat' (first| (with_reducible first|exact C1|refine C2 ?_ ?_)| ((with_reducible refine C0 ?_);exact CQ (by omega) rfl rfl (by rfl) rfl)| ((with_reducible refine D0 ?_);first|exact CA rfl|refine CJ ?_)|fail)) ⟨⟨by simp,by simp[sgL],_,rfl,bP (aG bF _) (congrArg _ (XT hlt (by simp only[bAt,if_true])).symm) rfl⟩,trivial⟩ (by simp[sgL]))) (by omega) (by omega)
   ·exact hKL _ _ _ (k+1) (by omega) (by(refine cR [12] (by omega) (by repeat' (first| (with_reducible first|exact C1|refine C2 ?_ ?_)| ((with_reducible refine C0 ?_);exact CQ (by omega) rfl rfl (by rfl) rfl)| ((with_reducible refine D0 ?_);first|exact CA rfl|refine CJ ?_)|fail)) ⟨⟨by simp,by simp[sgL],_,rfl,bP (aG bF _) (congrArg _ (XT hlt (by simp[bAt])).symm) rfl⟩,trivial⟩ (by simp[sgL]))) (by omega) (by omega)
  ·repeat' (first| (with_reducible first| (refine hK _ _ _ ?_;clear hK K)| (refine hB ?_;clear hA hB A B)|refine Z1 ?_|refine Z5 (by omega) ?_|refine hKX _ _ _ ?_)| (with_reducible first|refine Y2 fun K hK=> ?_|refine Y3 fun A B hA hB=> ?_)<;>(simp only[go_sem])| ((with_reducible first|refine Y8 ?_|refine Y9 ?_);try simp only[AQ.then,AQ.blk,reduceIte,Nat.reduceEqDiff])|fail)
   have hk2:k=many.toNat:=by omega
   subst hk2
   exact V4 hQ (dS ((bE addr many wrap).map aJ)) _ rfl (yP (l:=bE addr many wrap) bF (by simp[bE,hok];rfl) (DF hok).symm (by rw[DF hok];omega) trivial) rfl rfl
 ·repeat' (first| (with_reducible first| (refine hK _ _ _ ?_;clear hK K)| (refine hA ?_;clear hA hB A B)|refine Z1 ?_)| (first| (with_reducible first|refine Y2 fun K hK=> ?_|refine Y3 fun A B hA hB=> ?_)| (with_reducible refine wS ?_))<;>(simp only[go_sem,eq_false hok])| ((with_reducible refine Y8 ?_);try simp only[AQ.then,AQ.blk,reduceIte,Nat.reduceEqDiff])|fail)
  exact V4 hQ (dS []) _ rfl xG rfl (by simp[bE,hok])
theorem OQ {addr:Int} {many:Int} {wrap:Bool} (h:K (dS ((bE addr many wrap).map aJ)) H nx):aB Tryz.prog oS [dI addr,dI many,dB wrap] H nx K:=
 (N0 addr many wrap).fresh rfl (fun r hr=>hr▸h)
theorem HJ (q:Req):aB Tryz.prog fP [dA (eB q)] .nil 0 fun rr _ nn=>nn=0∧rr.imm=true∧rr=dS ((bE q.addr q.many q.wrap).map aJ):=by
 refine GL rfl fun Q hQ=> ?_
 unfold mQ
 repeat' (first| (with_reducible first| (refine hK _ _ _ ?_;clear hK K)|refine Z1 ?_)| (first| (with_reducible refine Y2 fun K hK=> ?_)| (with_reducible refine OQ ?_))<;>(simp only[go_sem])| ((with_reducible refine Y8 ?_);try simp only[AQ.then,AQ.blk,reduceIte,Nat.reduceEqDiff])|fail)
 all_goals exact V4 hQ (dS _) _ rfl (aE rfl) rfl rfl
theorem vY {q:Req} (h:K (dS ((bE q.addr q.many q.wrap).map aJ)) H nx):aB Tryz.prog fP [dA (eB q)] H nx K:=
 (HJ q).fresh rfl (fun r hr=>hr▸h)
theorem XA (l:List Rng) (q:Req) (hl:l.length<2^40):aB Tryz.prog mZ [dS (l.map eN),dA (eB q)] .nil 0 fun rr _ _=>rr.plain=true∧rr=dI (bV l (bE q.addr q.many q.wrap)):=by
 refine TU rfl fun Q hQ=> ?_
 unfold zZ
 have hb4:=MK (addr:=q.addr) (many:=q.many) (wrap:=q.wrap)
 repeat' (first| (with_reducible first| (refine hK _ _ _ ?_;clear hK K)|refine Z1 ?_|refine Z3 fun KB hKB=> ?_)| (first| (with_reducible refine Y2 fun K hK=> ?_)| (with_reducible refine vY ?_))<;>(simp only[go_sem])|fail)
 generalize bE q.addr q.many q.wrap=all at*
 (have hKX:=hKB;clear hKB);(refine aM.loop (α:={k:Nat//k≤all.length∧(∀i,i<k→¬bK (inR · (all.getD i default)) l<0∧bK (inR · (all.getD i default)) l=bK (inR · (all.getD 0 default)) l)}) (fun u=>en [(12,dI u.1),(11,dI all.length),(10,dS (all.map aJ)),(5,dI (if u.1=0 then-1 else bK (inR · (all.getD 0 default)) l)),(0,dS (l.map eN))]) (fun _=>.nil) _ (fun u=>all.length-u.1) ⟨0,by omega,(by intros;first|trivial|omega)⟩ (bU (Nat.le_refl _) (by repeat' (first| (with_reducible first|exact C1|refine C2 ?_ ?_)| ((with_reducible refine D0 ?_);exact CA rfl)|fail))) ?_);(rintro⟨k,hk,hinv⟩ KL hKL)
 by_cases hlt:k<all.length
 ·repeat' (first| (with_reducible first| (refine hK _ _ _ ?_;clear hK K)| (refine hA ?_;clear hA hB A B)| (refine hB ?_;clear hA hB A B)|refine Z1 ?_|refine Z2 ?_|refine Z3 fun KB hKB=> ?_|refine Z4 (by omega) ?_|refine Z6 (fun h=> ?_) fun h=> ?_)| (first| (with_reducible first|refine Y2 fun K hK=> ?_|refine Y3 fun A B hA hB=> ?_|refine Y6 (fun h=> ?_) fun h=> ?_)| (with_reducible refine SX hl ?_))<;>(simp only[go_sem];try simp (disch:=omega) only[Iw])| ((with_reducible refine Y8 ?_);try simp only[AQ.then,AQ.blk,reduceIte,Nat.reduceEqDiff])| ((with_reducible refine Y0 ?_);simp only[AQ.then,AQ.blk])|refine⟨by omega,?_⟩| (with_reducible refine hKB _ _ _ ?_)|fail)
  ·refine aZ hQ (dI _) rfl rfl (qA ?_)
   rcases Nat.eq_zero_or_pos k with h0|h0
   ·subst h0
    have hg:=aoF (p:=(inR · (all.getD 0 default))) (l:=l)
    by_cases hy: ∀i,i<all.length→1≤i→bK (inR · (all.getD i default)) l=bK (inR · (all.getD 0 default)) l
    ·rw[RH (by omega) hy];omega
    ·have: ∃i,i<all.length∧ ¬bK (inR · (all.getD i default)) l=bK (inR · (all.getD 0 default)) l:=Classical.byContradiction fun hc=>hy fun i hi _=>Classical.byContradiction fun hn=>hc ⟨i,hi,hn⟩
     obtain⟨i,hi,hn⟩:=this
     rw[L8 hi hn]
   ·have:=(hinv 0 h0).1
    exact(L8 hlt (by omega)).symm
  ·refine aZ hQ (dI _) rfl rfl (qA (L8 hlt (fun he=> ?_)).symm)
   grind
  all_goals
   have heq:bK (inR · (all.getD k default)) l=bK (inR · (all.getD 0 default)) l:=by grind
   refine hKL _ _ _ ⟨k+1,by omega,iS hinv ⟨by omega,heq⟩⟩ (by omega) (by dsimp only;omega) (bU (Nat.le_refl _) ?_)
   dsimp only
   rw[if_neg (Nat.succ_ne_zero k),←heq]
   repeat' (first| (with_reducible first|exact C1|refine C2 ?_ ?_)| ((with_reducible refine D0 ?_);exact CA rfl)|fail)
 ·repeat' (first| (with_reducible first| (refine hK _ _ _ ?_;clear hK K)| (refine hB ?_;clear hA hB A B)|refine Z1 ?_|refine Z5 (by omega) ?_|refine hKX _ _ _ ?_)| (with_reducible first|refine Y2 fun K hK=> ?_|refine Y3 fun A B hA hB=> ?_)<;>(simp only[go_sem])| ((with_reducible first|refine Y8 ?_|refine Y9 ?_);try simp only[AQ.then,AQ.blk,reduceIte,Nat.reduceEqDiff])|fail)
  refine aZ hQ (dI _) rfl rfl (qA ?_)
  by_cases h0:k=0
  ·rw[if_pos h0,adL (by omega)]
  ·rw[if_neg h0,RH (by omega) (fun i hi _=>(hinv i (by omega)).2)]
theorem KD {l:List Rng} {q:Req} (hl:l.length<2^40) (h:K (dI (bV l (bE q.addr q.many q.wrap))) H nx):aB Tryz.prog mZ [dS (l.map eN),dA (eB q)] H nx K:=
 (XA l q hl).pure rfl (aI ⟨aE rfl,aE rfl,trivial⟩) (fun r hr=>hr▸h)
end
end Go.Proofs.YtegiblhkjfiooaaGreat
end
section
namespace Go.Proofs.YtegiblhkjfiooaaGreat
open Go Go.AM
set_option maxRecDepth 100000
set_option maxHeartbeats 8000000
theorem FD:cJ Tryz.prog eC Tryz.f202 mR uC:=cJ.mk Tryz.func202 (by kernel_rfl) FN
section
variable {H : aA} {nx : Nat} {K : D → aA → Nat → Prop}
theorem HH {Y:Nat→Prop} {i1:Nat} {es:List Ev} {kind who n:Int} (hh:aiW Y H nx i1 es) (hl:es.length<1000)
 (h: ∀H' nx',nx≤nx'→aiW Y H' nx' i1 (es++[⟨kind,who,n⟩])→(∀id,Y id→H' id=H id)→K (.tup []) H' nx'):aB Tryz.prog eC [.one (.c (.ptr 5 i1 0 0)),dI kind,dI who,dI n] H nx K:=by
 obtain⟨⟨d,a,b,c,e,h1,hd⟩,⟨h2,h3⟩,hy⟩:=hh
 have k1: ∀k,(i1=nx+k)=False:=fun k=>eq_false (by omega)
 have k2: ∀k,(nx+k=i1)=False:=fun k=>eq_false (by omega)
 refine FD rfl fun Q hQ=> ?_
 unfold mR
 rcases hd with⟨rfl,rfl⟩|⟨ev,cap,rfl,⟨m,rows,g1,g2,g3,g4,g5,g6⟩,g7,g8,g9⟩
 ·repeat' (first| (with_reducible first| (refine hK _ _ _ ?_;clear hK K)|refine fun(cap:Nat) (hcap:_≤cap)=> ?_|refine fun(hcp:_≤cap)=> ?_)| (with_reducible refine Y2 fun K hK=> ?_)<;>(simp only[go_sem,h1,k1,k2])| ((with_reducible refine Y0 ?_);simp only[AQ.then,AQ.blk])|fail)
  refine hQ _ _ _ _ _ (.inl rfl) rfl (h _ _ (by omega) ⟨⟨_,a,b,c,e,by simp only[aA.set,if_true];rfl,.inr ⟨nx+10,cap,rfl,⟨_,_,by simp only[aA.set,k2,if_false,if_true];rfl,rfl,by simp,by simp,by simpa using hcap,by simp⟩,by omega,fun hn=>by have:=hy _ hn;omega,by omega⟩⟩,⟨by omega,h3⟩,fun id hi=>by have:=hy id hi;omega⟩ fun id hi=> ?_)
  have e0:=hy id hi
  have e1:id≠i1:=fun he=>h3 (he▸hi)
  simp only[aA.set,e1,show ¬id=nx+9 by omega,show ¬id=nx+10 by omega,if_false]
 ·have k3: ∀k,(ev=nx+k)=False:=fun k=>eq_false (by omega)
  have k4: ∀k,(nx+k=ev)=False:=fun k=>eq_false (by omega)
  have k5:=eq_false g9
  have k6:=eq_false (Ne.symm g9)
  rw[List.drop_zero] at g2
  subst g2
  repeat' (first| (with_reducible first| (refine hK _ _ _ ?_;clear hK K)|refine fun(cap:Nat) (hcap:_≤cap)=> ?_|refine fun(hcp:_≤cap)=> ?_)| (with_reducible refine Y2 fun K hK=> ?_)<;>(simp only[go_sem,h1,k1,k2,k3,k4,k5,k6,g1])| ((with_reducible refine Y0 ?_);simp only[AQ.then,AQ.blk])|refine⟨by omega,?_⟩|fail)
  refine hQ _ _ _ _ _ (.inl rfl) rfl (h _ _ (by omega) ⟨⟨_,a,b,c,e,by simp only[aA.set,if_true];rfl,.inr ⟨nx+10,cap,by simp,⟨_,_,by simp only[aA.set,k2,if_false,if_true];rfl,by simp[eEv],by simp,by simp,by simpa using hcap,by simp⟩,by omega,fun hn=>by have:=hy _ hn;omega,by omega⟩⟩,⟨by omega,h3⟩,fun id hi=>by have:=hy id hi;omega⟩ fun id hi=> ?_)
  have e0:=hy id hi
  have e1:id≠i1:=fun he=>h3 (he▸hi)
  have e2:id≠ev:=fun he=>g8 (he▸hi)
  simp only[aA.set,aA.del,e1,e2,show ¬id=nx+9 by omega,show ¬id=nx+10 by omega,if_false]
theorem arG {X:Nat→Prop} {i0 i1:Nat} {nm:Nat→Nat} {s:CSt} {es:List Ev} {kind who n:Int} (hB:l9 X H nx i0 i1 nm s es) (hl:es.length<1000)
 (h: ∀H' nx',nx≤nx'→l9 X H' nx' i0 i1 nm s (es++[⟨kind,who,n⟩])→(∀id,X id→H' id=H id)→K (.tup []) H' nx'):aB Tryz.prog eC [.one (.c (.ptr 5 i1 0 0)),dI kind,dI who,dI n] H nx K:=by
 refine HH hB.hap hl fun H' nx' hx hc hfr=>h H' nx' hx ⟨hB.rep.frame hx (hfr _ (.inr (.inl rfl))) (fun k hk=>hfr _ (.inr (.inr ⟨k,hk,rfl⟩))) fun id hid=>⟨?_,fun he=>hB.rep.i0.2 (he▸hid),fun k hk he=>hB.rep.names.av k hk (he▸hid)⟩,hc⟩ fun id hid=>hfr id (.inl hid)
 have:=hB.rep.x id hid;omega
theorem acI {X:Nat→Prop} {H0:aA} {i0 i1:Nat} {nm:Nat→Nat} {s:CSt} {es:List Ev} {kind who n:Int} (hB:l9 X H nx i0 i1 nm s es∧ ∀id,X id→H id=H0 id) (hl:es.length<1000)
 (h: ∀H' nx',nx≤nx'→l9 X H' nx' i0 i1 nm s (es++[⟨kind,who,n⟩])→(∀id,X id→H' id=H0 id)→K (.tup []) H' nx'):aB Tryz.prog eC [.one (.c (.ptr 5 i1 0 0)),dI kind,dI who,dI n] H nx K:=
 arG hB.1 hl fun H' nx' hx h1 h2=>h H' nx' hx h1 fun id hid=>(h2 id hid).trans (hB.2 id hid)
theorem p9 (l:List fC) (f:FuncId) (caps:List D1) (p:fC→Bool) (hl:l.length<2^40) (hc:caps.all D1.dQ=true) (hf: ∀x∈l,∀(H:aA) (nx:Nat) (K:D→aA→Nat→Prop),K (dB (p x)) H nx→aB Tryz.prog f (dA (eCJ x)::caps.map fun d=>.one (.c d)) H nx K):
 aB Tryz.prog bZ [dS (l.map eCJ),.one (.c (.clo f caps))] .nil 0 fun r _ _=>r.plain=true∧r=dI (bK p l):=by
 refine pH rfl fun Q hQ=> ?_
 unfold eU
 repeat' (first| (with_reducible first| (refine hK _ _ _ ?_;clear hK K)|refine Z1 ?_|refine Z3 fun KB hKB=> ?_)| (with_reducible refine Y2 fun K hK=> ?_)<;>(simp only[go_sem])|fail)
 (have hKX:=hKB;clear hKB);(refine aM.loop (α:={k:Nat//k≤l.length∧(∀i,i<k→p (l.getD i default)=false)}) (fun u=>en [(8,dI u.1),(7,dI l.length),(1,.one (.c (.clo f caps))),(0,dS (l.map eCJ))]) (fun _=>.nil) _ (fun u=>l.length-u.1) ⟨0,by omega,(by intros;first|trivial|omega)⟩ (bU (Nat.le_refl _) (by repeat' (first| (with_reducible first|exact C1|refine C2 ?_ ?_)| ((with_reducible refine C0 ?_);exact CH (by assumption))| ((with_reducible refine D0 ?_);first|exact CA rfl|refine CJ ?_)|fail))) ?_);(rintro⟨k,hk,hinv⟩ KL hKL)
 by_cases hlt:k<l.length
 ·have hmem:l.getD k default∈l:=by simp[List.getD,hlt]
  repeat' (first| (with_reducible first| (refine hK _ _ _ ?_;clear hK K)| (refine hA ?_;clear hA hB A B)| (refine hB ?_;clear hA hB A B)|refine Z1 ?_|refine Z2 ?_|refine Z3 fun KB hKB=> ?_|refine Z4 (by omega) ?_)| (first| (with_reducible first|refine Y2 fun K hK=> ?_|refine Y3 fun A B hA hB=> ?_)| (with_reducible refine hf _ hmem _ _ _ ?_))<;>(simp only[go_sem];try simp (disch:=omega) only[Iw])| ((with_reducible refine Y8 ?_);try simp only[AQ.then,AQ.blk,reduceIte,Nat.reduceEqDiff])| ((with_reducible refine Y0 ?_);simp only[AQ.then,AQ.blk])| ((with_reducible refine Z8 (fun h=> ?_) (fun h=> ?_))<;>try subst h)|refine⟨by omega,?_⟩| (with_reducible refine hKB _ _ _ ?_)|fail)
  ·refine aZ hQ _ rfl rfl (qA (Eq.symm (CU (by omega) (by assumption) hinv)))
  · (refine hKL _ _ _ ⟨k+1,by omega,iS hinv (by assumption)⟩ (by omega) (by(try dsimp only);omega) (bU (Nat.le_refl _) (by repeat' (first| (with_reducible first|exact C1|refine C2 ?_ ?_)| ((with_reducible refine C0 ?_);exact CH (by assumption))| ((with_reducible refine D0 ?_);first|exact CA rfl|refine CJ ?_)|fail))))
 ·repeat' (first| (with_reducible first| (refine hK _ _ _ ?_;clear hK K)| (refine hB ?_;clear hA hB A B)|refine Z1 ?_|refine Z5 (by omega) ?_|refine hKX _ _ _ ?_)| (with_reducible first|refine Y2 fun K hK=> ?_|refine Y3 fun A B hA hB=> ?_)<;>(simp only[go_sem])| ((with_reducible first|refine Y8 ?_|refine Y9 ?_);try simp only[AQ.then,AQ.blk,reduceIte,Nat.reduceEqDiff])|fail)
  ·refine aZ hQ _ rfl rfl (qA (Eq.symm (tI fun i hi=>hinv i (by omega))))
theorem iY {l:List fC} {f:FuncId} {caps caps0:List D1} {p:fC→Bool} {d:D} (hl:l.length<2^40) (hc:caps.all D1.dQ=true) (hd:CvD H (fun _=>True) id 0 (dS (l.map eCJ)) d) (hk:CvD H (fun _=>True) id 0 (.one (.c (.clo f caps))) (.one (.c (.clo f caps0)))) (hf: ∀x∈l,∀(H:aA) (nx:Nat) (K:D→aA→Nat→Prop),K (dB (p x)) H nx→aB Tryz.prog f (dA (eCJ x)::caps.map fun d=>.one (.c d)) H nx K)
 (h:K (dI (bK p l)) H nx):aB Tryz.prog bZ [d,.one (.c (.clo f caps0))] H nx K:=
 (p9 l f caps p hl hc hf).pure rfl (aI ⟨hd,hk,trivial⟩) fun r hr=>hr▸h
theorem n4 (l:List fC) (f:FuncId) (caps:List D1) (p:fC→Bool) (hl:l.length<2^40) (hc:caps.all D1.dQ=true) (hf: ∀x∈l,∀(H:aA) (nx:Nat) (K:D→aA→Nat→Prop),K (dB (p x)) H nx→aB Tryz.prog f (dA (eCJ x)::caps.map fun d=>.one (.c d)) H nx K):
 aB Tryz.prog cM [dS (l.map eCJ),.one (.c (.clo f caps))] .nil 0 fun r _ _=>r.plain=true∧r=dB (decide (0≤bK p l)):=by
 refine nD rfl fun Q hQ=> ?_
 unfold dY
 repeat' (first| (with_reducible first| (refine hK _ _ _ ?_;clear hK K)|refine Z1 ?_)| (first| (with_reducible refine Y2 fun K hK=> ?_)| (refine iY hl hc (aE rfl) (kC hc) hf ?_))<;>(simp only[go_sem])| ((with_reducible refine Y8 ?_);try simp only[AQ.then,AQ.blk,reduceIte,Nat.reduceEqDiff])|fail)
 all_goals exact aZ hQ _ rfl rfl rfl
theorem nR {l:List fC} {f:FuncId} {caps caps0:List D1} {p:fC→Bool} {d:D} (hl:l.length<2^40) (hc:caps.all D1.dQ=true) (hd:CvD H (fun _=>True) id 0 (dS (l.map eCJ)) d) (hk:CvD H (fun _=>True) id 0 (.one (.c (.clo f caps))) (.one (.c (.clo f caps0)))) (hf: ∀x∈l,∀(H:aA) (nx:Nat) (K:D→aA→Nat→Prop),K (dB (p x)) H nx→aB Tryz.prog f (dA (eCJ x)::caps.map fun d=>.one (.c d)) H nx K)
 (h:K (dB (decide (0≤bK p l))) H nx):aB Tryz.prog cM [d,.one (.c (.clo f caps0))] H nx K:=
 (n4 l f caps p hl hc hf).pure rfl (aI ⟨hd,hk,trivial⟩) fun r hr=>hr▸h
theorem P0 (j:fC) (n:Int):aB Tryz.prog rQ [dA (eCJ j),.one (.c (.fQ [cI n]))] .nil 0 fun rr _ _=>rr.plain=true∧rr=dB (isC n j):=by
 refine OM rfl fun Q hQ=> ?_
 unfold vD
 repeat' (first| (with_reducible first| (refine hK _ _ _ ?_;clear hK K)|refine Z1 ?_)| (with_reducible refine Y2 fun K hK=> ?_)<;>(simp only[go_sem])| ((with_reducible refine Y8 ?_);try simp only[AQ.then,AQ.blk,reduceIte,Nat.reduceEqDiff])|fail)
 all_goals first|with_reducible refine aZ hQ _ rfl rfl ?_|skip
 all_goals first|exact pD (by omega)|exact q9 (by omega)|exact j7 (by omega)|rfl
theorem QZ {j:fC} {n:Int} (h:K (dB (isC n j)) H nx):aB Tryz.prog rQ [dA (eCJ j),.one (.c (.fQ [cI n]))] H nx K:=
 (P0 j n).pure rfl (aI ⟨aE rfl,aE rfl,trivial⟩) (fun r hr=>hr▸h)
theorem YB (p:fR) (n:Int) (hl:p.out.length<2^40):aB Tryz.prog kV [dA (cD p),dI n] .nil 0 fun rr _ _=>rr.plain=true∧rr=dI (bK (isC n) p.out):=by
 refine UN rfl fun Q hQ=> ?_
 unfold AR
 repeat' (first| (with_reducible first| (refine hK _ _ _ ?_;clear hK K)|refine Z1 ?_)| (first| (with_reducible refine Y2 fun K hK=> ?_)| (refine iY (l:=p.out) (caps:=[.fQ [cI n]]) (p:=isC n) hl rfl (aE rfl) (PR ⟨zE rfl trivial rfl rfl rfl,trivial⟩) (fun x _ H nx K h=>QZ h) ?_))<;>(simp only[go_sem])| ((with_reducible refine Y8 ?_);try simp only[AQ.then,AQ.blk,reduceIte,Nat.reduceEqDiff])|fail)
 all_goals first|with_reducible refine aZ hQ _ rfl rfl ?_|skip
 all_goals first|rfl|exact qA (by omega)
theorem KT {p:fR} {n:Int} (hl:p.out.length<2^40) {d0:D} (hd0:CvD H (fun _=>True) id 0 (dA (cD p)) d0) (h:K (dI (bK (isC n) p.out)) H nx):aB Tryz.prog kV [d0,dI n] H nx K:=
 (YB p n hl).pure rfl (aI ⟨hd0,aE rfl,trivial⟩) (fun r hr=>hr▸h)
theorem YA (m:List Rng) (q:Req) (hl:m.length<2^40):aB Tryz.prog rN [dS (m.map eN),dA (eB q)] .nil 0 fun rr _ _=>rr.plain=true∧rr=dI (gZ m q):=by
 refine UU rfl fun Q hQ=> ?_
 unfold z2
 have hwh:bV m (bE q.addr q.many q.wrap)<m.length:=by have hlt:=PQ (p:=(inR · ((bE q.addr q.many q.wrap).getD 0 default))) (l:=m);unfold bV;grind
 repeat' (first| (with_reducible first| (refine hK _ _ _ ?_;clear hK K)| (refine hA ?_;clear hA hB A B)| (refine hB ?_;clear hA hB A B)|refine Z1 ?_|refine Z2 ?_|refine Z6 (fun h=> ?_) fun h=> ?_)| (first| (with_reducible first|refine Y2 fun K hK=> ?_|refine Y3 fun A B hA hB=> ?_)| (with_reducible refine KD hl ?_))<;>(simp only[go_sem])| ((with_reducible refine Y8 ?_);try simp only[AQ.then,AQ.blk,reduceIte,Nat.reduceEqDiff])|refine⟨by omega,?_⟩|fail)
 all_goals first|with_reducible refine aZ hQ _ rfl rfl ?_|skip
 all_goals first|exact qA (by unfold gZ;rw[if_pos (by omega)])|exact qA (by unfold gZ;rw[if_neg (by omega)])
theorem DE {m:List Rng} {q:Req} (hl:m.length<2^40) (h:K (dI (gZ m q)) H nx):aB Tryz.prog rN [dS (m.map eN),dA (eB q)] H nx K:=
 (YA m q hl).pure rfl (aI ⟨aE rfl,aE rfl,trivial⟩) (fun r hr=>hr▸h)
theorem EF (c:Cfg) (who st:Nat) (i:Int) (j:fC) (hp:c.cP.length=3) (ha:oA c who j.n):aB Tryz.prog iW [dA (eCJ j),.one (.c (.fQ (cU c))),.one (.c (.fQ [cI who])),.one (.c (.fQ [cI i])),.one (.c (.fQ [cI st]))] .nil 0 fun rr _ _=>rr.plain=true∧rr=dB (decide ((bT c who j.n).id=i∧ ¬j.left=st)):=by
 refine CY rfl fun Q hQ=> ?_
 unfold kX
 repeat' (first| (with_reducible first| (refine hK _ _ _ ?_;clear hK K)|refine Z1 ?_)| (first| (with_reducible first|refine Y2 fun K hK=> ?_|refine Y6 (fun h=> ?_) fun h=> ?_)| (with_reducible refine iJ hp ha ?_))<;>(simp only[go_sem])| ((with_reducible refine Y8 ?_);try simp only[AQ.then,AQ.blk,reduceIte,Nat.reduceEqDiff])|fail)
 all_goals first|with_reducible refine aZ hQ _ rfl rfl ?_|skip
 all_goals first|exact pD (by omega)|exact q9 (by omega)|exact j7 (by omega)|rfl
theorem EP {c:Cfg} {who:Nat} {st:Nat} {i:Int} {j:fC} (hp:c.cP.length=3) (ha:oA c who j.n) (h:K (dB (decide ((bT c who j.n).id=i∧ ¬j.left=st))) H nx):aB Tryz.prog iW [dA (eCJ j),.one (.c (.fQ (cU c))),.one (.c (.fQ [cI who])),.one (.c (.fQ [cI i])),.one (.c (.fQ [cI st]))] H nx K:=
 (EF c who st i j hp ha).pure rfl (aI ⟨aE rfl,aE rfl,aE rfl,aE rfl,aE rfl,trivial⟩) (fun r hr=>hr▸h)
theorem HG (c:Cfg) (s:CSt) (who st:Nat) (hb:aQ c) (hs:COk c s) (hw:who<3) (hst:st<4):aB Tryz.prog j8 [.one (.c (.fQ (eI s))),dA (cU c),dI who,dI st] .nil 0 fun rr _ _=>rr.plain=true∧rr=dB (decide (HV c s who st)):=by
 refine FT rfl fun Q hQ=> ?_
 unfold mN
 obtain⟨hp3,hpr⟩:=hC hb
 have hprw:=hpr who
 have hml:=hb.1.1
 have hpl:=hs.pl
 have hpo:=hs.port who hw
 obtain⟨p,hpd⟩: ∃p,p=s.bM.getD who default:=⟨_,rfl⟩
 have hM:HV c s who st=(0<p.queue.length∧p.out.length<4∧gZ c.map (bT c who (p.queue.getD 0 default))=st∧ ∀j∈p.out,(bT c who j.n).id=(bT c who (p.queue.getD 0 default)).id→j.left=st):=by subst hpd;rfl
 rw[show aF s who=p from hpd.symm] at hpo
 obtain⟨hn1,hn2⟩:=hpo.next
 obtain⟨hq1,hq2⟩:=hpo.ql
 have hq0:=hpo.queue 0
 have hol:=hpo.ol
 repeat' (first| (with_reducible first| (refine hK _ _ _ ?_;clear hK K)| (refine hA ?_;clear hA hB A B)| (refine hB ?_;clear hA hB A B)|refine Z1 ?_|refine Z2 ?_|refine Z6 (fun h=> ?_) fun h=> ?_)| (first| (with_reducible first|refine Y2 fun K hK=> ?_|refine Y3 fun A B hA hB=> ?_|refine Y6 (fun h=> ?_) fun h=> ?_)| (with_reducible refine DE (by omega) ?_)| (with_reducible refine iJ hp3 (hpo.asks hw (by omega) (by omega)) ?_)| (refine nR (l:=p.out) (caps:=[.fQ (cU c),.fQ [cI who],.fQ [cI (bT c who (p.queue.getD 0 default)).id],.fQ [cI st]]) (p:=fun j=>decide ((bT c who j.n).id=(bT c who (p.queue.getD 0 default)).id∧ ¬j.left=st)) (by omega) rfl (aE rfl) (PR ⟨zE rfl trivial rfl rfl rfl,zE rfl trivial rfl rfl rfl,zE rfl trivial rfl rfl rfl,zE rfl trivial rfl rfl rfl,trivial⟩) (fun x hx H nx K h=>EP hp3 (hpo.asks hw (hpo.out x hx).2.1.1 (by have:=(hpo.out x hx).2.1.2;omega)) h) ?_))<;>(simp only[go_sem,hpd.symm])| ((with_reducible refine Y8 ?_);try simp only[AQ.then,AQ.blk,reduceIte,Nat.reduceEqDiff])|refine⟨by omega,?_⟩|fail)
 all_goals first|with_reducible refine aZ hQ _ rfl rfl ?_|skip
 all_goals have hr:gZ c.map (List.getD (c.cP.getD who default) (p.queue.getD 0 default).toNat default)=gZ c.map (bT c who (p.queue.getD 0 default)):=rfl
 ·exact j7 (by rw[hM];omega)
 ·exact j7 (by rw[hM];omega)
 ·exact j7 (by rw[hM];omega)
 ·refine pD ?_
  rw[hM,cH]
  refine⟨fun h=>⟨by omega,by omega,by omega,fun j hj hi=>Classical.byContradiction fun hn=>h ⟨j,hj,decide_eq_true ⟨hi,hn⟩⟩⟩,fun h ⟨j,hj,hd⟩=> ?_⟩
  have hd:=of_decide_eq_true hd
  exact hd.2 (h.2.2.2 j hj hd.1)
theorem vW {c:Cfg} {s:CSt} {who:Nat} {st:Nat} (hb:aQ c) (hs:COk c s) (hw:who<3) (hst:st<4) {d0:D} (hd0:CvD H (fun _=>True) id 0 (.one (.c (.fQ (eI s)))) d0) (h:K (dB (decide (HV c s who st))) H nx):aB Tryz.prog j8 [d0,dA (cU c),dI who,dI st] H nx K:=
 (HG c s who st hb hs hw hst).pure rfl (aI ⟨hd0,aE rfl,aE rfl,aE rfl,trivial⟩) (fun r hr=>hr▸h)
end
end Go.Proofs.YtegiblhkjfiooaaGreat
end
