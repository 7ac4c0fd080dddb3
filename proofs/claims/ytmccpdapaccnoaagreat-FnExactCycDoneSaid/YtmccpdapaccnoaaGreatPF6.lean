/- Texts laid together by a program: rules, contracts and the walk that leads to the law. -/
import Derived.Test.YtmccpdapaccnoaaGreatPF4
import Derived.Test.YtmccpdapaccnoaaGreatPF5
import Derived.Test.YtmccpdapaccnoaaGreatPF3
set_option linter.unusedVariables false
set_option linter.unusedSimpArgs false
set_option linter.unusedSectionVars false
section
namespace Go.AM
def eCJ (j:fC):List D1:=[cI j.who,cI j.n,cI j.left]
theorem anW {j:fC}:(eCJ j).length=3:=rfl
theorem aiX {j:fC}:(eCJ j).take 1=[cI j.who]:=rfl
theorem aiI {j:fC}:(eCJ j).drop 1=[cI j.n,cI j.left]:=rfl
theorem ah9 {j:fC}:(eCJ j).take 2=[cI j.who,cI j.n]:=rfl
theorem ajA {j:fC}:(eCJ j).drop 2=[cI j.left]:=rfl
theorem agT {j:fC}:(eCJ j).take 3=eCJ j:=rfl
theorem agG {j:fC}:(eCJ j).drop 3=[]:=rfl
theorem alE {j:fC} {cs:List D1} {k:Nat}:iA cs (k+1) (eCJ j)=iA cs (k+1) [cI j.who,cI j.n,cI j.left]:=rfl
theorem yK (j:fC):(eCJ j).length=3∧(eCJ j).all D1.dQ=true:=⟨rfl,rfl⟩
attribute [go_sem] anW aiX aiI ah9 ajA agT agG alE
def cD (p:fR):List D1:=[cI p.next,.isl (p.queue.map aJ),.isl (p.out.map eCJ),cI p.last]
theorem ag6 {p:fR}:(cD p).length=4:=rfl
theorem ZZ {p:fR}:(cD p).take 1=[cI p.next]:=rfl
theorem abE {p:fR}:(cD p).drop 1=[.isl (p.queue.map aJ),.isl (p.out.map eCJ),cI p.last]:=rfl
theorem YU {p:fR}:(cD p).take 2=[cI p.next,.isl (p.queue.map aJ)]:=rfl
theorem ZM {p:fR}:(cD p).drop 2=[.isl (p.out.map eCJ),cI p.last]:=rfl
theorem aa2 {p:fR}:(cD p).take 3=[cI p.next,.isl (p.queue.map aJ),.isl (p.out.map eCJ)]:=rfl
theorem aa8 {p:fR}:(cD p).drop 3=[cI p.last]:=rfl
theorem abO {p:fR}:(cD p).take 4=cD p:=rfl
theorem aaG {p:fR}:(cD p).drop 4=[]:=rfl
theorem aeM {p:fR} {cs:List D1} {k:Nat}:iA cs (k+1) (cD p)=iA cs (k+1) [cI p.next,.isl (p.queue.map aJ),.isl (p.out.map eCJ),cI p.last]:=rfl
theorem t7 (p:fR):(cD p).length=4∧(cD p).all D1.dQ=true:=⟨rfl,rfl⟩
attribute [go_sem] ag6 ZZ abE YU ZM aa2 aa8 abO aaG aeM
def gF (v:nY):List D1:=[.isl (v.pipe.map eCJ),.isl (v.done.map aS),cI v.last]
theorem amX {v:nY}:(gF v).length=3:=rfl
theorem ad9 {v:nY}:(gF v).take 1=[.isl (v.pipe.map eCJ)]:=rfl
theorem aeY {v:nY}:(gF v).drop 1=[.isl (v.done.map aS),cI v.last]:=rfl
theorem ab2 {v:nY}:(gF v).take 2=[.isl (v.pipe.map eCJ),.isl (v.done.map aS)]:=rfl
theorem ac3 {v:nY}:(gF v).drop 2=[cI v.last]:=rfl
theorem ad6 {v:nY}:(gF v).take 3=gF v:=rfl
theorem adW {v:nY}:(gF v).drop 3=[]:=rfl
theorem ahZ {v:nY} {cs:List D1} {k:Nat}:iA cs (k+1) (gF v)=iA cs (k+1) [.isl (v.pipe.map eCJ),.isl (v.done.map aS),cI v.last]:=rfl
theorem zJ (v:nY):(gF v).length=3∧(gF v).all D1.dQ=true:=⟨rfl,rfl⟩
attribute [go_sem] amX ad9 aeY ab2 ac3 ad6 adW ahZ
def eI (s:CSt):List D1:=[.isl (s.words.map aJ),.isl (s.holds.map aJ),.isl (s.bM.map cD),.isl (s.dD.map gF),.isl (s.told.map aS)]
theorem ajM {s:CSt}:(eI s).length=5:=rfl
theorem adQ {s:CSt}:(eI s).take 1=[.isl (s.words.map aJ)]:=rfl
theorem acL {s:CSt}:(eI s).drop 1=[.isl (s.holds.map aJ),.isl (s.bM.map cD),.isl (s.dD.map gF),.isl (s.told.map aS)]:=rfl
theorem aeK {s:CSt}:(eI s).take 2=[.isl (s.words.map aJ),.isl (s.holds.map aJ)]:=rfl
theorem aeQ {s:CSt}:(eI s).drop 2=[.isl (s.bM.map cD),.isl (s.dD.map gF),.isl (s.told.map aS)]:=rfl
theorem adC {s:CSt}:(eI s).take 3=[.isl (s.words.map aJ),.isl (s.holds.map aJ),.isl (s.bM.map cD)]:=rfl
theorem adP {s:CSt}:(eI s).drop 3=[.isl (s.dD.map gF),.isl (s.told.map aS)]:=rfl
theorem ab6 {s:CSt}:(eI s).take 4=[.isl (s.words.map aJ),.isl (s.holds.map aJ),.isl (s.bM.map cD),.isl (s.dD.map gF)]:=rfl
theorem aeD {s:CSt}:(eI s).drop 4=[.isl (s.told.map aS)]:=rfl
theorem ac5 {s:CSt}:(eI s).take 5=eI s:=rfl
theorem aeA {s:CSt}:(eI s).drop 5=[]:=rfl
theorem aiO {s:CSt} {cs:List D1} {k:Nat}:iA cs (k+1) (eI s)=iA cs (k+1) [.isl (s.words.map aJ),.isl (s.holds.map aJ),.isl (s.bM.map cD),.isl (s.dD.map gF),.isl (s.told.map aS)]:=rfl
attribute [go_sem] ajM adQ acL aeK aeQ adC adP ab6 aeD ac5 aeA aiO
def eH (b:Bool):List D1:=[cB b]
theorem ai9 {b:Bool}:(eH b).length=1:=rfl
theorem abL {b:Bool}:(eH b).take 1=[cB b]:=rfl
theorem aaB {b:Bool}:(eH b).drop 1=[]:=rfl
theorem abX {b:Bool} {cs:List D1} {k:Nat}:iA cs (k+1) (eH b)=iA cs (k+1) [cB b]:=rfl
attribute [go_sem] ai9 abL aaB abX
def eIn (i:CIn):List D1:=[.isl (i.ready.map eH),.isl (i.n9.map eH),.isl (i.send.map eH)]
theorem aoW {i:CIn}:(eIn i).length=3:=rfl
theorem agD {i:CIn}:(eIn i).take 1=[.isl (i.ready.map eH)]:=rfl
theorem ah2 {i:CIn}:(eIn i).drop 1=[.isl (i.n9.map eH),.isl (i.send.map eH)]:=rfl
theorem aiC {i:CIn}:(eIn i).take 2=[.isl (i.ready.map eH),.isl (i.n9.map eH)]:=rfl
theorem agZ {i:CIn}:(eIn i).drop 2=[.isl (i.send.map eH)]:=rfl
theorem ajC {i:CIn}:(eIn i).take 3=eIn i:=rfl
theorem agB {i:CIn}:(eIn i).drop 3=[]:=rfl
theorem al9 {i:CIn} {cs:List D1} {k:Nat}:iA cs (k+1) (eIn i)=iA cs (k+1) [.isl (i.ready.map eH),.isl (i.n9.map eH),.isl (i.send.map eH)]:=rfl
attribute [go_sem] aoW agD ah2 aiC agZ ajC agB al9
structure tZ (H:aA) (n id off len cap:Nat) (R:List (List D1)):Prop where
 ex: ∃m rows,H id=some ⟨n,m,rows⟩∧rows.drop off=R∧off+len≤rows.length∧len=R.length∧len≤cap∧off+cap≤m
def af5 (nq no:Nat) (p:fR) (qo qc oc:Nat):List D1:=[cI p.next,.osl 1 nq qo p.queue.length qc,.osl 3 no 0 p.out.length oc,cI p.last]
def aj9 (np nd:Nat) (v:nY) (po pc do_ dc:Nat):List D1:=[.osl 3 np po v.pipe.length pc,.osl 5 nd do_ v.done.length dc,cI v.last]
structure CX (H:aA) (nq no:Nat) (p:fR) (r:List D1):Prop where
 ex: ∃qo qc oc,r=af5 nq no p qo qc oc∧tZ H 1 nq qo p.queue.length qc (p.queue.map aJ)∧tZ H 3 no 0 p.out.length oc (p.out.map eCJ)
structure LJ (H:aA) (np nd:Nat) (v:nY) (r:List D1):Prop where
 ex: ∃po pc do_ dc,r=aj9 np nd v po pc do_ dc∧tZ H 3 np po v.pipe.length pc (v.pipe.map eCJ)∧tZ H 5 nd do_ v.done.length dc (v.done.map aS)
def U2 (nm:Nat→Nat) (s:CSt) (wc hc pc vc tc:Nat):List D1:=[.osl 1 (nm 0) 0 s.words.length wc,.osl 1 (nm 1) 0 s.holds.length hc,.osl 4 (nm 2) 0 3 pc,.osl 3 (nm 3) 0 4 vc,.osl 5 (nm 4) 0 s.told.length tc]
structure abY (H:aA) (nm:Nat→Nat) (s:CSt) (cells:List D1):Prop where
 ex: ∃wc hc pc vc tc,cells=U2 nm s wc hc pc vc tc∧tZ H 1 (nm 0) 0 s.words.length wc (s.words.map aJ)∧tZ H 1 (nm 1) 0 s.holds.length hc (s.holds.map aJ)∧tZ H 5 (nm 4) 0 s.told.length tc (s.told.map aS)∧
  3≤pc∧4≤vc
 bM: ∃m rows,H (nm 2)=some ⟨4,m,rows⟩∧rows.length=3∧ ∀k,k<3→∃r,rows[k]?=some r∧CX H (nm (5+k)) (nm (8+k)) (aF s k) r
 dD: ∃m rows,H (nm 3)=some ⟨3,m,rows⟩∧rows.length=4∧ ∀k,k<4→∃r,rows[k]?=some r∧LJ H (nm (11+k)) (nm (15+k)) (aL s k) r
structure Names (X:Nat→Prop) (nx:Nat) (nm:Nat→Nat):Prop where
 inj: ∀j k,j<19→k<19→nm j=nm k→j=k
 lt: ∀k,k<19→nm k<nx
 av: ∀k,k<19→¬X (nm k)
structure Rep (X:Nat→Prop) (H:aA) (nx i0:Nat) (nm:Nat→Nat) (s:CSt):Prop where
 st: ∃cells,H i0=some ⟨5,1,[cells]⟩∧abY H nm s cells
 names:Names X nx nm
 ne: ∀k,k<19→nm k≠i0
 i0:i0<nx∧ ¬X i0
 x: ∀id,X id→id<nx
def aqA (Y:Nat→Prop) (H:aA) (nx i1:Nat) (es:List Ev) (d:D1):Prop:=
 (es=[]∧d= .osl 0 0 0 0 0)∨ ∃ev cap,d= .osl 3 ev 0 es.length cap∧tZ H 3 ev 0 es.length cap (es.map eEv)∧ev<nx∧ ¬Y ev∧ev≠i1
structure aiW (Y:Nat→Prop) (H:aA) (nx i1:Nat) (es:List Ev):Prop where
 ex: ∃d a b c e,H i1=some ⟨5,1,[[d,cI a,cI b,cI c,cI e]]⟩∧aqA Y H nx i1 es d
 i1:i1<nx∧ ¬Y i1
 y: ∀id,Y id→id<nx
theorem aA.aC {H:aA} {a i:Nat} {o:bA} (h:i≠a):H.set a o i=H i:=if_neg h
theorem aA.bH {H:aA} {a:Nat} {o:bA}:H.set a o a=some o:=if_pos rfl
theorem aA.jG {H:aA} {a i:Nat} (h:i≠a):H.del a i=H i:=if_neg h
def eZ (x:Nat):List Nat→Prop
 | []=>True
 |y::l=>((x=y)=False∧(y=x)=False)∧eZ x l
def bQ (nx:Nat):List Nat→Prop
 | []=>True
 |x::l=>((∀k,(x=nx+k)=False)∧(∀k,(nx+k=x)=False)∧(x=nx)=False∧(nx=x)=False)∧eZ x l∧bQ nx l
theorem apZ {x:Nat}: ∀{l:List Nat},x∉l→eZ x l
 | [],_=>trivial
 |y::l,h=>by
  rw[List.mem_cons,not_or] at h
  exact⟨⟨eq_false h.1,eq_false (Ne.symm h.1)⟩,apZ h.2⟩
theorem apart {nx:Nat}: ∀{l:List Nat},l.Nodup→(∀x∈l,x<nx)→bQ nx l
 | [],_,_=>trivial
 |x::l,h,hl=>by
  rw[List.nodup_cons] at h
  have hx:=hl x (by simp)
  exact⟨⟨fun k=>eq_false (by omega),fun k=>eq_false (by omega),eq_false (by omega),eq_false (by omega)⟩,apZ h.1,apart h.2 fun y hy=>hl y (List.mem_cons_of_mem _ hy)⟩
theorem Names.list {X:Nat→Prop} {nx:Nat} {nm:Nat→Nat} (h:Names X nx nm): ∀{l:List Nat},l.Nodup→(∀k∈l,k<19)→(l.map nm).Nodup
 | [],_,_=>List.Pairwise.nil
 |k::l,hn,hl=>by
  rw[List.nodup_cons] at hn
  rw[List.map_cons,List.nodup_cons]
  refine⟨fun hm=> ?_,h.list hn.2 fun j hj=>hl j (List.mem_cons_of_mem _ hj)⟩
  obtain⟨j,hj,he⟩:=List.mem_map.1 hm
  exact hn.1 (h.inj j k (hl j (List.mem_cons_of_mem _ hj)) (hl k (by simp)) he▸hj)
theorem Rep.apart {X:Nat→Prop} {H:aA} {nx nx' i0:Nat} {nm:Nat→Nat} {s:CSt} (h:Rep X H nx i0 nm s) (ext l:List Nat) (hx:nx≤nx') (he:ext.Nodup) (heX: ∀x∈ext,X x) (hn:l.Nodup) (hl: ∀k∈l,k<19):bQ nx' (ext++i0::l.map nm):=by
 refine AM.apart (List.nodup_append.2 ⟨he,List.nodup_cons.2 ⟨fun hm=> ?_,h.names.list hn hl⟩,fun a ha b hb hab=> ?_⟩) fun x hx=> ?_
 ·obtain⟨j,hj,he⟩:=List.mem_map.1 hm
  exact h.ne j (hl j hj) he
 ·subst hab
  rcases List.mem_cons.1 hb with rfl|hb
  ·exact h.i0.2 (heX _ ha)
  ·obtain⟨j,hj,rfl⟩:=List.mem_map.1 hb
   exact h.names.av j (hl j hj) (heX _ ha)
 ·rcases List.mem_append.1 hx with hx|hx
  ·have:=h.x x (heX x hx);omega
  ·rcases List.mem_cons.1 hx with rfl|hx
   ·have:=h.i0.1;omega
   ·obtain⟨j,hj,rfl⟩:=List.mem_map.1 hx
    have:=h.names.lt j (hl j hj);omega
theorem tZ.frame {H H':aA} {n id off len cap:Nat} {R:List (List D1)} (h:tZ H n id off len cap R) (he:H' id=H id):tZ H' n id off len cap R:=by
 obtain⟨m,rows,h1,h2⟩:=h.ex
 exact⟨m,rows,by rw[he,h1],h2⟩
theorem CX.frame {H H':aA} {nq no:Nat} {p:fR} {r:List D1} (h:CX H nq no p r) (h1:H' nq=H nq) (h2:H' no=H no):CX H' nq no p r:=by
 obtain⟨qo,qc,oc,e,q1,q2⟩:=h.ex
 exact⟨qo,qc,oc,e,q1.frame h1,q2.frame h2⟩
theorem LJ.frame {H H':aA} {np nd:Nat} {v:nY} {r:List D1} (h:LJ H np nd v r) (h1:H' np=H np) (h2:H' nd=H nd):LJ H' np nd v r:=by
 obtain⟨po,pc,do_,dc,e,q1,q2⟩:=h.ex
 exact⟨po,pc,do_,dc,e,q1.frame h1,q2.frame h2⟩
theorem Rep.upd {X:Nat→Prop} {H H':aA} {nx nx' i0:Nat} {nm nm':Nat→Nat} {s s':CSt} {who st:Nat} (h:Rep X H nx i0 nm s) (hx:nx≤nx') (hN:Names X nx' nm') (hne: ∀k,k<19→nm' k≠i0)
 (hk: ∀k,k<19→k≠4→k≠5+who→k≠8+who→k≠11+st→k≠15+st→nm' k=nm k) (hfr: ∀k,5≤k→k<19→k≠5+who→k≠8+who→k≠11+st→k≠15+st→H' (nm k)=H (nm k))
 (e1: ∃wc hc pc vc tc,H' i0=some ⟨5,1,[U2 nm' s' wc hc pc vc tc]⟩∧tZ H' 1 (nm' 0) 0 s'.words.length wc (s'.words.map aJ)∧tZ H' 1 (nm' 1) 0 s'.holds.length hc (s'.holds.map aJ)∧tZ H' 5 (nm' 4) 0 s'.told.length tc (s'.told.map aS)∧3≤pc∧4≤vc)
 (e2: ∃m rows m0 rows0,H (nm 2)=some ⟨4,m0,rows0⟩∧H' (nm 2)=some ⟨4,m,rows⟩∧rows.length=3∧(∀k,k<3→k≠who→rows[k]?=rows0[k]?)∧(who<3→∃r,rows[who]?=some r∧CX H' (nm' (5+who)) (nm' (8+who)) (aF s' who) r))
 (e3: ∃m rows m0 rows0,H (nm 3)=some ⟨3,m0,rows0⟩∧H' (nm 3)=some ⟨3,m,rows⟩∧rows.length=4∧(∀k,k<4→k≠st→rows[k]?=rows0[k]?)∧(st<4→∃r,rows[st]?=some r∧LJ H' (nm' (11+st)) (nm' (15+st)) (aL s' st) r))
 (hw:who<3∨who=14) (hs:st<4∨st=8) (hp: ∀k,k<3→k≠who→aF s' k=aF s k) (hv: ∀k,k<4→k≠st→aL s' k=aL s k):Rep X H' nx' i0 nm' s':=by
 obtain⟨⟨cells,hi0,hex,hports,hslvs⟩,hnames,hne0,hi1,hX⟩:=h
 refine⟨?_,hN,hne,⟨by omega,hi1.2⟩,fun id hid=>by have:=hX id hid;omega⟩
 obtain⟨wc,hc,pc,vc,tc,q1,q2⟩:=e1
 refine⟨_,q1,⟨wc,hc,pc,vc,tc,rfl,q2⟩,?_,?_⟩
 ·obtain⟨m,rows,m0,rows0,g1,g2,g3,g4,g5⟩:=e2
  obtain⟨m1,rows1,j1,j2,j3⟩:=hports
  rw[g1] at j1
  obtain⟨_,rfl,rfl⟩:4=4∧m0=m1∧rows0=rows1:=by simpa using j1
  refine⟨m,rows,by rw[hk 2 (by omega) (by omega) (by omega) (by omega) (by omega) (by omega)];exact g2,g3,fun k hk3=> ?_⟩
  by_cases hkw:k=who
  ·subst hkw;exact g5 hk3
  ·obtain⟨r,j4,j5⟩:=j3 k hk3
   refine⟨r,by rw[g4 k hk3 hkw];exact j4,?_⟩
   rw[hp k hk3 hkw,hk (5+k) (by omega) (by omega) (by omega) (by omega) (by omega) (by omega),hk (8+k) (by omega) (by omega) (by omega) (by omega) (by omega) (by omega)]
   exact j5.frame (hfr _ (by omega) (by omega) (by omega) (by omega) (by omega) (by omega)) (hfr _ (by omega) (by omega) (by omega) (by omega) (by omega) (by omega))
 ·obtain⟨m,rows,m0,rows0,g1,g2,g3,g4,g5⟩:=e3
  obtain⟨m1,rows1,j1,j2,j3⟩:=hslvs
  rw[g1] at j1
  obtain⟨_,rfl,rfl⟩:3=3∧m0=m1∧rows0=rows1:=by simpa using j1
  refine⟨m,rows,by rw[hk 3 (by omega) (by omega) (by omega) (by omega) (by omega) (by omega)];exact g2,g3,fun k hk3=> ?_⟩
  by_cases hkw:k=st
  ·subst hkw;exact g5 hk3
  ·obtain⟨r,j4,j5⟩:=j3 k hk3
   refine⟨r,by rw[g4 k hk3 hkw];exact j4,?_⟩
   rw[hv k hk3 hkw,hk (11+k) (by omega) (by omega) (by omega) (by omega) (by omega) (by omega),hk (15+k) (by omega) (by omega) (by omega) (by omega) (by omega) (by omega)]
   exact j5.frame (hfr _ (by omega) (by omega) (by omega) (by omega) (by omega) (by omega)) (hfr _ (by omega) (by omega) (by omega) (by omega) (by omega) (by omega))
theorem Rep.frame {X X':Nat→Prop} {H H':aA} {nx nx' i0:Nat} {nm:Nat→Nat} {s:CSt} (h:Rep X H nx i0 nm s) (hx:nx≤nx') (h0:H' i0=H i0) (hfr: ∀k,k<19→H' (nm k)=H (nm k)) (hX: ∀id,X' id→id<nx'∧id≠i0∧ ∀k,k<19→id≠nm k):Rep X' H' nx' i0 nm s:=by
 obtain⟨⟨cells,hi0,⟨wc,hc,pc,vc,tc,q1,q2,q3,q4,q5⟩,⟨m,rows,j1,j2,j3⟩,⟨m',rows',j4,j5,j6⟩⟩,hnames,hne0,hi1,_⟩:=h
 refine⟨⟨cells,by rw[h0];exact hi0,⟨wc,hc,pc,vc,tc,q1,q2.frame (hfr _ (by omega)),q3.frame (hfr _ (by omega)),q4.frame (hfr _ (by omega)),q5⟩,⟨m,rows,by rw[hfr 2 (by omega)];exact j1,j2,fun k hk=> ?_⟩,⟨m',rows',by rw[hfr 3 (by omega)];exact j4,j5,fun k hk=> ?_⟩⟩,
  ⟨hnames.inj,fun k hk=>by have:=hnames.lt k hk;omega,fun k hk hn=>(hX _ hn).2.2 k hk rfl⟩,hne0,⟨by omega,fun hn=>(hX _ hn).2.1 rfl⟩,fun id hid=>(hX id hid).1⟩
 ·obtain⟨r,k1,k2⟩:=j3 k hk
  exact⟨r,k1,k2.frame (hfr _ (by omega)) (hfr _ (by omega))⟩
 ·obtain⟨r,k1,k2⟩:=j6 k hk
  exact⟨r,k1,k2.frame (hfr _ (by omega)) (hfr _ (by omega))⟩
def put (nm:Nat→Nat) (k v:Nat):Nat→Nat:=fun j=>if j=k then v else nm j
theorem t8 {nm:Nat→Nat} {k v:Nat}:put nm k v k=v:=if_pos rfl
theorem jE {nm:Nat→Nat} {k v j:Nat} (h:j≠k):put nm k v j=nm j:=if_neg h
theorem Names.mono {X:Nat→Prop} {nx nx':Nat} {nm:Nat→Nat} (h:Names X nx nm) (hx:nx≤nx'):Names X nx' nm:=
 ⟨h.inj,fun k hk=>by have:=h.lt k hk;omega,h.av⟩
theorem Names.put {X:Nat→Prop} {nx nx':Nat} {nm:Nat→Nat} {k v:Nat} (h:Names X nx nm) (h1:nx≤v) (h2:v<nx') (hX: ¬X v):Names X nx' (put nm k v):=by
 refine⟨fun i j hi hj he=> ?_,fun j hj=> ?_,fun j hj=> ?_⟩
 ·have a:=h.lt i hi
  have b:=h.lt j hj
  have c:=h.inj i j hi hj
  unfold AM.put at he
  split at he<;>split at he<;>omega
 ·have:=h.lt j hj
  unfold AM.put;split<;>omega
 ·unfold AM.put;split
  ·exact hX
  ·exact h.av j hj
structure l9 (X:Nat→Prop) (H:aA) (nx i0 i1:Nat) (nm:Nat→Nat) (s:CSt) (es:List Ev):Prop where
 rep:Rep (fun id=>X id∨id=i1) H nx i0 nm s
 hap:aiW (fun id=>X id∨id=i0∨ ∃k,k<19∧id=nm k) H nx i1 es
theorem aiW.frame {Y Y':Nat→Prop} {H H':aA} {nx nx' i1:Nat} {es:List Ev} (h:aiW Y H nx i1 es) (hx:nx≤nx') (h1:H' i1=H i1) (hfr: ∀id,id<nx→¬Y id→H' id=H id) (hY: ∀id,Y' id→id<nx'∧(Y id∨nx≤id)):aiW Y' H' nx' i1 es:=by
 obtain⟨⟨d,a,b,c,e,g1,g2⟩,g3,g4⟩:=h
 have hn: ∀id,id<nx→¬Y id→¬Y' id:=fun id h1 h2 h3=>by
  rcases(hY id h3).2 with h|h
  ·exact h2 h
  ·omega
 refine⟨⟨d,a,b,c,e,by rw[h1];exact g1,?_⟩,⟨by omega,hn _ g3.1 g3.2⟩,fun id h=>(hY id h).1⟩
 rcases g2 with g2|⟨ev,cap,k1,k2,k3,k4,k5⟩
 ·exact .inl g2
 ·exact .inr ⟨ev,cap,k1,k2.frame (hfr _ k3 k4),by omega,hn _ k3 k4,k5⟩
theorem l9.next {X X2:Nat→Prop} {H H2:aA} {nx nx2 i0 i1:Nat} {nm:Nat→Nat} {s:CSt} {es:List Ev} (h:l9 X H nx i0 i1 nm s es) (hx:nx≤nx2) (hfr: ∀id,id<nx→¬X id→H2 id=H id) (hX: ∀id,X2 id→id<nx2∧(X id∨nx≤id)):l9 X2 H2 nx2 i0 i1 nm s es:=by
 have hi0:=h.rep.i0
 have hi1:=h.hap.i1
 have hav:=h.rep.names.av
 have hlt:=h.rep.names.lt
 refine⟨h.rep.frame hx (hfr i0 hi0.1 fun hn=>hi0.2 (.inl hn)) (fun k hk=>hfr _ (hlt k hk) fun hn=>hav k hk (.inl hn)) fun id hid=> ?_,h.hap.frame hx (hfr i1 hi1.1 fun hn=>hi1.2 (.inl hn)) (fun id h1 h2=>hfr id h1 fun hn=>h2 (.inl hn)) fun id hid=> ?_⟩
 ·rcases hid with hid|rfl
  ·obtain⟨q1,q2⟩:=hX id hid
   refine⟨q1,?_,fun k hk=> ?_⟩
   ·rintro rfl
    rcases q2 with q2|q2
    ·exact hi0.2 (.inl q2)
    ·omega
   ·rintro rfl
    have:=hlt k hk
    rcases q2 with q2|q2
    ·exact hav k hk (.inl q2)
    ·omega
  ·refine⟨by omega,fun he=>hi0.2 (.inr he.symm),fun k hk he=>hav k hk (.inr he.symm)⟩
 ·rcases hid with hid|rfl|⟨k,hk,rfl⟩
  ·obtain⟨q1,q2⟩:=hX id hid
   exact⟨q1,q2.imp .inl fun h=>h⟩
  ·exact⟨by omega,.inl (.inr (.inl rfl))⟩
  ·have:=hlt k hk
   exact⟨by omega,.inl (.inr (.inr ⟨k,hk,rfl⟩))⟩
theorem l9.mono {X:Nat→Prop} {H:aA} {nx nx2 i0 i1:Nat} {nm:Nat→Nat} {s:CSt} {es:List Ev} (h:l9 X H nx i0 i1 nm s es) (hx:nx≤nx2):l9 X H nx2 i0 i1 nm s es:=
 h.next hx (fun _ _ _=>rfl) fun id hid=>⟨by have:=h.rep.x id (.inl hid);omega,.inl hid⟩
theorem l9.upd {X:Nat→Prop} {H H':aA} {nx nx' i0 i1:Nat} {nm:Nat→Nat} {s:CSt} {es:List Ev} (h:l9 X H nx i0 i1 nm s es) (who st:Nat) (nm':Nat→Nat) (s':CSt) (hx:nx≤nx') (hN:Names (fun id=>X id∨id=i1) nx' nm')
 (hk: ∀k,k<19→nm' k=nm k∨((k=4∨k=5+who∨k=8+who∨k=11+st∨k=15+st)∧nx≤nm' k))
 (hfr: ∀id,id<nx→id≠i0→(∀k,k<5∨k=5+who∨k=8+who∨k=11+st∨k=15+st→k<19→id≠nm k)→H' id=H id)
 (e1: ∃wc hc pc vc tc,H' i0=some ⟨5,1,[U2 nm' s' wc hc pc vc tc]⟩∧tZ H' 1 (nm' 0) 0 s'.words.length wc (s'.words.map aJ)∧tZ H' 1 (nm' 1) 0 s'.holds.length hc (s'.holds.map aJ)∧tZ H' 5 (nm' 4) 0 s'.told.length tc (s'.told.map aS)∧3≤pc∧4≤vc)
 (e2: ∃m rows m0 rows0,H (nm 2)=some ⟨4,m0,rows0⟩∧H' (nm 2)=some ⟨4,m,rows⟩∧rows.length=3∧(∀k,k<3→k≠who→rows[k]?=rows0[k]?)∧(who<3→∃r,rows[who]?=some r∧CX H' (nm' (5+who)) (nm' (8+who)) (aF s' who) r))
 (e3: ∃m rows m0 rows0,H (nm 3)=some ⟨3,m0,rows0⟩∧H' (nm 3)=some ⟨3,m,rows⟩∧rows.length=4∧(∀k,k<4→k≠st→rows[k]?=rows0[k]?)∧(st<4→∃r,rows[st]?=some r∧LJ H' (nm' (11+st)) (nm' (15+st)) (aL s' st) r))
 (hw:who<3∨who=14) (hs:st<4∨st=8) (hp: ∀k,k<3→k≠who→aF s' k=aF s k) (hv: ∀k,k<4→k≠st→aL s' k=aL s k):l9 X H' nx' i0 i1 nm' s' es∧ ∀id,X id→H' id=H id:=by
 have hav:=h.rep.names.av
 have hi0:=h.rep.i0
 have hi1:=h.hap.i1
 have hlt:=h.rep.names.lt
 have hXf: ∀id,X id∨id=i1→H' id=H id:=fun id hid=>hfr id (h.rep.x id hid) (fun he=>hi0.2 (he▸hid)) fun k _ hk he=>hav k hk (he▸hid)
 refine⟨⟨h.rep.upd (who:=who) (st:=st) hx hN (fun k hk19=> ?_) (fun k hk19 h1 h2 h3 h4 h5=> ?_) (fun k h5 hk19 h1 h2 h3 h4=> ?_) e1 e2 e3 hw hs hp hv,h.hap.frame hx (hXf _ (.inr rfl)) (fun id h1 h2=> ?_) fun id hid=> ?_⟩,fun id hid=>hXf id (.inl hid)⟩
 ·rcases hk k hk19 with h1|h1
  ·rw[h1];exact h.rep.ne k hk19
  ·omega
 ·rcases hk k hk19 with h6|h6
  ·exact h6
  ·omega
 ·refine hfr _ (hlt k hk19) (h.rep.ne k hk19) fun j hj hj19 he=> ?_
  have:=h.rep.names.inj k j hk19 hj19 he
  omega
 ·exact hfr id h1 (fun he=>h2 (.inr (.inl he))) fun k _ hk19 he=>h2 (.inr (.inr ⟨k,hk19,he⟩))
 ·rcases hid with hid|rfl|⟨k,hk19,rfl⟩
  ·have:=h.rep.x id (.inl hid)
   exact⟨by omega,.inl (.inl hid)⟩
  ·exact⟨by omega,.inl (.inr (.inl rfl))⟩
  ·have:=hN.lt k hk19
   rcases hk k hk19 with h6|h6
   ·exact⟨this,.inl (.inr (.inr ⟨k,hk19,h6⟩))⟩
   ·exact⟨this,.inr h6.2⟩
end Go.AM
end
section
namespace Go.AM
def VK (H:aA) (F:Nat→Prop) (r' r:List D1):Prop:=r'.length=r.length∧ ∀(j:Nat) (d':D1),r'[j]?=some d'→∃d,r[j]?=some d∧Frz H F d' d
section
variable {H : aA} {F : Nat → Prop} {σ : Nat → Nat} {nh : Nat}
theorem amO {r:List D1} (h: ∀x∈r,x.dQ=true):VK H F r r:=⟨rfl,fun j d hd=>⟨d,hd,.same d (h d (List.mem_of_getElem? hd))⟩⟩
theorem QM {rows:List (List D1)} {n id off len cap:Nat} {o:bA} (hF:F id) (ho:H id=some o) (hn:o.n=n) (hl:len=rows.length) (hlen:off+len≤o.rows.length) (hcap:len≤cap)
 (hr: ∀i r',rows[i]?=some r'→r'.length=n∧ ∃r,o.rows[off+i]?=some r∧VK H F r' r):Frz H F (.isl rows) (.osl n id off len cap):=by
 subst hl
 refine .frz rows n id off cap o (fun i j=>((o.rows[off+i]?.getD [])[j]?).getD .dead) hF ho hn hlen hcap (fun i r' h=>(hr i r' h).1) (fun i j r' d' h1 h2=> ?_) (fun i j r' d' h1 h2=> ?_)
 ·obtain⟨_,r,h3,h4⟩:=hr i r' h1
  obtain⟨d,h5,_⟩:=h4.2 j d' h2
  exact⟨r,h3,by rw[h3];simp[h5]⟩
 ·obtain⟨_,r,h3,h4⟩:=hr i r' h1
  obtain⟨d,h5,h6⟩:=h4.2 j d' h2
  rw[h3];simpa [h5] using h6
theorem tZ.frz {n id off len cap:Nat} {R:List (List D1)} (h:tZ H n id off len cap R) (hi:alR n R) (hF:F id):Frz H F (.isl R) (.osl n id off len cap):=by
 obtain⟨m,rows,h1,h2,h3,h4,h5,h6⟩:=h.ex
 refine QM hF h1 rfl h4 h3 h5 fun i r' hr=>⟨(hi r' (List.mem_of_getElem? hr)).1,r',?_,amO fun x hx=>(hi r' (List.mem_of_getElem? hr)).2 x hx⟩
 subst h2
 rw[List.getElem?_drop] at hr
 exact hr
theorem getD_some {α:Type} [Inhabited α] {l:List α} {k:Nat} {x:α} (h:l[k]?=some x):l.getD k default=x∧k<l.length:=by
 refine⟨by simp[List.getD,h],(List.getElem?_eq_some_iff.1 h).1⟩
end
end Go.AM
end
section
namespace Go.AM
theorem GZ {c:Cfg} {f:CSt→Nat→Option Mic} {s:CSt} {k:Nat} {l:List Nat} (h:f s k=none):vE c f s (k::l)=vE c f s l:=by
 rw[vE,h]
theorem NH {c:Cfg} {f:CSt→Nat→Option Mic} {s:CSt} {k:Nat} {l:List Nat} {m:Mic} (h:f s k=some m):vE c f s (k::l)=m::vE c f (aR c s m) l:=by
 rw[vE,h]
def vU (c:Cfg) (f:CSt→Nat→Option Mic) (l:List Nat) (s:CSt) (es:List Ev) (S:CSt) (E:List Ev):Prop:=dR c s (vE c f s l)=S∧es++iP c s (vE c f s l)=E
theorem vU.none {c:Cfg} {f:CSt→Nat→Option Mic} {s S:CSt} {es E:List Ev} {k:Nat} {l:List Nat} (hl:vU c f (k::l) s es S E) (h:f s k=none):vU c f l s es S E:=by
 unfold vU at hl
 rw[GZ h] at hl
 exact hl
theorem vU.some {c:Cfg} {f:CSt→Nat→Option Mic} {s S:CSt} {es E:List Ev} {k:Nat} {l:List Nat} {m:Mic} (hl:vU c f (k::l) s es S E) (h:f s k=some m):vU c f l (aR c s m) (es++y0 s m) S E:=by
 unfold vU at hl
 rw[NH h] at hl
 refine⟨hl.1,?_⟩
 rw[List.append_assoc]
 exact hl.2
theorem vU.nil {c:Cfg} {f:CSt→Nat→Option Mic} {s S:CSt} {es E:List Ev} (hl:vU c f [] s es S E):s=S∧es=E:=by
 refine⟨hl.1,?_⟩
 have:=hl.2
 rw[vE,iP,List.append_nil] at this
 exact this
def LV (c:Cfg) (l:List Nat) (s:CSt) (u:List Bool) (S:CSt):Prop:=dR c s (oP c s u l)=S
theorem LV.none {c:Cfg} {s S:CSt} {u:List Bool} {k:Nat} {l:List Nat} (hl:LV c (k::l) s u S) (h:AO c s u k=none):LV c l s u S:=by
 unfold LV at hl
 rw[oP,h] at hl
 exact hl
theorem LV.some {c:Cfg} {s S:CSt} {u:List Bool} {k who:Nat} {l:List Nat} (hl:LV c (k::l) s u S) (h:AO c s u k=some who):LV c l (aR c s (.adm who k)) (u.set who true) S:=by
 unfold LV at hl
 rw[oP,h] at hl
 exact hl
end Go.AM
end
section
namespace Go.Proofs.YtmccpdapaccnoaaGreat
open Go Go.AM
set_option maxRecDepth 100000
set_option maxHeartbeats 8000000
section
variable {H : aA} {nx : Nat} {K : D → aA → Nat → Prop}
end
end Go.Proofs.YtmccpdapaccnoaaGreat
end
section
namespace Go.Proofs.YtmccpdapaccnoaaGreat
open Go Go.AM
set_option maxRecDepth 100000
def aJQ:AC:=
 (.seq (.region [rq 0 1 (.box true (.tm 0)),
 rq 1 2 (.move (.kv (.bool false)))] 2 [1])
 (.seq (.seq (.region [RF 0 4 0 1,
 RL 1 5 4,
 rq 2 6 (.call aBG [(.tm 5)]),
 rq 3 7 (.un .not (.tm 6)),
 RM 4 8 7,
 GQ 5 9 (.fld 1 (.tm 1)) 8 false,
 GQ 6 10 (.load 1 false (.tm 9)) 8 false,
 GQ 7 11 (.len false (.tm 10)) 8 false,
 GQ 8 12 (.bin .neq (.tm 11) (ki 4)) 8 false,
 rq 9 13 (.pick (.tm 8) (.kv (.bool true)) (.tm 12)),
 RM 10 14 13,
 GQ 11 15 (.fld 1 (.tm 1)) 14 false,
 GQ 12 16 (.load 1 false (.tm 15)) 14 false,
 GQ 13 17 (.call aA3 [(.tm 16),(ki 0),(ki 3)]) 14 false,
 GQ 14 18 (.un .not (.tm 17)) 14 false,
 rq 15 19 (.pick (.tm 14) (.kv (.bool true)) (.tm 18)),
 RM 16 20 19,
 GQ 17 21 (.fld 2 (.tm 1)) 20 false,
 GQ 18 22 (.load 1 false (.tm 21)) 20 false,
 GQ 19 23 (.len false (.tm 22)) 20 false,
 GQ 20 24 (.bin .neq (.tm 23) (ki 3)) 20 false,
 rq 21 25 (.pick (.tm 20) (.kv (.bool true)) (.tm 24))] 22 [1,25])
 (.cond (.tm 25)
 (.seq (.region [rq 0 2 (.move (.kv (.bool false)))] 1 [2])
 .ret)
 .skip))
 (.seq (.seq (.region [rq 0 3 (.move (ki 0))] 1 [1,3])
 (.block 0
 (.loop
 (.seq (.seq (.region [RM 0 26 3,
 rq 1 27 (.bin .lss (.tm 26) (ki 3))] 2 [1,3,27])
 (.cond (.tm 27)
 .skip
 (.exit 0)))
 (.seq (.block 1
 (.seq (.region [RF 0 30 2 1,
 RL 1 31 30,
 RM 2 32 3,
 rq 3 33 (.idx 1 (.tm 31) (.tm 32)),
 RL 4 34 33,
 rq 5 35 (.len false (.tm 34)),
 rq 6 36 (.bin .gtr (.tm 35) (ki 12)),
 RM 7 37 36,
 GQ 8 38 (.fld 2 (.tm 1)) 37 false,
 GQ 9 39 (.load 1 false (.tm 38)) 37 false,
 GQ 10 40 (.move (.tm 3)) 37 false,
 GQ 11 41 (.idx 1 (.tm 39) (.tm 40)) 37 false,
 GQ 12 42 (.load 1 false (.tm 41)) 37 false,
 GQ 13 43 (.call aI2 [(.tm 42)]) 37 false,
 GQ 14 44 (.un .not (.tm 43)) 37 false,
 rq 15 45 (.pick (.tm 37) (.kv (.bool true)) (.tm 44))] 16 [1,3,45])
 (.cond (.tm 45)
 (.seq (.region [rq 0 2 (.move (.kv (.bool false)))] 1 [2])
 .ret)
 .skip)))
 (.region [RM 0 28 3,
 rq 1 29 (.bin .add (.tm 28) (ki 1)),
 RM 2 3 29] 3 [1,3]))))))
 (.seq (.region [rq 0 2 (.move (.kv (.bool true)))] 1 [2])
 .ret))))
def aLZ:List Cert:=[⟨[],[1]⟩,⟨[],[1,25]⟩,⟨[],[2]⟩,⟨[],[1,3]⟩,⟨[],[1,3,27]⟩,⟨[],[1,3,45]⟩,⟨[],[2]⟩,⟨[],[1,3]⟩,⟨[],[2]⟩]
def aKB:List aW:=[.tm 2]
theorem aL8:aO Tryz.prog Tryz.f99 aLZ=some (aJQ,aKB):=by kernel_rfl
theorem aLX:aN Tryz.prog aIV Tryz.f99 aJQ aKB:=
 aN.mk Tryz.func99 (by kernel_rfl) aL8
def aJM:AC:=
 (.seq (.region [rq 0 1 (.box true (.tm 0)),
 rq 1 2 (.move (.kv (.bool false)))] 2 [1])
 (.seq (.region [RF 0 3 0 1,
 rq 1 4 (.load 1 true (.tm 3)),
 rq 2 5 (.call aI7 [(.tm 4)]),
 RM 3 6 5,
 GQ 4 7 (.fld 1 (.tm 1)) 6 true,
 GQ 5 8 (.load 1 false (.tm 7)) 6 true,
 GQ 6 9 (.len false (.tm 8)) 6 true,
 GQ 7 10 (.bin .eql (.tm 9) (ki 6)) 6 true,
 rq 8 11 (.pick (.tm 6) (.tm 10) (.kv (.bool false))),
 RM 9 12 11,
 GQ 10 13 (.fld 1 (.tm 1)) 12 true,
 GQ 11 14 (.load 1 false (.tm 13)) 12 true,
 GQ 12 15 (.call aA3 [(.tm 14),(.kv (.int .i64 (-1))),(ki 63)]) 12 true,
 rq 13 16 (.pick (.tm 12) (.tm 15) (.kv (.bool false))),
 RM 14 2 16] 15 [2])
 .ret))
def aLN:List Cert:=[⟨[],[1]⟩,⟨[],[2]⟩]
def aJ7:List aW:=[.tm 2]
theorem aL9:aO Tryz.prog Tryz.f100 aLN=some (aJM,aJ7):=by kernel_rfl
theorem aLR:aN Tryz.prog aIU Tryz.f100 aJM aJ7:=
 aN.mk Tryz.func100 (by kernel_rfl) aL9
def aBO:AC:=
 (.seq (.region [rq 0 2 (.move (.kv (.bool false)))] 1 [0])
 (.seq (.seq (.region [RM 0 6 0,
 rq 1 7 (.len false (.tm 6)),
 rq 2 8 (.bin .gtr (.tm 7) (ki 4))] 3 [0,8])
 (.cond (.tm 8)
 (.seq (.region [rq 0 2 (.move (.kv (.bool false)))] 1 [2])
 .ret)
 .skip))
 (.seq (.seq (.region [rq 0 3 (.move (ki 0))] 1 [0,3])
 (.block 0
 (.loop
 (.seq (.seq (.region [RM 0 9 3,
 RM 1 10 0,
 rq 2 11 (.len false (.tm 10)),
 rq 3 12 (.bin .lss (.tm 9) (.tm 11))] 4 [0,3,12])
 (.cond (.tm 12)
 .skip
 (.exit 0)))
 (.seq (.block 1
 (.seq (.region [RM 0 15 0,
 RM 1 16 3,
 rq 2 17 (.idx 4 (.tm 15) (.tm 16)),
 rq 3 18 (.load 4 true (.tm 17)),
 rq 4 4 (.alloc [VZ,VZ,VZ,(.v (.bool false))]),
 rn 5 (.store 4 true (.tm 4) (.tm 18))] 6 [0,3,4])
 (.seq (.seq (.region [RF 0 19 0 4,
 RL 1 20 19,
 RF 2 21 1 4,
 RL 3 22 21,
 rq 4 23 (.call y2 [(.tm 20),(ki 0),(.tm 22)]),
 rq 5 24 (.un .not (.tm 23)),
 RM 6 25 24,
 GQ 7 26 (.fld 1 (.tm 4)) 25 false,
 GQ 8 27 (.load 1 false (.tm 26)) 25 false,
 GQ 9 28 (.bin .gtr (.tm 27) (ki 63)) 25 false,
 rq 10 29 (.pick (.tm 25) (.kv (.bool true)) (.tm 28)),
 RM 11 30 29,
 GQ 12 31 (.fld 2 (.tm 4)) 30 false,
 GQ 13 32 (.load 1 false (.tm 31)) 30 false,
 GQ 14 33 (.call y2 [(.tm 32),(ki 0),(ki 2)]) 30 false,
 GQ 15 34 (.un .not (.tm 33)) 30 false,
 rq 16 35 (.pick (.tm 30) (.kv (.bool true)) (.tm 34))] 17 [0,3,4,35])
 (.cond (.tm 35)
 (.seq (.region [rq 0 2 (.move (.kv (.bool false)))] 1 [2])
 .ret)
 .skip))
 (.seq (.region [rq 0 5 (.move (ki 0))] 1 [0,3,4,5])
 (.block 2
 (.loop
 (.seq (.seq (.region [RM 0 36 5,
 RM 1 37 3,
 rq 2 38 (.bin .lss (.tm 36) (.tm 37))] 3 [0,3,4,5,38])
 (.cond (.tm 38)
 .skip
 (.exit 2)))
 (.seq (.block 3
 (.seq (.region [RF 0 41 0 4,
 RL 1 42 41,
 RM 2 43 0,
 RM 3 44 5,
 rq 4 45 (.idx 4 (.tm 43) (.tm 44)),
 RF 5 46 1 45,
 RL 6 47 46,
 rq 7 48 (.bin .leq (.tm 42) (.tm 47)),
 RM 8 49 48,
 GQ 9 50 (.move (.tm 0)) 49 true,
 GQ 10 51 (.move (.tm 5)) 49 true,
 GQ 11 52 (.idx 4 (.tm 50) (.tm 51)) 49 true,
 GQ 12 53 (.fld 0 (.tm 52)) 49 true,
 GQ 13 54 (.load 1 false (.tm 53)) 49 true,
 GQ 14 55 (.fld 1 (.tm 4)) 49 true,
 GQ 15 56 (.load 1 false (.tm 55)) 49 true,
 GQ 16 57 (.bin .leq (.tm 54) (.tm 56)) 49 true,
 rq 17 58 (.pick (.tm 49) (.tm 57) (.kv (.bool false)))] 18 [0,3,4,5,58])
 (.cond (.tm 58)
 (.seq (.region [rq 0 2 (.move (.kv (.bool false)))] 1 [2])
 .ret)
 .skip)))
 (.region [RM 0 39 5,
 rq 1 40 (.bin .add (.tm 39) (ki 1)),
 RM 2 5 40] 3 [0,3,4,5])))))))))
 (.region [RM 0 13 3,
 rq 1 14 (.bin .add (.tm 13) (ki 1)),
 RM 2 3 14] 3 [0,3]))))))
 (.seq (.region [rq 0 2 (.move (.kv (.bool true)))] 1 [2])
 .ret))))
def aDQ:List Cert:=[⟨[],[0]⟩,⟨[],[0,8]⟩,⟨[],[2]⟩,⟨[],[0,3]⟩,⟨[],[0,3,12]⟩,⟨[],[0,3,4]⟩,⟨[],[0,3,4,35]⟩,⟨[],[2]⟩,⟨[],[0,3,4,5]⟩,⟨[],[0,3,4,5,38]⟩,⟨[cz 0,cz 1,cz 2,cz 3,cz 4,cz 5,cz 6,cz 7,cz 8,cz 9,cz 10,cz 11,cz 12,cz 13,cz 14,cz 15,cz 16,cz 17],[0,3,4,5,58]⟩,⟨[],[2]⟩,⟨[],[0,3,4,5]⟩,⟨[],[0,3]⟩,⟨[],[2]⟩]
def aB3:List aW:=[.tm 2]
theorem aDZ:aO Tryz.prog Tryz.f181 aDQ=some (aBO,aB3):=by kernel_rfl
theorem aDM:aN Tryz.prog aBG Tryz.f181 aBO aB3:=
 aN.mk Tryz.func181 (by kernel_rfl) aDZ
def aBP:AC:=
 (.seq (.region [rq 0 6 (.move (.kv (.bool false)))] 1 [0,1,2])
 (.seq (.seq (.region [rq 0 7 (.move (ki 0))] 1 [0,1,2,7])
 (.block 0
 (.loop
 (.seq (.seq (.region [RM 0 8 7,
 RM 1 9 0,
 rq 2 10 (.len false (.tm 9)),
 rq 3 11 (.bin .lss (.tm 8) (.tm 10))] 4 [0,1,2,7,11])
 (.cond (.tm 11)
 .skip
 (.exit 0)))
 (.seq (.block 1
 (.seq (.region [RM 0 14 0,
 RM 1 15 7,
 rq 2 16 (.idx 1 (.tm 14) (.tm 15)),
 RL 3 17 16,
 RM 4 18 1,
 RM 5 19 2,
 rq 6 20 (.call y2 [(.tm 17),(.tm 18),(.tm 19)]),
 rq 7 21 (.un .not (.tm 20))] 8 [0,1,2,7,21])
 (.cond (.tm 21)
 (.seq (.region [rq 0 6 (.move (.kv (.bool false)))] 1 [6])
 .ret)
 .skip)))
 (.region [RM 0 12 7,
 rq 1 13 (.bin .add (.tm 12) (ki 1)),
 RM 2 7 13] 3 [0,1,2,7]))))))
 (.seq (.region [rq 0 6 (.move (.kv (.bool true)))] 1 [6])
 .ret)))
def aDP:List Cert:=[⟨[],[0,1,2]⟩,⟨[],[0,1,2,7]⟩,⟨[],[0,1,2,7,11]⟩,⟨[],[0,1,2,7,21]⟩,⟨[],[6]⟩,⟨[],[0,1,2,7]⟩,⟨[],[6]⟩]
def aB1:List aW:=[.tm 6]
theorem aDO:aO Tryz.prog Tryz.f182 aDP=some (aBP,aB1):=by kernel_rfl
theorem aDN:aN Tryz.prog aA3 Tryz.f182 aBP aB1:=
 aN.mk Tryz.func182 (by kernel_rfl) aDO
def aJC:AC:=
 (.seq (.region [rq 0 2 (.move (.kv (.bool false)))] 1 [0])
 (.seq (.seq (.region [rq 0 3 (.move (ki 0))] 1 [0,3])
 (.block 0
 (.loop
 (.seq (.seq (.region [RM 0 4 3,
 RM 1 5 0,
 rq 2 6 (.len false (.tm 5)),
 rq 3 7 (.bin .lss (.tm 4) (.tm 6))] 4 [0,3,7])
 (.cond (.tm 7)
 .skip
 (.exit 0)))
 (.seq (.block 1
 (.seq (.region [RM 0 10 0,
 RM 1 11 3,
 rq 2 12 (.idx 7 (.tm 10) (.tm 11)),
 rq 3 13 (.load 7 true (.tm 12)),
 rq 4 14 (.call aBF [(.tm 13)]),
 rq 5 15 (.un .not (.tm 14))] 6 [0,3,15])
 (.cond (.tm 15)
 (.seq (.region [rq 0 2 (.move (.kv (.bool false)))] 1 [2])
 .ret)
 .skip)))
 (.region [RM 0 8 3,
 rq 1 9 (.bin .add (.tm 8) (ki 1)),
 RM 2 3 9] 3 [0,3]))))))
 (.seq (.region [rq 0 2 (.move (.kv (.bool true)))] 1 [2])
 .ret)))
def aKU:List Cert:=[⟨[],[0]⟩,⟨[],[0,3]⟩,⟨[],[0,3,7]⟩,⟨[],[0,3,15]⟩,⟨[],[2]⟩,⟨[],[0,3]⟩,⟨[],[2]⟩]
def aJ0:List aW:=[.tm 2]
theorem aK5:aO Tryz.prog Tryz.f183 aKU=some (aJC,aJ0):=by kernel_rfl
theorem aLI:aN Tryz.prog aI2 Tryz.f183 aJC aJ0:=
 aN.mk Tryz.func183 (by kernel_rfl) aK5
def aJK:AC:=
 (.seq (.region [rq 0 1 (.box true (.tm 0)),
 rq 1 2 (.move (.kv (.bool false)))] 2 [1])
 (.seq (.seq (.region [RF 0 4 0 1,
 RL 1 5 4,
 rq 2 6 (.len false (.tm 5)),
 rq 3 7 (.bin .neq (.tm 6) (ki 64))] 4 [1,7])
 (.cond (.tm 7)
 (.seq (.region [rq 0 2 (.move (.kv (.bool false)))] 1 [2])
 .ret)
 .skip))
 (.seq (.seq (.region [rq 0 3 (.move (ki 0))] 1 [1,3])
 (.block 0
 (.loop
 (.seq (.seq (.region [RM 0 8 3,
 RF 1 9 0 1,
 RL 2 10 9,
 rq 3 11 (.len false (.tm 10)),
 rq 4 12 (.bin .lss (.tm 8) (.tm 11))] 5 [1,3,12])
 (.cond (.tm 12)
 .skip
 (.exit 0)))
 (.seq (.block 1
 (.seq (.region [RF 0 15 0 1,
 RL 1 16 15,
 RM 2 17 3,
 rq 3 18 (.idx 1 (.tm 16) (.tm 17)),
 RL 4 19 18,
 rq 5 20 (.call y2 [(.tm 19),(ki 0),(ki 65535)]),
 rq 6 21 (.un .not (.tm 20))] 7 [1,3,21])
 (.cond (.tm 21)
 (.seq (.region [rq 0 2 (.move (.kv (.bool false)))] 1 [2])
 .ret)
 .skip)))
 (.region [RM 0 13 3,
 rq 1 14 (.bin .add (.tm 13) (ki 1)),
 RM 2 3 14] 3 [1,3]))))))
 (.seq (.region [rq 0 2 (.move (.kv (.bool true)))] 1 [2])
 .ret))))
def aMK:List Cert:=[⟨[],[1]⟩,⟨[],[1,7]⟩,⟨[],[2]⟩,⟨[],[1,3]⟩,⟨[],[1,3,12]⟩,⟨[],[1,3,21]⟩,⟨[],[2]⟩,⟨[],[1,3]⟩,⟨[],[2]⟩]
def aJ8:List aW:=[.tm 2]
theorem aLU:aO Tryz.prog Tryz.f184 aMK=some (aJK,aJ8):=by kernel_rfl
theorem aMO:aN Tryz.prog aI7 Tryz.f184 aJK aJ8:=
 aN.mk Tryz.func184 (by kernel_rfl) aLU
def aJL:AC:=
 (.seq (.region [rq 0 1 (.box true (.tm 0)),
 rq 1 2 (.move (.kv (.bool false)))] 2 [1])
 (.seq (.region [RF 0 3 0 1,
 RL 1 4 3,
 rq 2 5 (.call y2 [(.tm 4),(ki 0),(ki 1)]),
 RM 3 6 5,
 GQ 4 7 (.fld 1 (.tm 1)) 6 true,
 GQ 5 8 (.load 1 false (.tm 7)) 6 true,
 GQ 6 9 (.call y2 [(.tm 8),(ki 1),(ki 4)]) 6 true,
 rq 7 10 (.pick (.tm 6) (.tm 9) (.kv (.bool false))),
 RM 8 11 10,
 GQ 9 12 (.fld 2 (.tm 1)) 11 true,
 GQ 10 13 (.load 1 false (.tm 12)) 11 true,
 GQ 11 14 (.len false (.tm 13)) 11 true,
 GQ 12 15 (.bin .leq (.tm 14) (ki 4)) 11 true,
 rq 13 16 (.pick (.tm 11) (.tm 15) (.kv (.bool false))),
 RM 14 17 16,
 GQ 15 18 (.fld 2 (.tm 1)) 17 true,
 GQ 16 19 (.load 1 false (.tm 18)) 17 true,
 GQ 17 20 (.call aA3 [(.tm 19),(ki 0),(ki 65535)]) 17 true,
 rq 18 21 (.pick (.tm 17) (.tm 20) (.kv (.bool false))),
 RM 19 2 21] 20 [2])
 .ret))
def aL3:List Cert:=[⟨[],[1]⟩,⟨[],[2]⟩]
def aJ6:List aW:=[.tm 2]
theorem aLS:aO Tryz.prog Tryz.f187 aL3=some (aJL,aJ6):=by kernel_rfl
theorem aMN:aN Tryz.prog aIP Tryz.f187 aJL aJ6:=
 aN.mk Tryz.func187 (by kernel_rfl) aLS
def aBM:AC:=
 (.seq (.region [rq 0 1 (.box true (.tm 0)),
 rq 1 2 (.move (.kv (.bool false)))] 2 [1])
 (.seq (.seq (.region [RF 0 3 0 1,
 RL 1 4 3,
 rq 2 5 (.call y2 [(.tm 4),(ki 0),(ki 1)]),
 rq 3 6 (.un .not (.tm 5)),
 RM 4 7 6,
 GQ 5 8 (.fld 1 (.tm 1)) 7 false,
 GQ 6 9 (.load 1 false (.tm 8)) 7 false,
 GQ 7 10 (.call y2 [(.tm 9),(ki 1),(ki 4)]) 7 false,
 GQ 8 11 (.un .not (.tm 10)) 7 false,
 rq 9 12 (.pick (.tm 7) (.kv (.bool true)) (.tm 11)),
 RM 10 13 12,
 GQ 11 14 (.fld 2 (.tm 1)) 13 false,
 GQ 12 15 (.load 1 false (.tm 14)) 13 false,
 GQ 13 16 (.fld 3 (.tm 1)) 13 false,
 GQ 14 17 (.load 1 false (.tm 16)) 13 false,
 GQ 15 18 (.fld 4 (.tm 1)) 13 false,
 GQ 16 19 (.load 1 false (.tm 18)) 13 false,
 GQ 17 20 (.call aA6 [(.tm 15),(.tm 17),(.tm 19)]) 13 false,
 GQ 18 21 (.un .not (.tm 20)) 13 false,
 rq 19 22 (.pick (.tm 13) (.kv (.bool true)) (.tm 21))] 20 [1,22])
 (.cond (.tm 22)
 (.seq (.region [rq 0 2 (.move (.kv (.bool false)))] 1 [2])
 .ret)
 .skip))
 (.seq (.seq (.region [RF 0 23 1 1,
 RL 1 24 23,
 rq 2 25 (.bin .geq (.tm 24) (ki 3)),
 RM 3 26 25,
 GQ 4 27 (.fld 3 (.tm 1)) 26 true,
 GQ 5 28 (.load 1 false (.tm 27)) 26 true,
 GQ 6 29 (.bin .neq (.tm 28) (ki 1)) 26 true,
 rq 7 30 (.pick (.tm 26) (.tm 29) (.kv (.bool false)))] 8 [1,30])
 (.cond (.tm 30)
 (.seq (.region [rq 0 2 (.move (.kv (.bool false)))] 1 [2])
 .ret)
 .skip))
 (.seq (.seq (.region [rq 0 31 (.load 7 true (.tm 1)),
 rq 1 32 (.call aAZ [(.tm 31)]),
 rq 2 33 (.un .not (.tm 32))] 3 [1,33])
 (.cond (.tm 33)
 (.seq (.region [RF 0 34 5 1,
 RL 1 35 34,
 rq 2 36 (.len false (.tm 35)),
 rq 3 37 (.bin .eql (.tm 36) (ki 0)),
 RM 4 38 37,
 GQ 5 39 (.fld 6 (.tm 1)) 38 true,
 GQ 6 40 (.load 1 false (.tm 39)) 38 true,
 GQ 7 41 (.len false (.tm 40)) 38 true,
 GQ 8 42 (.bin .eql (.tm 41) (ki 0)) 38 true,
 rq 9 43 (.pick (.tm 38) (.tm 42) (.kv (.bool false))),
 RM 10 2 43] 11 [2])
 .ret)
 .skip))
 (.seq (.region [RF 0 44 5 1,
 RL 1 45 44,
 rq 2 46 (.len false (.tm 45)),
 RF 3 47 3 1,
 RL 4 48 47,
 rq 5 49 (.bin .eql (.tm 46) (.tm 48)),
 RM 6 50 49,
 GQ 7 51 (.fld 6 (.tm 1)) 50 true,
 GQ 8 52 (.load 1 false (.tm 51)) 50 true,
 GQ 9 53 (.len false (.tm 52)) 50 true,
 GQ 10 54 (.fld 3 (.tm 1)) 50 true,
 GQ 11 55 (.load 1 false (.tm 54)) 50 true,
 GQ 12 56 (.bin .eql (.tm 53) (.tm 55)) 50 true,
 rq 13 57 (.pick (.tm 50) (.tm 56) (.kv (.bool false))),
 RM 14 58 57,
 GQ 15 59 (.fld 5 (.tm 1)) 58 true,
 GQ 16 60 (.load 1 false (.tm 59)) 58 true,
 GQ 17 61 (.call aA3 [(.tm 60),(ki 0),(ki 65535)]) 58 true,
 rq 18 62 (.pick (.tm 58) (.tm 61) (.kv (.bool false))),
 RM 19 63 62,
 GQ 20 64 (.fld 6 (.tm 1)) 63 true,
 GQ 21 65 (.load 1 false (.tm 64)) 63 true,
 GQ 22 66 (.call aA3 [(.tm 65),(ki 0),(ki 3)]) 63 true,
 rq 23 67 (.pick (.tm 63) (.tm 66) (.kv (.bool false))),
 RM 24 2 67] 25 [2])
 .ret)))))
def aDV:List Cert:=[⟨[],[1]⟩,⟨[],[1,22]⟩,⟨[],[2]⟩,⟨[],[1,30]⟩,⟨[],[2]⟩,⟨[],[1,33]⟩,⟨[],[2]⟩,⟨[],[2]⟩]
def aB4:List aW:=[.tm 2]
theorem aDY:aO Tryz.prog Tryz.f262 aDV=some (aBM,aB4):=by kernel_rfl
theorem aDW:aN Tryz.prog aBF Tryz.f262 aBM aB4:=
 aN.mk Tryz.func262 (by kernel_rfl) aDY
end Go.Proofs.YtmccpdapaccnoaaGreat
end
section
namespace Go.Proofs.YtmccpdapaccnoaaGreat
open Go Go.AM
set_option maxRecDepth 100000
def aJB:AC:=
 (.seq (.region [rq 0 1 (.box true (.tm 0)),
 rq 1 2 (.alloc [OZ,OZ,OZ,OZ,OZ,OZ])] 2 [1,2])
 (.seq (.region [RF 0 3 0 1,
 ⟨1,(some 4),.load 2 true (.tm 3),none,[3],[],false⟩,
 rq 3 6 (.bC 1 0 [VZ] []),
 RF 4 7 2 1,
 ⟨5,(some 8),.load 1 false (.tm 7),none,[3],[],true⟩,
 RF 7 10 3 1,
 ⟨8,(some 11),.load 1 false (.tm 10),none,[3],[],true⟩,
 RF 10 13 4 1,
 ⟨11,(some 14),.load 1 false (.tm 13),none,[3],[],true⟩,
 RF 13 16 5 1,
 ⟨14,(some 17),.load 1 false (.tm 16),none,[3],[],true⟩,
 ⟨2,(some 5),.call aIR [(.tm 4)],none,[3],[5,8,11,14],false⟩,
 ⟨6,(some 9),.append 1 (.tm 6) (.tm 8),none,[],[8,11,14],false⟩,
 ⟨9,(some 12),.call aIM [(.tm 11)],none,[],[11,14],false⟩,
 ⟨12,(some 15),.call aIM [(.tm 14)],none,[],[14],false⟩,
 rq 15 18 (.call aIM [(.tm 17)]),
 rq 16 19 (.build [OZ,OZ,OZ,OZ,OZ,OZ] [(0,2,(.tm 5)),(2,1,(.tm 9)),(3,1,(.tm 12)),(4,1,(.tm 15)),(5,1,(.tm 18))]),
 rn 17 (.store 6 true (.tm 2) (.tm 19))] 18 [2])
 .ret))
def aLE:List Cert:=[⟨[],[1,2]⟩,⟨[cz 0,(1,[3],[],false),cz 3,cz 4,(5,[3],[],true),cz 7,(8,[3],[],true),cz 10,(11,[3],[],true),cz 13,(14,[3],[],true),(2,[3],[5,8,11,14],false),(6,[],[8,11,14],false),(9,[],[11,14],false),(12,[],[14],false),cz 15,cz 16,cz 17],[2]⟩]
def aJW:List aW:=[.cell 2 6 true]
theorem aLD:aO Tryz.prog Tryz.f74 aLE=some (aJB,aJW):=by kernel_rfl
def kD:AC:=
 (.seq (.region [rq 0 1 (.box true (.tm 0)),
 rq 1 2 (.alloc [OZ,OZ,OZ,OZ,OZ,OZ])] 2 [1,2])
 (.seq (.region [RF 0 3 0 1,
 rq 1 4 (.load 2 true (.tm 3)),
 RF 3 6 2 1,
 ⟨4,(some 7),.load 1 false (.tm 6),none,[],[],true⟩,
 RF 6 9 3 1,
 ⟨7,(some 10),.load 1 false (.tm 9),none,[],[],true⟩,
 RF 9 12 4 1,
 ⟨10,(some 13),.load 1 false (.tm 12),none,[],[],true⟩,
 RF 12 15 5 1,
 ⟨13,(some 16),.load 1 false (.tm 15),none,[],[],true⟩,
 ⟨2,(some 5),.call fL [(.tm 4)],none,[],[4,7,10,13],false⟩,
 ⟨5,(some 8),.call eX [(.tm 7)],none,[],[7,10,13],false⟩,
 ⟨8,(some 11),.call eO [(.tm 10)],none,[],[10,13],false⟩,
 ⟨11,(some 14),.call eO [(.tm 13)],none,[],[13],false⟩,
 rq 14 17 (.call eO [(.tm 16)]),
 rq 15 18 (.build [OZ,OZ,OZ,OZ,OZ,OZ] [(0,2,(.tm 5)),(2,1,(.tm 8)),(3,1,(.tm 11)),(4,1,(.tm 14)),(5,1,(.tm 17))]),
 rn 16 (.store 6 true (.tm 2) (.tm 18))] 17 [2])
 .ret))
def BO:List Cert:=[⟨[],[1,2]⟩,⟨[cz 0,cz 1,cz 3,(4,[],[],true),cz 6,(7,[],[],true),cz 9,(10,[],[],true),cz 12,(13,[],[],true),(2,[],[4,7,10,13],false),(5,[],[7,10,13],false),(8,[],[10,13],false),(11,[],[13],false),cz 14,cz 15,cz 16],[2]⟩]
def pT:List aW:=[.cell 2 6 true]
theorem A3:aO Tryz.prog Tryz.f80 BO=some (kD,pT):=by kernel_rfl
theorem AY:aN Tryz.prog iG Tryz.f80 kD pT:=
 aN.mk Tryz.func80 (by kernel_rfl) A3
def z4:AC:=
 (.seq (.region [rq 0 1 (.box true (.tm 0)),
 rq 1 2 (.move (.kv (.bool false)))] 2 [1])
 (.seq (.region [RF 0 3 0 1,
 RL 1 4 3,
 rq 2 5 (.call wR [(.tm 4)]),
 RM 3 6 5,
 GQ 4 7 (.fld 1 (.tm 1)) 6 true,
 GQ 5 8 (.load 1 false (.tm 7)) 6 true,
 GQ 6 9 (.len false (.tm 8)) 6 true,
 GQ 7 10 (.bin .eql (.tm 9) (ki 4)) 6 true,
 rq 8 11 (.pick (.tm 6) (.tm 10) (.kv (.bool false))),
 RM 9 12 11,
 GQ 10 13 (.fld 1 (.tm 1)) 12 true,
 GQ 11 14 (.load 1 false (.tm 13)) 12 true,
 GQ 12 15 (.call bN [(.tm 14),(.fn qK)]) 12 true,
 GQ 13 16 (.un .not (.tm 15)) 12 true,
 rq 14 17 (.pick (.tm 12) (.tm 16) (.kv (.bool false))),
 RM 15 18 17,
 GQ 16 19 (.fld 2 (.tm 1)) 18 true,
 GQ 17 20 (.load 1 false (.tm 19)) 18 true,
 GQ 18 21 (.len false (.tm 20)) 18 true,
 GQ 19 22 (.bin .eql (.tm 21) (ki 3)) 18 true,
 rq 20 23 (.pick (.tm 18) (.tm 22) (.kv (.bool false))),
 RM 21 24 23,
 GQ 22 25 (.fld 2 (.tm 1)) 24 true,
 GQ 23 26 (.load 1 false (.tm 25)) 24 true,
 GQ 24 27 (.call cF [(.tm 26),(.fn rR)]) 24 true,
 GQ 25 28 (.un .not (.tm 27)) 24 true,
 rq 26 29 (.pick (.tm 24) (.tm 28) (.kv (.bool false))),
 RM 27 2 29] 28 [2])
 .ret))
def UE:List Cert:=[⟨[],[1]⟩,⟨[],[2]⟩]
def H7:List aW:=[.tm 2]
theorem T6:aO Tryz.prog Tryz.f106 UE=some (z4,H7):=by kernel_rfl
theorem T9:aN Tryz.prog wF Tryz.f106 z4 H7:=
 aN.mk Tryz.func106 (by kernel_rfl) T6
def z3:AC:=
 (.seq (.region [rq 0 1 (.box true (.tm 0)),
 rq 1 2 (.move (.kv (.bool false)))] 2 [1])
 (.seq (.region [RF 0 3 0 1,
 rq 1 4 (.load 1 true (.tm 3)),
 rq 2 5 (.call wP [(.tm 4)]),
 RM 3 6 5,
 GQ 4 7 (.fld 1 (.tm 1)) 6 true,
 GQ 5 8 (.load 1 false (.tm 7)) 6 true,
 GQ 6 9 (.len false (.tm 8)) 6 true,
 GQ 7 10 (.bin .eql (.tm 9) (ki 6)) 6 true,
 rq 8 11 (.pick (.tm 6) (.tm 10) (.kv (.bool false))),
 RM 9 12 11,
 GQ 10 13 (.fld 1 (.tm 1)) 12 true,
 GQ 11 14 (.load 1 false (.tm 13)) 12 true,
 GQ 12 15 (.call bN [(.tm 14),(.fn rC)]) 12 true,
 GQ 13 16 (.un .not (.tm 15)) 12 true,
 rq 14 17 (.pick (.tm 12) (.tm 16) (.kv (.bool false))),
 RM 15 2 17] 16 [2])
 .ret))
def TN:List Cert:=[⟨[],[1]⟩,⟨[],[2]⟩]
def H9:List aW:=[.tm 2]
theorem U4:aO Tryz.prog Tryz.f107 TN=some (z3,H9):=by kernel_rfl
theorem UK:aN Tryz.prog rG Tryz.f107 z3 H9:=
 aN.mk Tryz.func107 (by kernel_rfl) U4
def mC:AC:=
 (.seq (.region [rq 0 2 (.box true (.tm 0)),
 rq 1 3 (.box true (.tm 1)),
 rq 2 4 (.move (.kv (.bool false)))] 3 [2,3])
 (.seq (.seq (.region [RF 0 13 0 3,
 rq 1 14 (.load 2 true (.tm 13)),
 rq 2 15 (.call rG [(.tm 14)]),
 rq 3 16 (.un .not (.tm 15)),
 RM 4 17 16,
 GQ 5 18 (.fld 2 (.tm 3)) 17 false,
 GQ 6 19 (.load 1 false (.tm 18)) 17 false,
 GQ 7 20 (.len false (.tm 19)) 17 false,
 GQ 8 21 (.bin .neq (.tm 20) (ki 3)) 17 false,
 rq 9 22 (.pick (.tm 17) (.kv (.bool true)) (.tm 21)),
 RM 10 23 22,
 GQ 11 24 (.fld 3 (.tm 3)) 23 false,
 GQ 12 25 (.load 1 false (.tm 24)) 23 false,
 GQ 13 26 (.call oI [(.tm 25)]) 23 false,
 GQ 14 27 (.un .not (.tm 26)) 23 false,
 rq 15 28 (.pick (.tm 23) (.kv (.bool true)) (.tm 27)),
 RM 16 29 28,
 GQ 17 30 (.fld 4 (.tm 3)) 29 false,
 GQ 18 31 (.load 1 false (.tm 30)) 29 false,
 GQ 19 32 (.call oI [(.tm 31)]) 29 false,
 GQ 20 33 (.un .not (.tm 32)) 29 false,
 rq 21 34 (.pick (.tm 29) (.kv (.bool true)) (.tm 33))] 22 [2,3,34])
 (.cond (.tm 34)
 (.seq (.region [rq 0 4 (.move (.kv (.bool false)))] 1 [4])
 .ret)
 .skip))
 (.seq (.region [rq 0 5 (.move (ki 0))] 1 [2,3,5])
 (.seq (.seq (.region [RF 0 35 2 3,
 RL 1 36 35,
 rq 2 37 (.len false (.tm 36)),
 rq 3 38 (.move (ki 0))] 4 [2,3,5,36,37,38])
 (.block 0
 (.loop
 (.seq (.region [rq 0 39 (.bin .lss (.tm 38) (.tm 37))] 1 [2,3,5,36,37,38,39])
 (.seq (.cond (.tm 39)
 .skip
 (.exit 0))
 (.seq (.block 1
 (.seq (.region [RM 0 40 38,
 rq 1 41 (.idx 1 (.tm 36) (.tm 38)),
 RL 2 42 41,
 RM 3 6 40,
 RM 4 7 42] 5 [2,3,5,6,7,36,37,38])
 (.seq (.seq (.region [RM 0 43 7,
 RF 1 44 2 2,
 RL 2 45 44,
 RM 3 46 6,
 rq 4 47 (.idx 1 (.tm 45) (.tm 46)),
 RL 5 48 47,
 rq 6 49 (.len false (.tm 48)),
 rq 7 50 (.call cQ [(.tm 43),(ki 0),(.tm 49)]),
 rq 8 51 (.un .not (.tm 50))] 9 [2,3,5,7,36,37,38,51])
 (.cond (.tm 51)
 (.seq (.region [rq 0 4 (.move (.kv (.bool false)))] 1 [4])
 .ret)
 .skip))
 (.region [RM 0 52 5,
 RM 1 53 7,
 rq 2 54 (.bin .add (.tm 52) (.tm 53)),
 RM 3 5 54] 4 [2,3,5,36,37,38]))))
 (.region [rq 0 55 (.bin .add (.tm 38) (ki 1)),
 RM 1 38 55] 2 [2,3,5,36,37,38])))))))
 (.seq (.region [rq 0 56 (.xop (.DS 2 true) []),
 RM 1 8 56] 2 [2,3,5,8])
 (.seq (.seq (.region [RF 0 57 3 3,
 RL 1 58 57,
 RF 2 59 4 3,
 RL 3 60 59,
 RF 4 61 5 3,
 RL 5 62 61,
 rq 6 63 (.bC 1 3 [OZ] [(0,1,(.tm 58)),(1,1,(.tm 60)),(2,1,(.tm 62))]),
 rq 7 64 (.len false (.tm 63)),
 rq 8 65 (.move (ki 0))] 9 [2,3,5,8,63,64,65])
 (.block 2
 (.loop
 (.seq (.region [rq 0 66 (.bin .lss (.tm 65) (.tm 64))] 1 [2,3,5,8,63,64,65,66])
 (.seq (.cond (.tm 66)
 .skip
 (.exit 2))
 (.seq (.block 3
 (.seq (.region [RM 0 67 65,
 rq 1 68 (.idx 1 (.tm 63) (.tm 65)),
 RL 2 69 68,
 RM 3 9 67,
 RM 4 10 69] 5 [2,3,5,8,9,10,63,64,65])
 (.seq (.region [RM 0 70 10,
 rq 1 71 (.len false (.tm 70)),
 rq 2 72 (.move (ki 0))] 3 [2,3,5,8,9,63,64,65,70,71,72])
 (.block 4
 (.loop
 (.seq (.region [rq 0 73 (.bin .lss (.tm 72) (.tm 71))] 1 [2,3,5,8,9,63,64,65,70,71,72,73])
 (.seq (.cond (.tm 73)
 .skip
 (.exit 4))
 (.seq (.block 5
 (.seq (.region [rq 0 74 (.idx 5 (.tm 70) (.tm 72)),
 rq 1 75 (.load 5 true (.tm 74)),
 rq 2 12 (.alloc [VZ,VZ,VZ,VZ,OZ]),
 rn 3 (.store 5 true (.tm 12) (.tm 75))] 4 [2,3,5,8,9,12,63,64,65,70,71,72])
 (.seq (.seq (.region [RF 0 76 0 12,
 RL 1 77 76,
 rq 2 78 (.call jA [(.tm 77)]),
 rq 3 79 (.un .not (.tm 78)),
 RM 4 80 79,
 GQ 5 81 (.fld 1 (.tm 12)) 80 false,
 GQ 6 82 (.load 1 false (.tm 81)) 80 false,
 GQ 7 83 (.fld 2 (.tm 3)) 80 false,
 GQ 8 84 (.load 1 false (.tm 83)) 80 false,
 GQ 9 85 (.fld 0 (.tm 12)) 80 false,
 GQ 10 86 (.load 1 false (.tm 85)) 80 false,
 GQ 11 87 (.idx 1 (.tm 84) (.tm 86)) 80 false,
 GQ 12 88 (.load 1 false (.tm 87)) 80 false,
 GQ 13 89 (.bin .sub (.tm 88) (ki 1)) 80 false,
 GQ 14 90 (.call cQ [(.tm 82),(ki 0),(.tm 89)]) 80 false,
 GQ 15 91 (.un .not (.tm 90)) 80 false,
 rq 16 92 (.pick (.tm 80) (.kv (.bool true)) (.tm 91)),
 RM 17 93 92,
 GQ 18 94 (.move (.tm 8)) 93 false,
 GQ 19 95 (.fld 0 (.tm 12)) 93 false,
 GQ 20 96 (.load 1 false (.tm 95)) 93 false,
 GQ 21 97 (.fld 1 (.tm 12)) 93 false,
 GQ 22 98 (.load 1 false (.tm 97)) 93 false,
 GQ 23 99 (.build [VZ,VZ] [(0,1,(.tm 96)),(1,1,(.tm 98))]) 93 false,
 GQ 24 100 (.xop (.rA 2 true false) [(.tm 94),(.tm 99)]) 93 false,
 rq 25 101 (.pick (.tm 93) (.kv (.bool true)) (.tm 100))] 26 [2,3,5,8,9,12,63,64,65,70,71,72,101])
 (.cond (.tm 101)
 (.seq (.region [rq 0 4 (.move (.kv (.bool false)))] 1 [4])
 .ret)
 .skip))
 (.seq (.region [RM 0 102 8,
 RF 1 103 0 12,
 RL 2 104 103,
 RF 3 105 1 12,
 RL 4 106 105,
 rq 5 107 (.build [VZ,VZ] [(0,1,(.tm 104)),(1,1,(.tm 106))]),
 rn 6 (.xop (.vM 2 true) [(.tm 102),(.tm 107),(.kv (.bool true))])] 7 [2,3,5,8,9,12,63,64,65,70,71,72])
 (.seq (.region [RM 0 108 9,
 rq 1 109 (.bin .eql (.tm 108) (ki 0)),
 RM 2 110 109,
 GQ 3 111 (.fld 2 (.tm 12)) 110 true,
 GQ 4 112 (.load 3 true (.tm 111)) 110 true,
 GQ 5 113 (.call iT [(.tm 112)]) 110 true,
 GQ 6 114 (.un .not (.tm 113)) 110 true,
 rq 7 115 (.pick (.tm 110) (.tm 114) (.kv (.bool false))),
 RM 8 116 115,
 GQ 9 117 (.move (.tm 9)) 116 false,
 GQ 10 118 (.bin .gtr (.tm 117) (ki 0)) 116 false,
 GQ 11 119 (.move (.tm 118)) 116 false,
 GQ 12 120 (.fld 2 (.tm 12)) 119 true,
 GQ 13 121 (.load 3 true (.tm 120)) 119 true,
 GQ 14 122 (.call m6 [(.tm 121)]) 119 true,
 GQ 15 123 (.un .not (.tm 122)) 119 true,
 GQ 16 124 (.move (.tm 123)) 119 true,
 GQ 17 125 (.fld 2 (.tm 12)) 124 false,
 GQ 18 126 (.fld 0 (.tm 125)) 124 false,
 ⟨19,(some 127),.load 1 false (.tm 126),(some (124,false)),[],[],true⟩,
 GQ 20 128 (.load 3 true (.tm 2)) 124 false,
 GQ 21 129 (.fld 0 (.tm 12)) 124 false,
 GQ 22 130 (.load 1 false (.tm 129)) 124 false,
 GQ 23 131 (.fld 1 (.tm 12)) 124 false,
 GQ 24 132 (.load 1 false (.tm 131)) 124 false,
 ⟨25,(some 133),.call fB [(.tm 128),(.tm 130),(.tm 132)],(some (124,false)),[],[19],false⟩,
 GQ 26 134 (.bin .neq (.tm 127) (.tm 133)) 124 false,
 GQ 27 135 (.pick (.tm 124) (.kv (.bool true)) (.tm 134)) 119 true,
 GQ 28 136 (.pick (.tm 119) (.tm 135) (.kv (.bool false))) 116 false,
 rq 29 137 (.pick (.tm 116) (.kv (.bool true)) (.tm 136))] 30 [2,3,5,8,9,63,64,65,70,71,72,137])
 (.cond (.tm 137)
 (.seq (.region [rq 0 4 (.move (.kv (.bool false)))] 1 [4])
 .ret)
 .skip))))))
 (.region [rq 0 138 (.bin .add (.tm 72) (ki 1)),
 RM 1 72 138] 2 [2,3,5,8,9,63,64,65,70,71,72])))))))))
 (.region [rq 0 139 (.bin .add (.tm 65) (ki 1)),
 RM 1 65 139] 2 [2,3,5,8,63,64,65])))))))
 (.seq (.region [RM 0 140 8,
 rq 1 141 (.xop .sS [(.tm 140)]),
 RM 2 142 5,
 rq 3 143 (.bin .eql (.tm 141) (.tm 142)),
 RM 4 4 143] 5 [4])
 .ret)))))))
def GR:List Cert:=[⟨[],[2,3]⟩,⟨[],[2,3,34]⟩,⟨[],[4]⟩,⟨[],[2,3,5]⟩,⟨[],[2,3,5,36,37,38]⟩,⟨[],[2,3,5,36,37,38,39]⟩,⟨[],[2,3,5,6,7,36,37,38]⟩,⟨[],[2,3,5,7,36,37,38,51]⟩,⟨[],[4]⟩,⟨[],[2,3,5,36,37,38]⟩,⟨[],[2,3,5,36,37,38]⟩,⟨[],[2,3,5,8]⟩,⟨[],[2,3,5,8,63,64,65]⟩,⟨[],[2,3,5,8,63,64,65,66]⟩,⟨[],[2,3,5,8,9,10,63,64,65]⟩,⟨[],[2,3,5,8,9,63,64,65,70,71,72]⟩,⟨[],[2,3,5,8,9,63,64,65,70,71,72,73]⟩,⟨[],[2,3,5,8,9,12,63,64,65,70,71,72]⟩,⟨[cz 0,cz 1,cz 2,cz 3,cz 4,cz 5,cz 6,cz 7,cz 8,cz 9,cz 10,cz 11,cz 12,cz 13,cz 14,cz 15,cz 16,cz 17,cz 18,cz 19,cz 20,cz 21,cz 22,cz 23,cz 24,cz 25],[2,3,5,8,9,12,63,64,65,70,71,72,101]⟩,⟨[],[4]⟩,⟨[],[2,3,5,8,9,12,63,64,65,70,71,72]⟩,⟨[cz 0,cz 1,cz 2,cz 3,cz 4,cz 5,cz 6,cz 7,cz 8,cz 9,cz 10,cz 11,cz 12,cz 13,cz 14,cz 15,cz 16,cz 17,cz 18,(19,[],[],true),cz 20,cz 21,cz 22,cz 23,cz 24,(25,[],[19],false),cz 26,cz 27,cz 28,cz 29],[2,3,5,8,9,63,64,65,70,71,72,137]⟩,⟨[],[4]⟩,⟨[],[2,3,5,8,9,63,64,65,70,71,72]⟩,⟨[],[2,3,5,8,63,64,65]⟩,⟨[],[4]⟩]
def uT:List aW:=[.tm 4]
theorem FR:aO Tryz.prog Tryz.f110 GR=some (mC,uT):=by kernel_rfl
theorem GV:aN Tryz.prog j9 Tryz.f110 mC uT:=
 aN.mk Tryz.func110 (by kernel_rfl) FR
def z5:AC:=
 (.seq (.region [rq 0 6 (.move (.kv (.bool false)))] 1 [0,1,2])
 (.seq (.region [RM 0 7 1,
 rq 1 8 (.bin .eql (.tm 7) (ki 1)),
 RM 2 9 8,
 GQ 3 10 (.move (.tm 1)) 9 false,
 GQ 4 11 (.bin .eql (.tm 10) (ki 2)) 9 false,
 rq 5 12 (.pick (.tm 9) (.kv (.bool true)) (.tm 11)),
 RM 6 13 12,
 GQ 7 14 (.move (.tm 1)) 13 false,
 GQ 8 15 (.bin .eql (.tm 14) (ki 4)) 13 false,
 rq 9 16 (.pick (.tm 13) (.kv (.bool true)) (.tm 15)),
 RM 10 17 16,
 GQ 11 18 (.move (.tm 0)) 17 true,
 GQ 12 19 (.call cQ [(.tm 18),(ki 0),(ki 63)]) 17 true,
 rq 13 20 (.pick (.tm 17) (.tm 19) (.kv (.bool false))),
 RM 14 21 20,
 GQ 15 22 (.move (.tm 2)) 21 true,
 GQ 16 23 (.move (.tm 22)) 21 true,
 GQ 17 24 (.move (.tm 0)) 23 false,
 GQ 18 25 (.move (.tm 1)) 23 false,
 GQ 19 26 (.bin .add (.tm 24) (.tm 25)) 23 false,
 GQ 20 27 (.bin .sub (.tm 26) (ki 1)) 23 false,
 GQ 21 28 (.bin .leq (.tm 27) (ki 63)) 23 false,
 GQ 22 29 (.pick (.tm 23) (.kv (.bool true)) (.tm 28)) 21 true,
 rq 23 30 (.pick (.tm 21) (.tm 29) (.kv (.bool false))),
 RM 24 6 30] 25 [6])
 .ret))
def TH:List Cert:=[⟨[],[0,1,2]⟩,⟨[],[6]⟩]
def IN:List aW:=[.tm 6]
theorem VH:aO Tryz.prog Tryz.f119 TH=some (z5,IN):=by kernel_rfl
theorem VQ:aN Tryz.prog nI Tryz.f119 z5 IN:=
 aN.mk Tryz.func119 (by kernel_rfl) VH
def nP:AC:=
 (.seq (.region [rq 0 2 (.box true (.tm 0)),
 rq 1 3 (.box true (.tm 1)),
 rq 2 4 (.move (ki 0))] 3 [2,3])
 (.seq (.region [RF 0 5 0 2,
 RL 1 6 5,
 RF 2 7 0 3,
 RL 3 8 7,
 RF 5 10 1 2,
 ⟨6,(some 11),.load 1 false (.tm 10),none,[10],[],true⟩,
 RF 7 12 1 3,
 ⟨8,(some 13),.load 1 false (.tm 12),none,[10],[],true⟩,
 ⟨4,(some 9),.call jC [(.tm 6),(.tm 8)],none,[],[6,8],false⟩,
 rq 9 14 (.call jC [(.tm 11),(.tm 13)]),
 rq 10 15 (.bC 1 2 [VZ] [(0,1,(.tm 9)),(1,1,(.tm 14))]),
 rq 11 16 (.call wC [(.tm 15)]),
 RM 12 4 16] 13 [4])
 .ret))
def HO:List Cert:=[⟨[],[2,3]⟩,⟨[cz 0,cz 1,cz 2,cz 3,cz 5,(6,[10],[],true),cz 7,(8,[10],[],true),(4,[],[6,8],false),cz 9,cz 10,cz 11,cz 12],[4]⟩]
def vV:List aW:=[.tm 4]
theorem HE:aO Tryz.prog Tryz.f125 HO=some (nP,vV):=by kernel_rfl
theorem HI:aN Tryz.prog bJ Tryz.f125 nP vV:=
 aN.mk Tryz.func125 (by kernel_rfl) HE
def zQ:AC:=
 (.seq (.region [rq 0 2 (.move (.kv (.bool false)))] 1 [0])
 (.seq (.seq (.region [RM 0 5 0,
 rq 1 6 (.len false (.tm 5)),
 rq 2 7 (.move (ki 0))] 3 [0,5,6,7])
 (.block 0
 (.loop
 (.seq (.region [rq 0 8 (.bin .lss (.tm 7) (.tm 6))] 1 [0,5,6,7,8])
 (.seq (.cond (.tm 8)
 .skip
 (.exit 0))
 (.seq (.block 1
 (.seq (.region [RM 0 9 7,
 rq 1 10 (.idx 4 (.tm 5) (.tm 7)),
 rq 2 11 (.load 4 true (.tm 10)),
 rq 3 4 (.alloc [VZ,VZ,VZ,(.v (.bool false))]),
 RM 4 3 9,
 rn 5 (.store 4 true (.tm 4) (.tm 11))] 6 [0,3,4,5,6,7])
 (.seq (.region [RF 0 12 0 4,
 RL 1 13 12,
 rq 2 14 (.call cQ [(.tm 13),(ki 0),(ki 63)]),
 rq 3 15 (.un .not (.tm 14)),
 RM 4 16 15,
 GQ 5 17 (.fld 1 (.tm 4)) 16 false,
 GQ 6 18 (.load 1 false (.tm 17)) 16 false,
 GQ 7 19 (.fld 0 (.tm 4)) 16 false,
 GQ 8 20 (.load 1 false (.tm 19)) 16 false,
 GQ 9 21 (.call cQ [(.tm 18),(.tm 20),(ki 63)]) 16 false,
 GQ 10 22 (.un .not (.tm 21)) 16 false,
 rq 11 23 (.pick (.tm 16) (.kv (.bool true)) (.tm 22)),
 RM 12 24 23,
 GQ 13 25 (.fld 2 (.tm 4)) 24 false,
 GQ 14 26 (.load 1 false (.tm 25)) 24 false,
 GQ 15 27 (.call cQ [(.tm 26),(ki 0),(ki 2)]) 24 false,
 GQ 16 28 (.un .not (.tm 27)) 24 false,
 rq 17 29 (.pick (.tm 24) (.kv (.bool true)) (.tm 28)),
 RM 18 30 29,
 GQ 19 31 (.move (.tm 0)) 30 false,
 GQ 20 32 (.move (.tm 3)) 30 false,
 GQ 21 33 (.slc 4 (.tm 31) none (some (.tm 32)) none) 30 false,
 GQ 22 34 (.xop (.zI rE) [(.tm 4)]) 30 false,
 GQ 23 35 (.call bX [(.tm 33),(.tm 34)]) 30 false,
 rq 24 36 (.pick (.tm 30) (.kv (.bool true)) (.tm 35))] 25 [0,5,6,7,36])
 (.cond (.tm 36)
 (.seq (.region [rq 0 2 (.move (.kv (.bool false)))] 1 [2])
 .ret)
 .skip))))
 (.region [rq 0 37 (.bin .add (.tm 7) (ki 1)),
 RM 1 7 37] 2 [0,5,6,7])))))))
 (.seq (.region [RM 0 38 0,
 rq 1 39 (.len false (.tm 38)),
 rq 2 40 (.bin .leq (.tm 39) (ki 4)),
 RM 3 2 40] 4 [2])
 .ret)))
def VE:List Cert:=[⟨[],[0]⟩,⟨[],[0,5,6,7]⟩,⟨[],[0,5,6,7,8]⟩,⟨[],[0,3,4,5,6,7]⟩,⟨[],[0,5,6,7,36]⟩,⟨[],[2]⟩,⟨[],[0,5,6,7]⟩,⟨[],[2]⟩]
def I5:List aW:=[.tm 2]
theorem VT:aO Tryz.prog Tryz.f126 VE=some (zQ,I5):=by kernel_rfl
theorem VB:aN Tryz.prog wR Tryz.f126 zQ I5:=
 aN.mk Tryz.func126 (by kernel_rfl) VT
def zP:AC:=
 (.seq (.region [rq 0 1 (.box true (.tm 0)),
 rq 1 2 (.move (.kv (.bool false)))] 2 [1])
 (.seq (.region [rq 0 3 (.move (ki 0))] 1 [1,3])
 (.seq (.seq (.region [rq 0 4 (.load 7 true (.tm 1)),
 rq 1 5 (.call eY [(.tm 4)])] 2 [1,3,5])
 (.cond (.tm 5)
 (.region [RF 0 6 3 1,
 RL 1 7 6,
 RM 2 3 7] 3 [1,3])
 .skip))
 (.seq (.region [RF 0 8 0 1,
 RL 1 9 8,
 rq 2 10 (.call cQ [(.tm 9),(ki 0),(ki 1)]),
 RM 3 11 10,
 GQ 4 12 (.fld 1 (.tm 1)) 11 true,
 GQ 5 13 (.load 1 false (.tm 12)) 11 true,
 GQ 6 14 (.call cQ [(.tm 13),(ki 1),(ki 4)]) 11 true,
 rq 7 15 (.pick (.tm 11) (.tm 14) (.kv (.bool false))),
 RM 8 16 15,
 GQ 9 17 (.fld 2 (.tm 1)) 16 true,
 GQ 10 18 (.load 1 false (.tm 17)) 16 true,
 GQ 11 19 (.fld 3 (.tm 1)) 16 true,
 GQ 12 20 (.load 1 false (.tm 19)) 16 true,
 GQ 13 21 (.fld 4 (.tm 1)) 16 true,
 GQ 14 22 (.load 1 false (.tm 21)) 16 true,
 GQ 15 23 (.call nI [(.tm 18),(.tm 20),(.tm 22)]) 16 true,
 rq 16 24 (.pick (.tm 16) (.tm 23) (.kv (.bool false))),
 RM 17 25 24,
 GQ 18 26 (.fld 5 (.tm 1)) 25 true,
 GQ 19 27 (.load 1 false (.tm 26)) 25 true,
 GQ 20 28 (.len false (.tm 27)) 25 true,
 GQ 21 29 (.move (.tm 3)) 25 true,
 GQ 22 30 (.bin .eql (.tm 28) (.tm 29)) 25 true,
 rq 23 31 (.pick (.tm 25) (.tm 30) (.kv (.bool false))),
 RM 24 32 31,
 GQ 25 33 (.fld 6 (.tm 1)) 32 true,
 GQ 26 34 (.load 1 false (.tm 33)) 32 true,
 GQ 27 35 (.len false (.tm 34)) 32 true,
 GQ 28 36 (.move (.tm 3)) 32 true,
 GQ 29 37 (.bin .eql (.tm 35) (.tm 36)) 32 true,
 rq 30 38 (.pick (.tm 32) (.tm 37) (.kv (.bool false))),
 RM 31 39 38,
 GQ 32 40 (.fld 5 (.tm 1)) 39 true,
 GQ 33 41 (.load 1 false (.tm 40)) 39 true,
 GQ 34 42 (.call jB [(.tm 41)]) 39 true,
 rq 35 43 (.pick (.tm 39) (.tm 42) (.kv (.bool false))),
 RM 36 44 43,
 GQ 37 45 (.fld 6 (.tm 1)) 44 true,
 GQ 38 46 (.load 1 false (.tm 45)) 44 true,
 GQ 39 47 (.call bN [(.tm 46),(.fn rT)]) 44 true,
 GQ 40 48 (.un .not (.tm 47)) 44 true,
 rq 41 49 (.pick (.tm 44) (.tm 48) (.kv (.bool false))),
 RM 42 50 49,
 GQ 43 51 (.fld 1 (.tm 1)) 50 true,
 GQ 44 52 (.load 1 false (.tm 51)) 50 true,
 GQ 45 53 (.bin .eql (.tm 52) (ki 1)) 50 true,
 GQ 46 54 (.move (.tm 53)) 50 true,
 GQ 47 55 (.fld 1 (.tm 1)) 54 false,
 GQ 48 56 (.load 1 false (.tm 55)) 54 false,
 GQ 49 57 (.bin .eql (.tm 56) (ki 2)) 54 false,
 GQ 50 58 (.pick (.tm 54) (.kv (.bool true)) (.tm 57)) 50 true,
 GQ 51 59 (.move (.tm 58)) 50 true,
 GQ 52 60 (.fld 3 (.tm 1)) 59 false,
 GQ 53 61 (.load 1 false (.tm 60)) 59 false,
 GQ 54 62 (.bin .eql (.tm 61) (ki 1)) 59 false,
 GQ 55 63 (.pick (.tm 59) (.kv (.bool true)) (.tm 62)) 50 true,
 rq 56 64 (.pick (.tm 50) (.tm 63) (.kv (.bool false))),
 RM 57 2 64] 58 [2])
 .ret))))
def U1:List Cert:=[⟨[],[1]⟩,⟨[],[1,3]⟩,⟨[],[1,3,5]⟩,⟨[],[1,3]⟩,⟨[],[2]⟩]
def I9:List aW:=[.tm 2]
theorem UO:aO Tryz.prog Tryz.f127 U1=some (zP,I9):=by kernel_rfl
theorem VJ:aN Tryz.prog wD Tryz.f127 zP I9:=
 aN.mk Tryz.func127 (by kernel_rfl) UO
end Go.Proofs.YtmccpdapaccnoaaGreat
end
