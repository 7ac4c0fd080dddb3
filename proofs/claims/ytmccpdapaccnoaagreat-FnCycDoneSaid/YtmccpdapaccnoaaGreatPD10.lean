/- Texts laid together by a program: rules, contracts and the walk that leads to the law. -/
import Derived.Test.YtmccpdapaccnoaaGreatPD6
import Derived.Test.YtmccpdapaccnoaaGreatPD7
import Derived.Test.YtmccpdapaccnoaaGreatPD9
import Derived.Test.YtmccpdapaccnoaaGreatPD8
set_option linter.unusedVariables false
set_option linter.unusedSimpArgs false
set_option linter.unusedSectionVars false
set_option maxRecDepth 100000
set_option maxHeartbeats 8000000
namespace Go.AM
def eCJ (j:fC):List D1:=[cI j.who,cI j.n,cI j.left]
variable{j:fC}
theorem anW:(eCJ j).length=3:=rfl
theorem aiX:(eCJ j).take 1=[cI j.who]:=rfl
theorem aiI:(eCJ j).drop 1=[cI j.n,cI j.left]:=rfl
theorem ah9:(eCJ j).take 2=[cI j.who,cI j.n]:=rfl
theorem ajA:(eCJ j).drop 2=[cI j.left]:=rfl
theorem agT:(eCJ j).take 3=eCJ j:=rfl
theorem agG:(eCJ j).drop 3=[]:=rfl
variable{cs:List D1}{k:Nat}
theorem alE:iA cs (k+1) (eCJ j)=iA cs (k+1) [cI j.who,cI j.n,cI j.left]:=rfl
theorem yK (j:fC):(eCJ j).length=3∧(eCJ j).all D1.dQ=true:=⟨rfl,rfl⟩
attribute [go_sem] anW aiX aiI ah9 ajA agT agG alE
def cD (p:fR):List D1:=[cI p.next,.isl (p.queue.map aJ),.isl (p.out.map eCJ),cI p.last]
variable{p:fR}
theorem ag6:(cD p).length=4:=rfl
theorem ZZ:(cD p).take 1=[cI p.next]:=rfl
theorem abE:(cD p).drop 1=[.isl (p.queue.map aJ),.isl (p.out.map eCJ),cI p.last]:=rfl
theorem YU:(cD p).take 2=[cI p.next,.isl (p.queue.map aJ)]:=rfl
theorem ZM:(cD p).drop 2=[.isl (p.out.map eCJ),cI p.last]:=rfl
theorem aa2:(cD p).take 3=[cI p.next,.isl (p.queue.map aJ),.isl (p.out.map eCJ)]:=rfl
theorem aa8:(cD p).drop 3=[cI p.last]:=rfl
theorem abO:(cD p).take 4=cD p:=rfl
theorem aaG:(cD p).drop 4=[]:=rfl
theorem aeM:iA cs (k+1) (cD p)=iA cs (k+1) [cI p.next,.isl (p.queue.map aJ),.isl (p.out.map eCJ),cI p.last]:=rfl
theorem t7 (p:fR):(cD p).length=4∧(cD p).all D1.dQ=true:=⟨rfl,rfl⟩
attribute [go_sem] ag6 ZZ abE YU ZM aa2 aa8 abO aaG aeM
def gF (v:nY):List D1:=[.isl (v.pipe.map eCJ),.isl (v.done.map aS),cI v.last]
variable{v:nY}
theorem amX:(gF v).length=3:=rfl
theorem ad9:(gF v).take 1=[.isl (v.pipe.map eCJ)]:=rfl
theorem aeY:(gF v).drop 1=[.isl (v.done.map aS),cI v.last]:=rfl
theorem ab2:(gF v).take 2=[.isl (v.pipe.map eCJ),.isl (v.done.map aS)]:=rfl
theorem ac3:(gF v).drop 2=[cI v.last]:=rfl
theorem ad6:(gF v).take 3=gF v:=rfl
theorem adW:(gF v).drop 3=[]:=rfl
theorem ahZ:iA cs (k+1) (gF v)=iA cs (k+1) [.isl (v.pipe.map eCJ),.isl (v.done.map aS),cI v.last]:=rfl
theorem zJ (v:nY):(gF v).length=3∧(gF v).all D1.dQ=true:=⟨rfl,rfl⟩
attribute [go_sem] amX ad9 aeY ab2 ac3 ad6 adW ahZ
def eI (s:CSt):List D1:=[.isl (s.words.map aJ),.isl (s.holds.map aJ),.isl (s.bM.map cD),.isl (s.dD.map gF),.isl (s.told.map aS)]
variable{s:CSt}
theorem ajM:(eI s).length=5:=rfl
theorem adQ:(eI s).take 1=[.isl (s.words.map aJ)]:=rfl
theorem acL:(eI s).drop 1=[.isl (s.holds.map aJ),.isl (s.bM.map cD),.isl (s.dD.map gF),.isl (s.told.map aS)]:=rfl
theorem aeK:(eI s).take 2=[.isl (s.words.map aJ),.isl (s.holds.map aJ)]:=rfl
theorem aeQ:(eI s).drop 2=[.isl (s.bM.map cD),.isl (s.dD.map gF),.isl (s.told.map aS)]:=rfl
theorem adC:(eI s).take 3=[.isl (s.words.map aJ),.isl (s.holds.map aJ),.isl (s.bM.map cD)]:=rfl
theorem adP:(eI s).drop 3=[.isl (s.dD.map gF),.isl (s.told.map aS)]:=rfl
theorem ab6:(eI s).take 4=[.isl (s.words.map aJ),.isl (s.holds.map aJ),.isl (s.bM.map cD),.isl (s.dD.map gF)]:=rfl
theorem aeD:(eI s).drop 4=[.isl (s.told.map aS)]:=rfl
theorem ac5:(eI s).take 5=eI s:=rfl
theorem aeA:(eI s).drop 5=[]:=rfl
theorem aiO:iA cs (k+1) (eI s)=iA cs (k+1) [.isl (s.words.map aJ),.isl (s.holds.map aJ),.isl (s.bM.map cD),.isl (s.dD.map gF),.isl (s.told.map aS)]:=rfl
attribute [go_sem] ajM adQ acL aeK aeQ adC adP ab6 aeD ac5 aeA aiO
def eH (b:Bool):List D1:=[cB b]
theorem ai9{b:Bool}:(eH b).length=1:=rfl
theorem abL{b:Bool}:(eH b).take 1=[cB b]:=rfl
theorem aaB{b:Bool}:(eH b).drop 1=[]:=rfl
theorem abX{b:Bool}:iA cs (k+1) (eH b)=iA cs (k+1) [cB b]:=rfl
theorem mK (b:Bool):(eH b).length=1∧(eH b).all D1.dQ=true:=⟨rfl,rfl⟩
attribute [go_sem] ai9 abL aaB abX
def eIn (i:CIn):List D1:=[.isl (i.ready.map eH),.isl (i.n9.map eH),.isl (i.send.map eH)]
variable{i:CIn}
theorem aoW:(eIn i).length=3:=rfl
theorem agD:(eIn i).take 1=[.isl (i.ready.map eH)]:=rfl
theorem ah2:(eIn i).drop 1=[.isl (i.n9.map eH),.isl (i.send.map eH)]:=rfl
theorem aiC:(eIn i).take 2=[.isl (i.ready.map eH),.isl (i.n9.map eH)]:=rfl
theorem agZ:(eIn i).drop 2=[.isl (i.send.map eH)]:=rfl
theorem ajC:(eIn i).take 3=eIn i:=rfl
theorem agB:(eIn i).drop 3=[]:=rfl
theorem al9:iA cs (k+1) (eIn i)=iA cs (k+1) [.isl (i.ready.map eH),.isl (i.n9.map eH),.isl (i.send.map eH)]:=rfl
theorem QX (i:CIn):(eIn i).length=3∧(eIn i).all D1.dQ=true:=⟨rfl,rfl⟩
attribute [go_sem] aoW agD ah2 aiC agZ ajC agB al9
structure tZ (H:aA) (n id off len cap:Nat) (R:List (List D1)):Prop where
 ex: ∃m rows,H id=some ⟨n,m,rows⟩∧rows.drop off=R∧off+len≤rows.length∧len=R.length∧len≤cap∧off+cap≤m
def af5 (nq no:Nat) (p:fR) (qo qc oc:Nat):List D1:=[cI p.next,.osl 1 nq qo p.queue.length qc,.osl 3 no 0 p.out.length oc,cI p.last]
def aj9 (np nd:Nat) (v:nY) (po pc do_ dc:Nat):List D1:=[.osl 3 np po v.pipe.length pc,.osl 5 nd do_ v.done.length dc,cI v.last]
structure CX (H:aA) (nq no:Nat) (p:fR) (r:List D1):Prop where
 ex: ∃qo qc oc,r=af5 nq no p qo qc oc∧tZ H 1 nq qo p.queue.length qc (p.queue.map aJ)∧tZ H 3 no 0 p.out.length oc (p.out.map eCJ)
structure LJ (H:aA) (np nd:Nat) (v:nY) (r:List D1):Prop where
 ex: ∃po pc do_ dc,r=aj9 np nd v po pc do_ dc∧tZ H 3 np po v.pipe.length pc (v.pipe.map eCJ)∧tZ H 5 nd do_ v.done.length dc (v.done.map aS)
def U2 (nm:Nat→Nat) (s:CSt) (wc hc pc vc tc:Nat):List D1:=[.osl 1 (nm 0) 0 s.words.length wc,.osl 1 (nm 1) 0 s.holds.length hc,.osl 4 (nm 2) 0 3 pc,.osl 3 (nm 3) 0 4 vc,.osl 5 (nm 4) 0 s.told.length tc]
structure abY (H:aA) (nm:Nat→Nat) (s:CSt) (cells:List D1):Prop where
 ex: ∃wc hc pc vc tc,cells=U2 nm s wc hc pc vc tc∧tZ H 1 (nm 0) 0 s.words.length wc (s.words.map aJ)∧tZ H 1 (nm 1) 0 s.holds.length hc (s.holds.map aJ)∧tZ H 5 (nm 4) 0 s.told.length tc (s.told.map aS)∧
  3≤pc∧4≤vc
 bM: ∃m rows,H (nm 2)=some ⟨4,m,rows⟩∧rows.length=3∧ ∀k,k<3→∃r,rows[k]?=some r∧CX H (nm (5+k)) (nm (8+k)) (aF s k) r
 dD: ∃m rows,H (nm 3)=some ⟨3,m,rows⟩∧rows.length=4∧ ∀k,k<4→∃r,rows[k]?=some r∧LJ H (nm (11+k)) (nm (15+k)) (aL s k) r
structure Names (X:Nat→Prop) (nx:Nat) (nm:Nat→Nat):Prop where
 inj: ∀j k,j<19→k<19→nm j=nm k→j=k
 lt: ∀k,k<19→nm k<nx
 av: ∀k,k<19→¬X (nm k)
structure Rep (X:Nat→Prop) (H:aA) (nx i0:Nat) (nm:Nat→Nat) (s:CSt):Prop where
 st: ∃cells,H i0=some ⟨5,1,[cells]⟩∧abY H nm s cells
 names:Names X nx nm
 ne: ∀k,k<19→nm k≠i0
 i0:i0<nx∧ ¬X i0
 x: ∀id,X id→id<nx
def aqA (Y:Nat→Prop) (H:aA) (nx i1:Nat) (es:List Ev) (d:D1):Prop:=(es=[]∧d= .osl 0 0 0 0 0)∨ ∃ev cap,d= .osl 3 ev 0 es.length cap∧tZ H 3 ev 0 es.length cap (es.map eEv)∧ev<nx∧ ¬Y ev∧ev≠i1
structure aiW (Y:Nat→Prop) (H:aA) (nx i1:Nat) (es:List Ev):Prop where
 ex: ∃d a b c e,H i1=some ⟨5,1,[[d,cI a,cI b,cI c,cI e]]⟩∧aqA Y H nx i1 es d
 i1:i1<nx∧ ¬Y i1
 y: ∀id,Y id→id<nx
variable{H:aA}
theorem aA.aC{a i:Nat}{o:bA} (h:i≠a):H.set a o i=H i:=if_neg h
theorem aA.bH{a:Nat}{o:bA}:H.set a o a=some o:=if_pos rfl
theorem aA.jG{a i:Nat} (h:i≠a):H.del a i=H i:=if_neg h
def eZ (x:Nat):List Nat→Prop
 | []=>True
 |y::l=>((x=y)=False∧(y=x)=False)∧eZ x l
def bQ (nx:Nat):List Nat→Prop
 | []=>True
 |x::l=>((∀k,(x=nx+k)=False)∧(∀k,(nx+k=x)=False)∧(x=nx)=False∧(nx=x)=False)∧eZ x l∧bQ nx l
theorem apZ {x:Nat}: ∀{l:List Nat},x∉l→eZ x l
 | [],_=>trivial
 |y::l,h=>by rw[t3,not_or] at h;exact⟨⟨eq_false h.1,eq_false (Ne.symm h.1)⟩,apZ h.2⟩
theorem apart {nx:Nat}: ∀{l:List Nat},l.Nodup→(∀x∈l,x<nx)→bQ nx l
 | [],_,_=>trivial
 |x::l,h,hl=>by rw[bq8] at h;have hx:=hl x (by simp);exact⟨⟨fun k=>eq_false (by omega),fun k=>eq_false (by omega),eq_false (by omega),eq_false (by omega)⟩,apZ h.1,apart h.2 fun y hy=>hl y (bq9 _ hy)⟩
theorem Names.list {X:Nat→Prop} {nx:Nat} {nm:Nat→Nat} (h:Names X nx nm): ∀{l:List Nat},l.Nodup→(∀k∈l,k<19)→(l.map nm).Nodup
 | [],_,_=>List.Pairwise.nil
 |k::l,hn,hl=>by rw[bq8] at hn;rw[n3,bq8];refine⟨fun hm=> ?_,h.list hn.2 fun j hj=>hl j (bq9 _ hj)⟩;obtain⟨j,hj,he⟩:=CF.1 hm;exact hn.1 (h.inj j k (hl j (bq9 _ hj)) (hl k (by simp)) he▸hj)
theorem Rep.apart {X:Nat→Prop} {H:aA} {nx nx' i0:Nat} {nm:Nat→Nat} {s:CSt} (h:Rep X H nx i0 nm s) (ext l:List Nat) (hx:nx≤nx') (he:ext.Nodup) (heX: ∀x∈ext,X x) (hn:l.Nodup) (hl: ∀k∈l,k<19):bQ nx' (ext++i0::l.map nm):=by
 refine AM.apart (brG.2 ⟨he,bq8.2 ⟨fun hm=> ?_,h.names.list hn hl⟩,fun a ha b hb hab=> ?_⟩) fun x hx=> ?_;·obtain⟨j,hj,he⟩:=CF.1 hm;exact h.ne j (hl j hj) he
 ·subst hab;rcases t3.1 hb with rfl|hb;·exact h.i0.2 (heX _ ha)
  ·obtain⟨j,hj,rfl⟩:=CF.1 hb;exact h.names.av j (hl j hj) (heX _ ha)
 ·rcases o3.1 hx with hx|hx;·have:=h.x x (heX x hx);omega
  ·rcases t3.1 hx with rfl|hx;·have:=h.i0.1;omega
   ·obtain⟨j,hj,rfl⟩:=CF.1 hx;have:=h.names.lt j (hl j hj);omega
theorem tZ.frame {H H':aA} {n id off len cap:Nat} {R:List (List D1)} (h:tZ H n id off len cap R) (he:H' id=H id):tZ H' n id off len cap R:=by obtain⟨m,rows,h1,h2⟩:=h.ex;exact⟨m,rows,by rw[he,h1],h2⟩
theorem CX.frame {H H':aA} {nq no:Nat} {p:fR} {r:List D1} (h:CX H nq no p r) (h1:H' nq=H nq) (h2:H' no=H no):CX H' nq no p r:=by obtain⟨qo,qc,oc,e,q1,q2⟩:=h.ex;exact⟨qo,qc,oc,e,q1.frame h1,q2.frame h2⟩
theorem LJ.frame {H H':aA} {np nd:Nat} {v:nY} {r:List D1} (h:LJ H np nd v r) (h1:H' np=H np) (h2:H' nd=H nd):LJ H' np nd v r:=by obtain⟨po,pc,do_,dc,e,q1,q2⟩:=h.ex;exact⟨po,pc,do_,dc,e,q1.frame h1,q2.frame h2⟩
theorem Rep.upd {X:Nat→Prop} {H H':aA} {nx nx' i0:Nat} {nm nm':Nat→Nat} {s s':CSt} {who st:Nat} (h:Rep X H nx i0 nm s) (hx:nx≤nx') (hN:Names X nx' nm') (hne: ∀k,k<19→nm' k≠i0)
 (hk: ∀k,k<19→k≠4→k≠5+who→k≠8+who→k≠11+st→k≠15+st→nm' k=nm k) (hfr: ∀k,5≤k→k<19→k≠5+who→k≠8+who→k≠11+st→k≠15+st→H' (nm k)=H (nm k))
 (e1: ∃wc hc pc vc tc,H' i0=some ⟨5,1,[U2 nm' s' wc hc pc vc tc]⟩∧tZ H' 1 (nm' 0) 0 s'.words.length wc (s'.words.map aJ)∧tZ H' 1 (nm' 1) 0 s'.holds.length hc (s'.holds.map aJ)∧tZ H' 5 (nm' 4) 0 s'.told.length tc (s'.told.map aS)∧3≤pc∧4≤vc)
 (e2: ∃m rows m0 rows0,H (nm 2)=some ⟨4,m0,rows0⟩∧H' (nm 2)=some ⟨4,m,rows⟩∧rows.length=3∧(∀k,k<3→k≠who→rows[k]?=rows0[k]?)∧(who<3→∃r,rows[who]?=some r∧CX H' (nm' (5+who)) (nm' (8+who)) (aF s' who) r))
 (e3: ∃m rows m0 rows0,H (nm 3)=some ⟨3,m0,rows0⟩∧H' (nm 3)=some ⟨3,m,rows⟩∧rows.length=4∧(∀k,k<4→k≠st→rows[k]?=rows0[k]?)∧(st<4→∃r,rows[st]?=some r∧LJ H' (nm' (11+st)) (nm' (15+st)) (aL s' st) r))
 (hw:who<3∨who=14) (hs:st<4∨st=8) (hp: ∀k,k<3→k≠who→aF s' k=aF s k) (hv: ∀k,k<4→k≠st→aL s' k=aL s k):Rep X H' nx' i0 nm' s':=by
 obtain⟨⟨cells,hi0,hex,hports,hslvs⟩,hnames,hne0,hi1,hX⟩:=h
 refine⟨?_,hN,hne,⟨by omega,hi1.2⟩,fun id hid=>by have:=hX id hid;omega⟩
 obtain⟨wc,hc,pc,vc,tc,q1,q2⟩:=e1
 refine⟨_,q1,⟨wc,hc,pc,vc,tc,rfl,q2⟩,?_,?_⟩
 ·obtain⟨m,rows,m0,rows0,g1,g2,g3,g4,g5⟩:=e2;obtain⟨m1,rows1,j1,j2,j3⟩:=hports;rw[g1] at j1;obtain⟨_,rfl,rfl⟩:4=4∧m0=m1∧rows0=rows1:=by simpa using j1
  refine⟨m,rows,by rw[hk 2 (by omega) (by omega) (by omega) (by omega) (by omega) (by omega)];exact g2,g3,fun k hk3=> ?_⟩;by_cases hkw:k=who;·subst hkw;exact g5 hk3
  ·obtain⟨r,j4,j5⟩:=j3 k hk3;refine⟨r,by rw[g4 k hk3 hkw];exact j4,?_⟩;rw[hp k hk3 hkw,hk (5+k) (by omega) (by omega) (by omega) (by omega) (by omega) (by omega),hk (8+k) (by omega) (by omega) (by omega) (by omega) (by omega) (by omega)];exact j5.frame (hfr _ (by omega) (by omega) (by omega) (by omega) (by omega) (by omega)) (hfr _ (by omega) (by omega) (by omega) (by omega) (by omega) (by omega))
 ·obtain⟨m,rows,m0,rows0,g1,g2,g3,g4,g5⟩:=e3;obtain⟨m1,rows1,j1,j2,j3⟩:=hslvs;rw[g1] at j1;obtain⟨_,rfl,rfl⟩:3=3∧m0=m1∧rows0=rows1:=by simpa using j1
  refine⟨m,rows,by rw[hk 3 (by omega) (by omega) (by omega) (by omega) (by omega) (by omega)];exact g2,g3,fun k hk3=> ?_⟩;by_cases hkw:k=st;·subst hkw;exact g5 hk3
  ·obtain⟨r,j4,j5⟩:=j3 k hk3;refine⟨r,by rw[g4 k hk3 hkw];exact j4,?_⟩;rw[hv k hk3 hkw,hk (11+k) (by omega) (by omega) (by omega) (by omega) (by omega) (by omega),hk (15+k) (by omega) (by omega) (by omega) (by omega) (by omega) (by omega)];exact j5.frame (hfr _ (by omega) (by omega) (by omega) (by omega) (by omega) (by omega)) (hfr _ (by omega) (by omega) (by omega) (by omega) (by omega) (by omega))
theorem Rep.frame {X X':Nat→Prop} {H H':aA} {nx nx' i0:Nat} {nm:Nat→Nat} {s:CSt} (h:Rep X H nx i0 nm s) (hx:nx≤nx') (h0:H' i0=H i0) (hfr: ∀k,k<19→H' (nm k)=H (nm k)) (hX: ∀id,X' id→id<nx'∧id≠i0∧ ∀k,k<19→id≠nm k):Rep X' H' nx' i0 nm s:=by
 obtain⟨⟨cells,hi0,⟨wc,hc,pc,vc,tc,q1,q2,q3,q4,q5⟩,⟨m,rows,j1,j2,j3⟩,⟨m',rows',j4,j5,j6⟩⟩,hnames,hne0,hi1,_⟩:=h
 refine⟨⟨cells,by rw[h0];exact hi0,⟨wc,hc,pc,vc,tc,q1,q2.frame (hfr _ (by omega)),q3.frame (hfr _ (by omega)),q4.frame (hfr _ (by omega)),q5⟩,⟨m,rows,by rw[hfr 2 (by omega)];exact j1,j2,fun k hk=> ?_⟩,⟨m',rows',by rw[hfr 3 (by omega)];exact j4,j5,fun k hk=> ?_⟩⟩,
  ⟨hnames.inj,fun k hk=>by have:=hnames.lt k hk;omega,fun k hk hn=>(hX _ hn).2.2 k hk rfl⟩,hne0,⟨by omega,fun hn=>(hX _ hn).2.1 rfl⟩,fun id hid=>(hX id hid).1⟩
 ·obtain⟨r,k1,k2⟩:=j3 k hk;exact⟨r,k1,k2.frame (hfr _ (by omega)) (hfr _ (by omega))⟩
 ·obtain⟨r,k1,k2⟩:=j6 k hk;exact⟨r,k1,k2.frame (hfr _ (by omega)) (hfr _ (by omega))⟩
def put (nm:Nat→Nat) (k v:Nat):Nat→Nat:=fun j=>if j=k then v else nm j
variable{nm:Nat→Nat}
theorem t8{v:Nat}:put nm k v k=v:=if_pos rfl
theorem jE{v j:Nat} (h:j≠k):put nm k v j=nm j:=if_neg h
theorem Names.mono{X:Nat→Prop}{nx nx':Nat} (h:Names X nx nm) (hx:nx≤nx'):Names X nx' nm:=⟨h.inj,fun k hk=>by have:=h.lt k hk;omega,h.av⟩
theorem Names.put {X:Nat→Prop} {nx nx':Nat} {nm:Nat→Nat} {k v:Nat} (h:Names X nx nm) (h1:nx≤v) (h2:v<nx') (hX: ¬X v):Names X nx' (put nm k v):=by
 refine⟨fun i j hi hj he=> ?_,fun j hj=> ?_,fun j hj=> ?_⟩;·have a:=h.lt i hi;have b:=h.lt j hj;have c:=h.inj i j hi hj;unfold AM.put at he;split at he<;>split at he<;>omega
 ·have:=h.lt j hj;unfold AM.put;split<;>omega
 ·unfold AM.put;split;·exact hX
  ·exact h.av j hj
structure l9 (X:Nat→Prop) (H:aA) (nx i0 i1:Nat) (nm:Nat→Nat) (s:CSt) (es:List Ev):Prop where
 rep:Rep (fun id=>X id∨id=i1) H nx i0 nm s
 hap:aiW (fun id=>X id∨id=i0∨ ∃k,k<19∧id=nm k) H nx i1 es
theorem aiW.frame {Y Y':Nat→Prop} {H H':aA} {nx nx' i1:Nat} {es:List Ev} (h:aiW Y H nx i1 es) (hx:nx≤nx') (h1:H' i1=H i1) (hfr: ∀id,id<nx→¬Y id→H' id=H id) (hY: ∀id,Y' id→id<nx'∧(Y id∨nx≤id)):aiW Y' H' nx' i1 es:=by
 obtain⟨⟨d,a,b,c,e,g1,g2⟩,g3,g4⟩:=h
 have hn: ∀id,id<nx→¬Y id→¬Y' id:=fun id h1 h2 h3=>by
  rcases(hY id h3).2 with h|h;·exact h2 h
  ·omega
 refine⟨⟨d,a,b,c,e,by rw[h1];exact g1,?_⟩,⟨by omega,hn _ g3.1 g3.2⟩,fun id h=>(hY id h).1⟩;rcases g2 with g2|⟨ev,cap,k1,k2,k3,k4,k5⟩
 ·exact .inl g2
 ·exact .inr ⟨ev,cap,k1,k2.frame (hfr _ k3 k4),by omega,hn _ k3 k4,k5⟩
theorem l9.next{X X2:Nat→Prop}{H2:aA}{nx nx2 i0 i1:Nat}{es:List Ev} (h:l9 X H nx i0 i1 nm s es) (hx:nx≤nx2) (hfr: ∀id,id<nx→¬X id→H2 id=H id) (hX: ∀id,X2 id→id<nx2∧(X id∨nx≤id)):l9 X2 H2 nx2 i0 i1 nm s es:=by
 have hi0:=h.rep.i0;have hi1:=h.hap.i1;have hav:=h.rep.names.av;have hlt:=h.rep.names.lt;refine⟨h.rep.frame hx (hfr i0 hi0.1 fun hn=>hi0.2 (.inl hn)) (fun k hk=>hfr _ (hlt k hk) fun hn=>hav k hk (.inl hn)) fun id hid=> ?_,h.hap.frame hx (hfr i1 hi1.1 fun hn=>hi1.2 (.inl hn)) (fun id h1 h2=>hfr id h1 fun hn=>h2 (.inl hn)) fun id hid=> ?_⟩
 ·rcases hid with hid|rfl
  ·obtain⟨q1,q2⟩:=hX id hid;refine⟨q1,?_,fun k hk=> ?_⟩
   ·rintro rfl;rcases q2 with q2|q2;·exact hi0.2 (.inl q2)
    ·omega
   ·rintro rfl;have:=hlt k hk;rcases q2 with q2|q2;·exact hav k hk (.inl q2)
    ·omega
  ·refine⟨by omega,fun he=>hi0.2 (.inr he.symm),fun k hk he=>hav k hk (.inr he.symm)⟩
 ·rcases hid with hid|rfl|⟨k,hk,rfl⟩
  ·obtain⟨q1,q2⟩:=hX id hid;exact⟨q1,q2.imp .inl fun h=>h⟩
  ·exact⟨by omega,.inl (.inr (.inl rfl))⟩
  ·have:=hlt k hk;exact⟨by omega,.inl (.inr (.inr ⟨k,hk,rfl⟩))⟩
theorem l9.mono{X:Nat→Prop}{nx nx2 i0 i1:Nat}{es:List Ev} (h:l9 X H nx i0 i1 nm s es) (hx:nx≤nx2):l9 X H nx2 i0 i1 nm s es:=h.next hx (fun _ _ _=>rfl) fun id hid=>⟨by have:=h.rep.x id (.inl hid);omega,.inl hid⟩
theorem Rep.get{X:Nat→Prop}{nx i0:Nat} (h:Rep X H nx i0 nm s):
 ∃wc hc pc vc tc mp rp mv rv,H i0=some ⟨5,1,[[.osl 1 (nm 0) 0 s.words.length wc,.osl 1 (nm 1) 0 s.holds.length hc,.osl 4 (nm 2) 0 3 pc,.osl 3 (nm 3) 0 4 vc,.osl 5 (nm 4) 0 s.told.length tc]]⟩∧H (nm 2)=some ⟨4,mp,rp⟩∧H (nm 3)=some ⟨3,mv,rv⟩∧
  tZ H 1 (nm 0) 0 s.words.length wc (s.words.map aJ)∧tZ H 1 (nm 1) 0 s.holds.length hc (s.holds.map aJ)∧tZ H 5 (nm 4) 0 s.told.length tc (s.told.map aS)∧3≤pc∧4≤vc∧rp.length=3∧rv.length=4∧
  (∀k,k<3→∃qo qc oc,rp[k]?=some [cI (aF s k).next,.osl 1 (nm (5+k)) qo (aF s k).queue.length qc,.osl 3 (nm (8+k)) 0 (aF s k).out.length oc,cI (aF s k).last]∧tZ H 1 (nm (5+k)) qo (aF s k).queue.length qc ((aF s k).queue.map aJ)∧tZ H 3 (nm (8+k)) 0 (aF s k).out.length oc ((aF s k).out.map eCJ))∧
  ∀k,k<4→∃po pc do_ dc,rv[k]?=some [.osl 3 (nm (11+k)) po (aL s k).pipe.length pc,.osl 5 (nm (15+k)) do_ (aL s k).done.length dc,cI (aL s k).last]∧tZ H 3 (nm (11+k)) po (aL s k).pipe.length pc ((aL s k).pipe.map eCJ)∧tZ H 5 (nm (15+k)) do_ (aL s k).done.length dc ((aL s k).done.map aS):=by
 obtain⟨cells,hi0,⟨wc,hc,pc,vc,tc,rfl,q1,q2,q3,q4,q5⟩,⟨mp,rp,j1,j2,j3⟩,⟨mv,rv,j4,j5,j6⟩⟩:=h.st
 refine⟨wc,hc,pc,vc,tc,mp,rp,mv,rv,hi0,j1,j4,q1,q2,q3,q4,q5,j2,j5,fun k hk=> ?_,fun k hk=> ?_⟩
 ·obtain⟨r,h1,⟨qo,qc,oc,rfl,h2⟩⟩:=j3 k hk;exact⟨qo,qc,oc,h1,h2⟩
 ·obtain⟨r,h1,⟨po,pc,do_,dc,rfl,h2⟩⟩:=j6 k hk;exact⟨po,pc,do_,dc,h1,h2⟩
theorem l9.upd {X:Nat→Prop} {H H':aA} {nx nx' i0 i1:Nat} {nm:Nat→Nat} {s:CSt} {es:List Ev} (h:l9 X H nx i0 i1 nm s es) (who st:Nat) (nm':Nat→Nat) (s':CSt) (hx:nx≤nx') (hN:Names (fun id=>X id∨id=i1) nx' nm')
 (hk: ∀k,k<19→nm' k=nm k∨((k=4∨k=5+who∨k=8+who∨k=11+st∨k=15+st)∧nx≤nm' k))
 (hfr: ∀id,id<nx→id≠i0→(∀k,k<5∨k=5+who∨k=8+who∨k=11+st∨k=15+st→k<19→id≠nm k)→H' id=H id)
 (e1: ∃wc hc pc vc tc,H' i0=some ⟨5,1,[U2 nm' s' wc hc pc vc tc]⟩∧tZ H' 1 (nm' 0) 0 s'.words.length wc (s'.words.map aJ)∧tZ H' 1 (nm' 1) 0 s'.holds.length hc (s'.holds.map aJ)∧tZ H' 5 (nm' 4) 0 s'.told.length tc (s'.told.map aS)∧3≤pc∧4≤vc)
 (e2: ∃m rows m0 rows0,H (nm 2)=some ⟨4,m0,rows0⟩∧H' (nm 2)=some ⟨4,m,rows⟩∧rows.length=3∧(∀k,k<3→k≠who→rows[k]?=rows0[k]?)∧(who<3→∃r,rows[who]?=some r∧CX H' (nm' (5+who)) (nm' (8+who)) (aF s' who) r))
 (e3: ∃m rows m0 rows0,H (nm 3)=some ⟨3,m0,rows0⟩∧H' (nm 3)=some ⟨3,m,rows⟩∧rows.length=4∧(∀k,k<4→k≠st→rows[k]?=rows0[k]?)∧(st<4→∃r,rows[st]?=some r∧LJ H' (nm' (11+st)) (nm' (15+st)) (aL s' st) r))
 (hw:who<3∨who=14) (hs:st<4∨st=8) (hp: ∀k,k<3→k≠who→aF s' k=aF s k) (hv: ∀k,k<4→k≠st→aL s' k=aL s k):l9 X H' nx' i0 i1 nm' s' es∧ ∀id,X id→H' id=H id:=by
 have hav:=h.rep.names.av
 have hi0:=h.rep.i0
 have hi1:=h.hap.i1
 have hlt:=h.rep.names.lt
 have hXf: ∀id,X id∨id=i1→H' id=H id:=fun id hid=>hfr id (h.rep.x id hid) (fun he=>hi0.2 (he▸hid)) fun k _ hk he=>hav k hk (he▸hid)
 refine⟨⟨h.rep.upd (who:=who) (st:=st) hx hN (fun k hk19=> ?_) (fun k hk19 h1 h2 h3 h4 h5=> ?_) (fun k h5 hk19 h1 h2 h3 h4=> ?_) e1 e2 e3 hw hs hp hv,h.hap.frame hx (hXf _ (.inr rfl)) (fun id h1 h2=> ?_) fun id hid=> ?_⟩,fun id hid=>hXf id (.inl hid)⟩
 ·rcases hk k hk19 with h1|h1;·rw[h1];exact h.rep.ne k hk19
  ·omega
 ·rcases hk k hk19 with h6|h6;·exact h6
  ·omega
 ·refine hfr _ (hlt k hk19) (h.rep.ne k hk19) fun j hj hj19 he=> ?_;have:=h.rep.names.inj k j hk19 hj19 he;omega
 ·exact hfr id h1 (fun he=>h2 (.inr (.inl he))) fun k _ hk19 he=>h2 (.inr (.inr ⟨k,hk19,he⟩))
 ·rcases hid with hid|rfl|⟨k,hk19,rfl⟩
  ·have:=h.rep.x id (.inl hid);exact⟨by omega,.inl (.inl hid)⟩
  ·exact⟨by omega,.inl (.inr (.inl rfl))⟩
  ·have:=hN.lt k hk19;rcases hk k hk19 with h6|h6;·exact⟨this,.inl (.inr (.inr ⟨k,hk19,h6⟩))⟩
   ·exact⟨this,.inr h6.2⟩
def VK (H:aA) (F:Nat→Prop) (r' r:List D1):Prop:=r'.length=r.length∧ ∀(j:Nat) (d':D1),r'[j]?=some d'→∃d,r[j]?=some d∧Frz H F d' d
section
variable {H : aA} {F : Nat → Prop} {σ : Nat → Nat} {nh : Nat}
theorem LH:VK H F [] []:=⟨rfl,fun j d h=>by simp at h⟩
theorem fO {x y:D1} {xs ys:List D1} (h:Frz H F x y) (h2:VK H F xs ys):VK H F (x::xs) (y::ys):=by
 refine⟨by simp[h2.1],fun j d hd=> ?_⟩
 match j with
 |0=>simp at hd;subst hd;exact⟨y,rfl,h⟩
 |j+1=>exact h2.2 j d (by simpa using hd)
theorem amO {r:List D1} (h: ∀x∈r,x.dQ=true):VK H F r r:=⟨rfl,fun j d hd=>⟨d,hd,.same d (h d (s3 hd))⟩⟩
theorem A8 {r' r:List D1} (h:VK H F r' r):CvL H F σ nh r' r:=⟨h.1,fun i x y hx hy=>by
 obtain⟨d,h1,h2⟩:=h.2 i x hx
 rw[hy] at h1;cases h1
 exact .frz h2⟩
theorem QM {rows:List (List D1)} {n id off len cap:Nat} {o:bA} (hF:F id) (ho:H id=some o) (hn:o.n=n) (hl:len=rows.length) (hlen:off+len≤o.rows.length) (hcap:len≤cap)
 (hr: ∀i r',rows[i]?=some r'→r'.length=n∧ ∃r,o.rows[off+i]?=some r∧VK H F r' r):Frz H F (.isl rows) (.osl n id off len cap):=by
 subst hl
 refine .frz rows n id off cap o (fun i j=>((o.rows[off+i]?.getD [])[j]?).getD .dead) hF ho hn hlen hcap (fun i r' h=>(hr i r' h).1) (fun i j r' d' h1 h2=> ?_) (fun i j r' d' h1 h2=> ?_)
 ·obtain⟨_,r,h3,h4⟩:=hr i r' h1;obtain⟨d,h5,_⟩:=h4.2 j d' h2;exact⟨r,h3,by rw[h3];simp[h5]⟩
 ·obtain⟨_,r,h3,h4⟩:=hr i r' h1;obtain⟨d,h5,h6⟩:=h4.2 j d' h2;rw[h3];simpa [h5] using h6
theorem tZ.frz {n id off len cap:Nat} {R:List (List D1)} (h:tZ H n id off len cap R) (hi:alR n R) (hF:F id):Frz H F (.isl R) (.osl n id off len cap):=by
 obtain⟨m,rows,h1,h2,h3,h4,h5,h6⟩:=h.ex;refine QM hF h1 rfl h4 h3 h5 fun i r' hr=>⟨(hi r' (s3 hr)).1,r',?_,amO fun x hx=>(hi r' (s3 hr)).2 x hx⟩
 subst h2;rw[s5] at hr;exact hr
theorem ZX {x:Value}:Frz H F (.v x) (.v x):=.same _ rfl
theorem CX.VI {nq no:Nat} {p:fR} {r:List D1} (h:CX H nq no p r) (h1:F nq) (h2:F no):VK H F (cD p) r:=by obtain⟨qo,qc,oc,rfl,q1,q2⟩:=h.ex;exact fO ZX (fO (q1.frz (aG bF _) h1) (fO (q2.frz (aG yK _) h2) (fO ZX LH)))
theorem LJ.VI {np nd:Nat} {v:nY} {r:List D1} (h:LJ H np nd v r) (h1:F np) (h2:F nd):VK H F (gF v) r:=by obtain⟨qo,qc,o,oc,rfl,q1,q2⟩:=h.ex;exact fO (q1.frz (aG yK _) h1) (fO (q2.frz (aG dZ _) h2) (fO ZX LH))
theorem getD_some {α:Type} [Inhabited α] {l:List α} {k:Nat} {x:α} (h:l[k]?=some x):l.getD k default=x∧k<l.length:=by refine⟨by simp[List.getD,h],(m3.1 h).1⟩
theorem abY.VI {nm:Nat→Nat} {s:CSt} {cells:List D1} (h:abY H nm s cells) (hF: ∀k,k<19→F (nm k)) (hp:s.bM.length=3) (hs:s.dD.length=4):VK H F (eI s) cells:=by
 obtain⟨⟨wc,hc,pc,vc,tc,rfl,q1,q2,q3,q4,q5⟩,⟨m,rows,j1,j2,j3⟩,m',rows',j4,j5,j6⟩:=h;refine fO (q1.frz (aG bF _) (hF _ (by omega))) (fO (q2.frz (aG bF _) (hF _ (by omega))) (fO ?_ (fO ?_ (fO (q3.frz (aG dZ _) (hF _ (by omega))) LH))));·refine QM (hF _ (by omega)) j1 rfl (by simp[hp]) (by simp;omega) q4 fun i r' hr=> ?_;rw[p0,m4] at hr;obtain⟨p,hr,rfl⟩:=hr;obtain⟨e1,e2⟩:=getD_some hr;obtain⟨r,k1,k2⟩:=j3 i (by omega);rw[show aF s i=p from e1] at k2;exact⟨rfl,r,by rw[Y4];exact k1,k2.VI (hF _ (by omega)) (hF _ (by omega))⟩
 ·refine QM (hF _ (by omega)) j4 rfl (by simp[hs]) (by simp;omega) q5 fun i r' hr=> ?_;rw[p0,m4] at hr;obtain⟨p,hr,rfl⟩:=hr;obtain⟨e1,e2⟩:=getD_some hr;obtain⟨r,k1,k2⟩:=j6 i (by omega);rw[show aL s i=p from e1] at k2;exact⟨rfl,r,by rw[Y4];exact k1,k2.VI (hF _ (by omega)) (hF _ (by omega))⟩
theorem alY {r' r:List D1} {n id:Nat} {o:bA} (hF:F id) (ho:H id=some o) (hn:o.n=n) (hr:o.rows[0]?=some r) (h:VK H F r' r):Frz H F (.fQ r') (.ptr n id 0 0):=
 .ptr r' n id 0 0 o r (fun j=>(r[j]?).getD .dead) hF ho hn hr (fun j d hd=>by obtain⟨e,h1,_⟩:=h.2 j d hd;rw[Y4];simp[h1]) (fun j d hd=>by obtain⟨e,h1,h2⟩:=h.2 j d hd;simpa [h1] using h2)
theorem Rep.ar5 {X:Nat→Prop} {nx i0:Nat} {nm:Nat→Nat} {s:CSt} (h:Rep X H nx i0 nm s) (hp:s.bM.length=3) (hs:s.dD.length=4):CvD H (fun _=>True) id 0 (.one (.c (.fQ (eI s)))) (.one (.c (.ptr 5 i0 0 0))):=by obtain⟨cells,h1,h2⟩:=h.st;exact .frz (alY trivial h1 rfl rfl (h2.VI (fun _ _=>trivial) hp hs))
end
theorem ah1{S R:List Job}{x:Job}{j:Nat} (h0:0<j) (hj:j≤S.length):((MS S x j++R).set j (S.getD (j-1) default)).set (j-1) x=MS S x (j-1)++R:=by
 have h1:S.take j=S.take (j-1)++[S.getD (j-1) default]:=by have:=nK (l:=S) (k:=j-1) (by omega);rwa [show j-1+1=j by omega] at this
 have h2:S.drop (j-1)=S.getD (j-1) default::S.drop j:=by have:=brB (l:=S) (i:=j-1) (by omega);rw[this,show j-1+1=j by omega];simp[List.getD,show j-1<S.length by omega]
 have hl:(S.take (j-1)).length=j-1:=by simp;omega
 unfold MS;rw[h1,h2];generalize S.take (j-1)=A at*;generalize S.drop j=B;generalize S.getD (j-1) default=y;simp only[C0,List.cons_append,List.nil_append,List.singleton_append];obtain rfl:j=A.length+1:=by omega
 rw[List.set_append_right _ _ (by omega)];simp
theorem anT{S R:List Job}{x:Job}{j:Nat} (hj:j≤S.length):(MS S x j++R).getD j default=x:=by
 have hl:(S.take j).length=j:=by simp;omega
 unfold MS;simp[List.getD,hl,C0,brX]
theorem adY{S R:List Job}{x:Job}{j:Nat} (h0:0<j) (hj:j≤S.length):(MS S x j++R).getD (j-1) default=S.getD (j-1) default:=by unfold MS;simp only[List.getD,C0];rw[brO (by simp;omega),List.getElem?_take_of_lt (by omega)]
end Go.AM
namespace Go.Proofs.YtmccpdapaccnoaaGreat
open Go Go.AM
attribute [local irreducible] aM wv aB vd wvH
theorem mY:cJ Tryz.prog cL Tryz.f285 dU gU:=cJ.mk Tryz.func285 (by kernel_rfl) m9
theorem tL:cJ Tryz.prog gL Tryz.f220 gA kJ:=cJ.mk Tryz.func220 (by kernel_rfl) sX
theorem mA:cJ Tryz.prog cG Tryz.f124 dF gD:=cJ.mk Tryz.func124 (by kernel_rfl) mB
section
variable {H : aA} {nx : Nat} {K : D → aA → Nat → Prop}
theorem bjH {c:Cfg} {s:CSt} {i:CIn} {k:Nat} (hs:COk c s) (hk:k<3) (hr:i.ready.getD k default=true) {d0:D} (hd0:CvD H (fun _=>True) id 0 (boR (eI s)) d0) (h: ∀r,(fun r=>(vT i s k=none∧r=boP (-1))∨ ∃st:Nat,st<4∧vT i s k=some (.tell k st)∧r=boP st) r→K r H nx):aB Tryz.prog bgR [d0,boP k] H nx K:=by
 refine aB.pure (args0:=[boR (eI s),boP k]) (R:=fun r=>(vT i s k=none∧r=boP (-1))∨ ∃st:Nat,st<4∧vT i s k=some (.tell k st)∧r=boP st) ?_ rfl (aI ⟨hd0,aE rfl,trivial⟩) (h);clear h;refine biV rfl fun Q hQ=> ?_;unfold bgX;have hpl:=hs.pl;have hsl:=hs.sl;obtain⟨hla,hlb⟩:=(hs.port k hk).last;obtain⟨p,hp⟩: ∃p,s.bM.getD k default=p:=⟨_,rfl⟩
 have hp':aF s k=p:=hp;rw[hp'] at hla hlb;repeat' first|apply bn1<;>(simp only[go_sem])|fail
 refine aM.gP (β:=Nat) (fun j=>en [(5,boP j),(2,.one (.c (.ptr 5 0 0 0))),(1,boP k)]) (fun j H1 _=>H1 0=some ⟨5,1,[eI s]⟩∧1≤j∧j≤5∧ ∀j',1≤j'→j'<j→NN s k (pQ s k j')=false) (fun j=>5-j) 1 ⟨noF,_,by repeat' first|exact bo2|refine xqI rfl rfl ?_|refine xqP (by omega) rfl rfl ?_|fail,aK,rfl,by omega,by omega,fun j' h1 h2=>by omega⟩ ?_;rintro j H1 nx1 hnx1 ⟨bqC,hj1,hj5,hinv⟩ bpQ hKL;by_cases hj4:j≤4
 ·obtain⟨st,hst⟩: ∃st,st=pQ s k j:=⟨_,rfl⟩
  have hst':st=((p.last+(j:Int))%4).toNat:=by rw[hst,←hp'];rfl
  have hst4:st<4:=by omega
  have hmod:(p.last+(j:Int)).tmod 4=(st:Int):=by rw[brF (by omega)];omega
  obtain⟨v,hv⟩: ∃v,s.dD.getD st default=v:=⟨_,rfl⟩
  have hv':aL s st=v:=hv;by_cases hd0:v.done.length=0
  ·have hlen:(0<(v.done.length:Int))=False:=eq_false (by omega);repeat' first|apply bn1<;>(simp only[go_sem,bqC,hpl,hsl,hp,hv,hmod,hlen];try simp (disch:=omega) only[Iw])|apply bn2 (by omega)|refine⟨by omega,?_⟩|fail
   exact hKL _ _ _ (j+1) noF _ (by omega) (by omega) (by repeat' first|exact bo2|refine xqI rfl rfl ?_|refine xqP (by omega) rfl rfl ?_|fail) aK ⟨bqC,by omega,by omega,fun j' h1 h2=>by
    by_cases hj:j'<j
    ·exact hinv j' h1 hj
    ·have:j'=j:=(by omega);subst this;rw[←hst];exact decide_eq_false fun hc=>by rw[hv'] at hc;omega⟩
  have hlen:(0<(v.done.length:Int))=True:=eq_true (by omega);obtain⟨d,hd⟩: ∃d,v.done.getD 0 default=d:=⟨_,rfl⟩
  by_cases hwho:d.who=k
  ·have hwt:(d.who=(k:Int))=True:=eq_true hwho;repeat' first|apply bn1<;>(simp only[go_sem,bqC,hpl,hsl,hp,hv,hmod,hlen,hd,hwt];try simp (disch:=omega) only[Iw])|apply bn2 (by omega)|refine⟨by omega,?_⟩|fail
   refine aZ hQ _ rfl rfl (.inr ⟨st,hst4,?_,rfl⟩);rw[hst];exact acB hr hj1 hj4 hinv (by rw[←hst];exact decide_eq_true ⟨by rw[hv'];omega,by rw[hv',hd];exact hwho⟩)
  ·have hwf:(d.who=(k:Int))=False:=eq_false hwho;repeat' first|apply bn1<;>(simp only[go_sem,bqC,hpl,hsl,hp,hv,hmod,hlen,hd,hwf];try simp (disch:=omega) only[Iw])|apply bn2 (by omega)|refine⟨by omega,?_⟩|fail
   exact hKL _ _ _ (j+1) noF _ (by omega) (by omega) (by repeat' first|exact bo2|refine xqI rfl rfl ?_|refine xqP (by omega) rfl rfl ?_|fail) aK ⟨bqC,by omega,by omega,fun j' h1 h2=>by
    by_cases hj:j'<j
    ·exact hinv j' h1 hj
    ·have:j'=j:=(by omega);subst this;rw[←hst];exact decide_eq_false fun hc=>hwho (by rw[←hd,←hv'];exact hc.2)⟩
 ·repeat' first|apply bn1<;>(simp only[go_sem])|apply bn3 (by omega)|fail
  exact aZ hQ _ rfl rfl (.inl ⟨acZ fun j' h1 h2=>hinv j' h1 (by omega),rfl⟩)
theorem bgY {c:Cfg} {s:CSt} {st:Nat} (hs:COk c s) (hst:st<4) {d0:D} (hd0:CvD H (fun _=>True) id 0 (boR (eI s)) d0) (h:K (dB (decide (0<(aL s st).pipe.length∧(bI s st).left=0∧(aL s st).done.length<2))) H nx):aB Tryz.prog bgN [d0,boP st] H nx K:=by
 refine aB.pure (args0:=[boR (eI s),boP st]) (R:=fun rr=>rr=dB (decide (0<(aL s st).pipe.length∧(bI s st).left=0∧(aL s st).done.length<2))) ?_ rfl (aI ⟨hd0,aE rfl,trivial⟩) (fun r hr=>hr▸h);clear h;refine biH rfl fun Q hQ=> ?_;unfold bgU;have hsl:=hs.sl;obtain⟨v,hv⟩: ∃v,s.dD.getD st default=v:=⟨_,rfl⟩
 have hv':aL s st=v:=hv;obtain⟨d,hd⟩: ∃d,v.pipe.getD 0 default=d:=⟨_,rfl⟩
 have e:(0<(aL s st).pipe.length∧(bI s st).left=0∧(aL s st).done.length<2)↔(0<v.pipe.length∧d.left=0∧v.done.length<2):=by unfold bI;rw[hv',hd]
 repeat' first| (first|apply bn1|refine bpL (fun h=> ?_) fun h=> ?_)<;>(simp only[go_sem,hsl,hv,hd])|refine⟨by omega,?_⟩|fail
 all_goals first|exact aZ hQ _ rfl rfl (pD (by rw[e];omega))|exact aZ hQ _ rfl rfl (j7 (by rw[e];omega))|exact aZ hQ _ rfl rfl (q9 (by rw[e];omega))
theorem bhT {c:Cfg} {s:CSt} {k:Nat} (hb:aQ c) (hs:COk c s) (hk:k<3) {d1:D} (hd1:CvD H (fun _=>True) id 0 (boR (eI s)) d1) (h:K (dB (decide ((aF s k).queue.length<2∧(aF s k).next<(c.cP.getD k default).length))) H nx):aB Tryz.prog bgM [boR (cU c),d1,boP k] H nx K:=by
 refine aB.pure (args0:=[boR (cU c),boR (eI s),boP k]) (R:=fun rr=>rr=dB (decide ((aF s k).queue.length<2∧(aF s k).next<(c.cP.getD k default).length))) ?_ rfl (aI ⟨aE rfl,hd1,aE rfl,trivial⟩) (fun r hr=>hr▸h);clear h;refine biC rfl fun Q hQ=> ?_;unfold bgV;have hpl:=hs.pl;have hp3:=(hC hb).1;obtain⟨p,hp⟩: ∃p,s.bM.getD k default=p:=⟨_,rfl⟩
 have hp':aF s k=p:=hp;have e:((aF s k).queue.length<2∧(aF s k).next<(c.cP.getD k default).length)↔(p.queue.length<2∧p.next<(c.cP.getD k default).length):=by rw[hp']
 repeat' first| (first|apply bn1|refine bpL (fun h=> ?_) fun h=> ?_)<;>(simp only[go_sem,hpl,hp,hp3])|refine⟨by omega,?_⟩|fail
 all_goals first|exact aZ hQ _ rfl rfl (pD (by rw[e];omega))|exact aZ hQ _ rfl rfl (j7 (by rw[e];omega))|exact aZ hQ _ rfl rfl (q9 (by rw[e];omega))
end
end Go.Proofs.YtmccpdapaccnoaaGreat
namespace Go.AM
def a5F (l:List Job):Prop:=l.Pairwise fun a b=>uL b a=false
theorem beB {a b:Job}:uL a b=false↔¬(a.who<b.who∨(a.who=b.who∧a.n<b.n)):=by rw[←Bool.not_eq_true,qL]
theorem beE {S:List Job} {x:Job} (hs:a5F S):a5F (BM S x):=by
 have hA: ∀a∈S.take (S.findIdx (uL x)),uL x a=false:=fun a ha=>by obtain⟨i,hi,rfl⟩:=bqY.1 ha;rw[brU];have:=br9 (p:=uL x) (xs:=S) (i:=i) (by simp at hi;omega);simpa using this
 have hB: ∀b∈S.drop (S.findIdx (uL x)),uL x b=true:=fun b hb=>by
  obtain⟨i,hi,rfl⟩:=bqY.1 hb;rw[List.getElem_drop];simp only[CI] at hi;have hlt:S.findIdx (uL x)<S.length:=by omega
  have h0:uL x S[S.findIdx (uL x)]=true:=bsA (w:=hlt);by_cases h:i=0;·subst h;exact h0
  ·have h1:=Z6.1 hs (S.findIdx (uL x)) (S.findIdx (uL x)+i) (by omega) (by omega) (by omega);rw[beB] at h1;rw[qL] at h0 ⊢;omega
 have hs':(S.take (S.findIdx (uL x))++S.drop (S.findIdx (uL x))).Pairwise fun a b=>uL b a=false:=by rw[boN];exact hs
 unfold BM a5F;rw[brM] at hs' ⊢;obtain⟨h1,h2,h3⟩:=hs';refine⟨h1,G0.2 ⟨fun b hb=> ?_,h2⟩,fun a ha b hb=> ?_⟩;·have:=hB b hb;rw[qL] at this;rw[beB];omega
 ·rcases t3.1 hb with rfl|hb;·exact hA a ha
  ·exact h3 a ha b hb
theorem bd2 (l:List Job):a5F (jX l):=by
 have h: ∀(l acc:List Job),a5F acc→a5F (l.foldl BM acc):=by
  intro l
  induction l with
  |nil=>intro acc h;exact h
  |cons x l ih=>intro acc h;exact ih _ (beE h)
 exact h l [] List.Pairwise.nil
theorem beW {S:List Job} {x:Job} {j:Nat} (hj:j≤S.length) (hs:a5F S) (h0:j=0∨uL x (S.getD (j-1) default)=false) (hB: ∀i,j≤i→i<S.length→uL x (S.getD i default)=true):MS S x j=BM S x:=by
 have hl:(S.take j).length=j:=by simp;omega
 conv=>rhs;rw[←boN j S]
 refine(abS (fun a ha=> ?_) fun b hb=> ?_).symm
 ·rcases h0 with rfl|h0;·simp at ha
  ·obtain⟨i,hi,rfl⟩:=bqY.1 ha;rw[brU];by_cases he:i=j-1;·subst he;have:S.getD (j-1) default=S[j-1]:=(by simp[List.getD,show j-1<S.length by omega]);rw[this] at h0;exact h0
   ·have h1:=Z6.1 hs i (j-1) (by omega) (by omega) (by omega);have h2:S.getD (j-1) default=S[j-1]:=(by simp[List.getD,show j-1<S.length by omega]);rw[h2] at h0;rw[beB] at h0 h1 ⊢;omega
 ·obtain⟨i,hi,rfl⟩:=bqY.1 hb;rw[List.getElem_drop];have:=hB (j+i) (by omega) (by simp at hi;omega);simpa [List.getD,show j+i<S.length by simp at hi;omega] using this
end Go.AM
namespace Go.Proofs.YtmccpdapaccnoaaGreat
open Go Go.AM
attribute [local irreducible] aM wv aB vd wvH
section
variable {H : aA} {nx : Nat} {K : D → aA → Nat → Prop}
theorem a42 {l:List Job} {m cap i0:Nat} (hl:l.length<2^21) (hi:i0<nx) (o0:H i0=some ⟨5,m,l.map aS⟩)
 (h: ∀H' nx',nx≤nx'→H' i0=some ⟨5,m,(jX l).map aS⟩→(∀id,id<nx→id≠i0→H' id=H id)→K (.tup []) H' nx'):
 aB Tryz.prog cL [.one (.c (.osl 5 i0 0 l.length cap)),boP 0,boP l.length,.one (.c (.clo bJ []))] H nx K:=by
 refine mY rfl fun Q hQ=> ?_
 unfold dU
 repeat' first|apply bn1<;>(simp only[go_sem];try simp (disch:=omega) only[Iw])|fail
 refine aM.gP (β:=Nat) (fun k=>en [(8,boP k),(3,.one (.c (.clo bJ []))),(2,boP l.length),(1,boP 0),(0,.one (.c (.osl 5 i0 0 l.length cap)))])
  (fun k H1 _=>1≤k∧(k≤1∨k≤l.length)∧H1 i0=some ⟨5,m,(A5 l k++l.drop k).map aS⟩∧ ∀id,id<nx→id≠i0→H1 id=H id) (fun k=>l.length+1-k) 1
  ⟨noF,_,by repeat' first|exact bo2|refine xqI rfl rfl ?_|refine xqO (by omega) rfl rfl (by rfl) ?_| (with_reducible apply bo3)| ((with_reducible apply bo0);exact bpG (by rfl))| ((with_reducible apply bo1);apply bo7)|fail,aK,by omega,.inl (by omega),by rw[ah3,boN];exact o0,fun _ _ _=>rfl⟩ ?_
 rintro k H1 nx1 hnx ⟨hk1,hk2,bqC,hfr⟩ bpQ hKL
 by_cases hlt:k<l.length
 ·repeat' first|apply bn1<;>(simp only[go_sem])|apply bn2 (by omega)|fail
  obtain⟨S,hS⟩: ∃S,S=A5 l k:=⟨_,rfl⟩
  have hSl:S.length=k:=by rw[hS];exact ahI (by omega)
  obtain⟨x,hx⟩: ∃x,x=l.getD k default:=⟨_,rfl⟩
  have hd:l.drop k=x::l.drop (k+1):=by rw[brB hlt,hx];simp[List.getD,hlt]
  refine aM.gP (β:=Nat) (fun j=>en [(9,boP j),(8,boP k),(3,.one (.c (.clo bJ []))),(2,boP l.length),(1,boP 0),(0,.one (.c (.osl 5 i0 0 l.length cap)))])
   (fun j H2 _=>j≤k∧H2 i0=some ⟨5,m,(MS S x j++l.drop (k+1)).map aS⟩∧(∀i,j≤i→i<S.length→uL x (S.getD i default)=true)∧ ∀id,id<nx→id≠i0→H2 id=H id) (fun j=>j) k
   ⟨noF,_,by repeat' first|exact bo2|refine xqI rfl rfl ?_|refine xqO (by omega) rfl rfl (by rfl) ?_| (with_reducible apply bo3)| ((with_reducible apply bo0);exact bpG (by rfl))| ((with_reducible apply bo1);apply bo7)|fail,aK,m5 _,?_,fun i h1 h2=>by omega,hfr⟩ ?_
  ·rw[bqC,←hS,hd];unfold MS;rw[boL (show S.length≤k by omega),show S.drop k=[] from brZ (by omega)];simp
  rintro j H2 nx2 hnx2 ⟨hj,bfZ,hB,hfr2⟩ bqG hKM;have hLl:(MS S x j++l.drop (k+1)).length=l.length:=by rw[t2,amF (by omega),CI];omega
  have hk0: ∀b,(i0=nx2+b)=False:=fun b=>eq_false (by omega);have hk0': ∀b,(nx2+b=i0)=False:=fun b=>eq_false (by omega);have hback: ∀{e:Env} {H':aA} {n':Nat},nx2≤n'→(j=0∨uL x (S.getD (j-1) default)=false)→H'=H2→CvE H' noF id n' (en [(8,boP (k+1)),(3,.one (.c (.clo bJ []))),(2,boP l.length),(1,boP 0),(0,.one (.c (.osl 5 i0 0 l.length cap)))]) e→bpQ e H' n':=fun h1 h2 h3 h4=>by subst h3;refine hKL _ _ _ (k+1) noF _ (by omega) (by omega) h4 aK ⟨by omega,.inr (by omega),?_,hfr2⟩;rw[bfZ,beW (by omega) (by rw[hS];exact bd2 _) h2 hB,hS,ac8 hlt,hx]
  by_cases hj0:0<j
  ·have hat:=anT (S:=S) (R:=l.drop (k+1)) (x:=x) (j:=j) (by omega);have hah:=adY (S:=S) (R:=l.drop (k+1)) (x:=x) hj0 (by omega);have hsw:=ah1 (S:=S) (R:=l.drop (k+1)) (x:=x) hj0 (by omega);have ej:((j:Int)-1).toNat=j-1:=(by omega);repeat' first| (first|apply bn1|apply bpJ (by omega)|apply xM)<;>(simp only[go_sem,bfZ,hat,hah,ej,hLl,hk0,hk0'];try simp (disch:=omega) only[Iw])|refine bnE (fun h=> ?_) fun h=> ?_|refine⟨by omega,?_⟩|fail
   ·exact hKM _ _ _ (j-1) noF _ (by omega) (by omega) (by repeat' first|exact bo2|refine xqI rfl rfl ?_|refine xqO (by omega) rfl rfl (by rfl) ?_|refine xqV rfl (by omega) ?_| (with_reducible apply bo3)| ((with_reducible apply bo0);exact bpG (by rfl))| ((with_reducible apply bo1);apply bo7)|fail) aK ⟨by omega,by rw[hsw];exact aA.bH,fun i h1 h2=>by
     by_cases he:i=j-1
     ·subst he;exact E7.1 (by assumption)
     ·exact hB i (by omega) h2,fun id boU e1=>by rw[aA.aC e1];exact hfr2 id boU e1⟩
   ·exact hback (by omega) (.inr (by rw[←Bool.not_eq_true,←E7];assumption)) rfl (by repeat' first|exact bo2|refine xqI rfl rfl ?_|refine xqO (by omega) rfl rfl (by rfl) ?_| (with_reducible apply bo3)| ((with_reducible apply bo0);exact bpG (by rfl))| ((with_reducible apply bo1);apply bo7)|fail)
  ·repeat' first| (first|apply bn1|apply bpK (by omega))<;>(simp only[go_sem];try simp (disch:=omega) only[Iw])|fail
   exact hback (by omega) (.inl (by omega)) rfl (by repeat' first|exact bo2|refine xqI rfl rfl ?_|refine xqO (by omega) rfl rfl (by rfl) ?_| (with_reducible apply bo3)| ((with_reducible apply bo0);exact bpG (by rfl))| ((with_reducible apply bo1);apply bo7)|fail)
 ·repeat' first|apply bn1<;>(simp only[go_sem])|apply bn3 (by omega)|fail
  have hd:A5 l k++l.drop k=jX l:=by rw[brZ (by omega),bq6,←aiE];unfold A5;rw[boL (by omega),boL (by omega)]
  rw[hd] at bqC;exact hQ _ _ _ _ _ (.inl rfl) rfl (h _ _ (by omega) bqC hfr)
theorem bb2 {l:List Job} {m cap i0:Nat} (hl:l.length<20) (hi:i0<nx) (o0:H i0=some ⟨5,m,l.map aS⟩)
 (h: ∀H' nx',nx≤nx'→H' i0=some ⟨5,m,(jX l).map aS⟩→(∀id,id<nx→id≠i0→H' id=H id)→K (.tup []) H' nx'):
 aB Tryz.prog gL [.one (.c (.osl 5 i0 0 l.length cap)),boP l.length,.one (.c (.clo bJ []))] H nx K:=by
 refine tL rfl fun Q hQ=> ?_
 unfold gA
 repeat' first|apply bn1<;>(simp only[go_sem])|fail
 refine aM.gP (β:=Unit) (fun _=>en [(8,boP 20),(7,boP 0),(6,boP 20),(2,.one (.c (.clo bJ []))),(1,boP l.length),(0,.one (.c (.osl 5 i0 0 l.length cap)))]) (fun _ H1 _=>H1=H) (fun _=>0) () ⟨noF,_,by repeat' first|exact bo2|refine xqI rfl rfl ?_|refine xqO (by omega) rfl rfl (by rfl) ?_| (with_reducible apply bo3)| ((with_reducible apply bo0);exact bpG (by rfl))| ((with_reducible apply bo1);apply bo7)|fail,aK,rfl⟩ ?_
 rintro u H1 nx1 hnx rfl bpQ hKL
 repeat' first| (first|apply bn1|refine a42 (by omega) (by omega) o0 (fun H' nx' hx' bfZ ffr=> ?_))<;>(simp only[go_sem])|apply bn3 (by omega)|fail
 refine aM.gP (β:=Unit) (fun _=>en [(6,boP 20),(2,.one (.c (.clo bJ []))),(1,boP l.length),(0,.one (.c (.osl 5 i0 0 l.length cap)))]) (fun _ H2 _=>H2=H') (fun _=>0) () ⟨noF,_,by repeat' first|exact bo2|refine xqI rfl rfl ?_|refine xqO (by omega) rfl rfl (by rfl) ?_| (with_reducible apply bo3)| ((with_reducible apply bo0);exact bpG (by rfl))| ((with_reducible apply bo1);apply bo7)|fail,aK,rfl⟩ ?_
 rintro u H2 nx2 hnx2 rfl bqG hKM
 repeat' first|apply bn1<;>(simp only[go_sem])|apply bn3 (by omega)|fail
 exact hQ _ _ _ _ _ (.inl rfl) rfl (h _ _ (by omega) bfZ fun id boU e1=>ffr id (by omega) e1)
theorem a3D {l:List Job} {m cap i0:Nat} (hl:l.length<20) (hi:i0<nx) (o0:H i0=some ⟨5,m,l.map aS⟩)
 (h: ∀H' nx',nx≤nx'→H' i0=some ⟨5,m,(jX l).map aS⟩→(∀id,id<nx→id≠i0→H' id=H id)→K (.tup []) H' nx'):
 aB Tryz.prog cG [.one (.c (.osl 5 i0 0 l.length cap)),.one (.c (.clo bJ []))] H nx K:=by
 refine mA rfl fun Q hQ=> ?_
 unfold dF
 repeat' first| (first|apply bn1|refine bb2 hl (by omega) o0 (fun H' nx' hx' bfZ ffr=> ?_))<;>(simp only[go_sem])|fail
 exact hQ _ _ _ _ _ (.inl rfl) rfl (h _ _ (by omega) bfZ fun id boU e1=>ffr id (by omega) e1)
end
end Go.Proofs.YtmccpdapaccnoaaGreat
