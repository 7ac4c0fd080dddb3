/- Texts laid together by a program: rules, contracts and the walk that leads to the law. -/
import Derived.Test.YtdkfhdmagdaceaaGreatPN6
import Derived.Test.YtdkfhdmagdaceaaGreatPN8
import Derived.Test.YtdkfhdmagdaceaaGreatPN7
import Derived.Test.YtdkfhdmagdaceaaGreatPN4
import Derived.Test.YtdkfhdmagdaceaaGreatPN3
import Derived.Test.YtdkfhdmagdaceaaGreatPN9
set_option linter.unusedVariables false
set_option linter.unusedSimpArgs false
set_option linter.unusedSectionVars false
set_option maxRecDepth 100000
set_option maxHeartbeats 8000000
namespace Go.AM
def eCJ (j:fC):List D1:=[cI j.who,cI j.n,cI j.left]
variable{j:fC}
theorem anW:(eCJ j).length=3:=rfl
theorem aiX:(eCJ j).take 1=[cI j.who]:=rfl
theorem aiI:(eCJ j).drop 1=[cI j.n,cI j.left]:=rfl
theorem ah9:(eCJ j).take 2=[cI j.who,cI j.n]:=rfl
theorem ajA:(eCJ j).drop 2=[cI j.left]:=rfl
theorem agT:(eCJ j).take 3=eCJ j:=rfl
theorem agG:(eCJ j).drop 3=[]:=rfl
variable{cs:List D1}{k:Nat}
theorem alE:iA cs (k+1) (eCJ j)=iA cs (k+1) [cI j.who,cI j.n,cI j.left]:=rfl
theorem yK (j:fC):(eCJ j).length=3∧(eCJ j).all D1.dQ=true:=⟨rfl,rfl⟩
attribute [go_sem] anW aiX aiI ah9 ajA agT agG alE
def cD (p:fR):List D1:=[cI p.next,.isl (p.queue.map aJ),.isl (p.out.map eCJ),cI p.last]
variable{p:fR}
theorem ag6:(cD p).length=4:=rfl
theorem ZZ:(cD p).take 1=[cI p.next]:=rfl
theorem abE:(cD p).drop 1=[.isl (p.queue.map aJ),.isl (p.out.map eCJ),cI p.last]:=rfl
theorem YU:(cD p).take 2=[cI p.next,.isl (p.queue.map aJ)]:=rfl
theorem ZM:(cD p).drop 2=[.isl (p.out.map eCJ),cI p.last]:=rfl
theorem aa2:(cD p).take 3=[cI p.next,.isl (p.queue.map aJ),.isl (p.out.map eCJ)]:=rfl
theorem aa8:(cD p).drop 3=[cI p.last]:=rfl
theorem abO:(cD p).take 4=cD p:=rfl
theorem aaG:(cD p).drop 4=[]:=rfl
theorem aeM:iA cs (k+1) (cD p)=iA cs (k+1) [cI p.next,.isl (p.queue.map aJ),.isl (p.out.map eCJ),cI p.last]:=rfl
theorem t7 (p:fR):(cD p).length=4∧(cD p).all D1.dQ=true:=⟨rfl,rfl⟩
attribute [go_sem] ag6 ZZ abE YU ZM aa2 aa8 abO aaG aeM
def gF (v:nY):List D1:=[.isl (v.pipe.map eCJ),.isl (v.done.map aS),cI v.last]
variable{v:nY}
theorem amX:(gF v).length=3:=rfl
theorem ad9:(gF v).take 1=[.isl (v.pipe.map eCJ)]:=rfl
theorem aeY:(gF v).drop 1=[.isl (v.done.map aS),cI v.last]:=rfl
theorem ab2:(gF v).take 2=[.isl (v.pipe.map eCJ),.isl (v.done.map aS)]:=rfl
theorem ac3:(gF v).drop 2=[cI v.last]:=rfl
theorem ad6:(gF v).take 3=gF v:=rfl
theorem adW:(gF v).drop 3=[]:=rfl
theorem ahZ:iA cs (k+1) (gF v)=iA cs (k+1) [.isl (v.pipe.map eCJ),.isl (v.done.map aS),cI v.last]:=rfl
theorem zJ (v:nY):(gF v).length=3∧(gF v).all D1.dQ=true:=⟨rfl,rfl⟩
attribute [go_sem] amX ad9 aeY ab2 ac3 ad6 adW ahZ
def eI (s:CSt):List D1:=[.isl (s.words.map aJ),.isl (s.holds.map aJ),.isl (s.bM.map cD),.isl (s.dD.map gF),.isl (s.told.map aS)]
variable{s:CSt}
theorem ajM:(eI s).length=5:=rfl
theorem adQ:(eI s).take 1=[.isl (s.words.map aJ)]:=rfl
theorem acL:(eI s).drop 1=[.isl (s.holds.map aJ),.isl (s.bM.map cD),.isl (s.dD.map gF),.isl (s.told.map aS)]:=rfl
theorem aeK:(eI s).take 2=[.isl (s.words.map aJ),.isl (s.holds.map aJ)]:=rfl
theorem aeQ:(eI s).drop 2=[.isl (s.bM.map cD),.isl (s.dD.map gF),.isl (s.told.map aS)]:=rfl
theorem adC:(eI s).take 3=[.isl (s.words.map aJ),.isl (s.holds.map aJ),.isl (s.bM.map cD)]:=rfl
theorem adP:(eI s).drop 3=[.isl (s.dD.map gF),.isl (s.told.map aS)]:=rfl
theorem ab6:(eI s).take 4=[.isl (s.words.map aJ),.isl (s.holds.map aJ),.isl (s.bM.map cD),.isl (s.dD.map gF)]:=rfl
theorem aeD:(eI s).drop 4=[.isl (s.told.map aS)]:=rfl
theorem ac5:(eI s).take 5=eI s:=rfl
theorem aeA:(eI s).drop 5=[]:=rfl
theorem aiO:iA cs (k+1) (eI s)=iA cs (k+1) [.isl (s.words.map aJ),.isl (s.holds.map aJ),.isl (s.bM.map cD),.isl (s.dD.map gF),.isl (s.told.map aS)]:=rfl
attribute [go_sem] ajM adQ acL aeK aeQ adC adP ab6 aeD ac5 aeA aiO
def eH (b:Bool):List D1:=[cB b]
theorem ai9{b:Bool}:(eH b).length=1:=rfl
theorem abL{b:Bool}:(eH b).take 1=[cB b]:=rfl
theorem aaB{b:Bool}:(eH b).drop 1=[]:=rfl
theorem abX{b:Bool}:iA cs (k+1) (eH b)=iA cs (k+1) [cB b]:=rfl
theorem mK (b:Bool):(eH b).length=1∧(eH b).all D1.dQ=true:=⟨rfl,rfl⟩
attribute [go_sem] ai9 abL aaB abX
def eIn (i:CIn):List D1:=[.isl (i.ready.map eH),.isl (i.n9.map eH),.isl (i.send.map eH)]
variable{i:CIn}
theorem aoW:(eIn i).length=3:=rfl
theorem agD:(eIn i).take 1=[.isl (i.ready.map eH)]:=rfl
theorem ah2:(eIn i).drop 1=[.isl (i.n9.map eH),.isl (i.send.map eH)]:=rfl
theorem aiC:(eIn i).take 2=[.isl (i.ready.map eH),.isl (i.n9.map eH)]:=rfl
theorem agZ:(eIn i).drop 2=[.isl (i.send.map eH)]:=rfl
theorem ajC:(eIn i).take 3=eIn i:=rfl
theorem agB:(eIn i).drop 3=[]:=rfl
theorem al9:iA cs (k+1) (eIn i)=iA cs (k+1) [.isl (i.ready.map eH),.isl (i.n9.map eH),.isl (i.send.map eH)]:=rfl
theorem QX (i:CIn):(eIn i).length=3∧(eIn i).all D1.dQ=true:=⟨rfl,rfl⟩
attribute [go_sem] aoW agD ah2 aiC agZ ajC agB al9
structure tZ (H:aA) (n id off len cap:Nat) (R:List (List D1)):Prop where
 ex: ∃m rows,H id=some ⟨n,m,rows⟩∧rows.drop off=R∧off+len≤rows.length∧len=R.length∧len≤cap∧off+cap≤m
def af5 (a no:Nat) (p:fR) (b c d:Nat):List D1:=[cI p.next,.osl 1 a b p.queue.length c,.osl 3 no 0 p.out.length d,cI p.last]
def aj9 (a b:Nat) (v:nY) (c d do_ e:Nat):List D1:=[.osl 3 a c v.pipe.length d,.osl 5 b do_ v.done.length e,cI v.last]
structure CX (H:aA) (nq no:Nat) (p:fR) (r:List D1):Prop where
 ex: ∃qo qc oc,r=af5 nq no p qo qc oc∧tZ H 1 nq qo p.queue.length qc (p.queue.map aJ)∧tZ H 3 no 0 p.out.length oc (p.out.map eCJ)
structure LJ (H:aA) (np nd:Nat) (v:nY) (r:List D1):Prop where
 ex: ∃po pc do_ dc,r=aj9 np nd v po pc do_ dc∧tZ H 3 np po v.pipe.length pc (v.pipe.map eCJ)∧tZ H 5 nd do_ v.done.length dc (v.done.map aS)
def U2 (nm:Nat→Nat) (s:CSt) (wc hc a vc b:Nat):List D1:=[.osl 1 (nm 0) 0 s.words.length wc,.osl 1 (nm 1) 0 s.holds.length hc,.osl 4 (nm 2) 0 3 a,.osl 3 (nm 3) 0 4 vc,.osl 5 (nm 4) 0 s.told.length b]
structure abY (H:aA) (nm:Nat→Nat) (s:CSt) (cells:List D1):Prop where
 ex: ∃wc hc pc vc tc,cells=U2 nm s wc hc pc vc tc∧tZ H 1 (nm 0) 0 s.words.length wc (s.words.map aJ)∧tZ H 1 (nm 1) 0 s.holds.length hc (s.holds.map aJ)∧tZ H 5 (nm 4) 0 s.told.length tc (s.told.map aS)∧
  3≤pc∧4≤vc
 bM: ∃m rows,H (nm 2)=some ⟨4,m,rows⟩∧rows.length=3∧ ∀k,k<3→∃r,rows[k]?=some r∧CX H (nm (5+k)) (nm (8+k)) (aF s k) r
 dD: ∃m rows,H (nm 3)=some ⟨3,m,rows⟩∧rows.length=4∧ ∀k,k<4→∃r,rows[k]?=some r∧LJ H (nm (11+k)) (nm (15+k)) (aL s k) r
structure Names (X:Nat→Prop) (nx:Nat) (nm:Nat→Nat):Prop where
 inj: ∀j k,j<19→k<19→nm j=nm k→j=k
 lt: ∀k,k<19→nm k<nx
 av: ∀k,k<19→¬X (nm k)
structure Rep (X:Nat→Prop) (H:aA) (nx i0:Nat) (nm:Nat→Nat) (s:CSt):Prop where
 st: ∃cells,H i0=some ⟨5,1,[cells]⟩∧abY H nm s cells
 names:Names X nx nm
 ne: ∀k,k<19→nm k≠i0
 i0:i0<nx∧ ¬X i0
 x: ∀id,X id→id<nx
def aqA (Y:Nat→Prop) (H:aA) (nx i1:Nat) (es:List Ev) (d:D1):Prop:=(es=[]∧d= .osl 0 0 0 0 0)∨ ∃ev cap,d= .osl 3 ev 0 es.length cap∧tZ H 3 ev 0 es.length cap (es.map eEv)∧ev<nx∧ ¬Y ev∧ev≠i1
structure aiW (Y:Nat→Prop) (H:aA) (nx i1:Nat) (es:List Ev):Prop where
 ex: ∃d a b c e,H i1=some ⟨5,1,[[d,cI a,cI b,cI c,cI e]]⟩∧aqA Y H nx i1 es d
 i1:i1<nx∧ ¬Y i1
 y: ∀id,Y id→id<nx
variable{H:aA}
theorem aA.aC{a i:Nat}{o:bA} (h:i≠a):H.set a o i=H i:=if_neg h
theorem aA.bH{a:Nat}{o:bA}:H.set a o a=some o:=if_pos rfl
theorem aA.jG{a i:Nat} (h:i≠a):H.del a i=H i:=if_neg h
def eZ (x:Nat):List Nat→Prop
 | []=>True
 |y::l=>((x=y)=False∧(y=x)=False)∧eZ x l
def bQ (nx:Nat):List Nat→Prop
 | []=>True
 |x::l=>((∀k,(x=nx+k)=False)∧(∀k,(nx+k=x)=False)∧(x=nx)=False∧(nx=x)=False)∧eZ x l∧bQ nx l
theorem apZ {x:Nat}: ∀{l:List Nat},x∉l→eZ x l
 | [],_=>trivial
 |y::l,h=>by rw[t3,not_or] at h;exact⟨⟨eq_false h.1,eq_false (Ne.symm h.1)⟩,apZ h.2⟩
theorem apart {nx:Nat}: ∀{l:List Nat},l.Nodup→(∀x∈l,x<nx)→bQ nx l
 | [],_,_=>trivial
 |x::l,h,hl=>by rw[bq8] at h;have b:=hl x (by simp);exact⟨⟨fun k=>eq_false (by omega),fun k=>eq_false (by omega),eq_false (by omega),eq_false (by omega)⟩,apZ h.1,apart h.2 fun y a=>hl y (bq9 _ a)⟩
theorem Names.list {X:Nat→Prop} {nx:Nat} {nm:Nat→Nat} (h:Names X nx nm): ∀{l:List Nat},l.Nodup→(∀k∈l,k<19)→(l.map nm).Nodup
 | [],_,_=>List.Pairwise.nil
 |k::l,b,hl=>by rw[bq8] at b;rw[n3,bq8];refine⟨fun hm=> ?_,h.list b.2 fun j a=>hl j (bq9 _ a)⟩;obtain⟨j,a,he⟩:=CF.1 hm;exact b.1 (h.inj j k (hl j (bq9 _ a)) (hl k (by simp)) he▸a)
theorem Rep.apart {X:Nat→Prop} {H:aA} {nx nx' i0:Nat} {nm:Nat→Nat} {s:CSt} (h:Rep X H nx i0 nm s) (ext l:List Nat) (c:nx≤nx') (he:ext.Nodup) (d: ∀x∈ext,X x) (m:l.Nodup) (hl: ∀k∈l,k<19):bQ nx' (ext++i0::l.map nm):=by
 refine AM.apart (brG.2 ⟨he,bq8.2 ⟨fun hm=> ?_,h.names.list m hl⟩,fun a i b f g=> ?_⟩) fun x c=> ?_;·obtain⟨j,e,he⟩:=CF.1 hm;exact h.ne j (hl j e) he
 ·subst g;rcases t3.1 f with rfl|f;·exact h.i0.2 (d _ i)
  ·obtain⟨j,e,rfl⟩:=CF.1 f;exact h.names.av j (hl j e) (d _ i)
 ·rcases o3.1 c with c|c;·have:=h.x x (d x c);omega
  ·rcases t3.1 c with rfl|c;·have:=h.i0.1;omega
   ·obtain⟨j,e,rfl⟩:=CF.1 c;have:=h.names.lt j (hl j e);omega
theorem tZ.frame {H H':aA} {n id off len cap:Nat} {R:List (List D1)} (h:tZ H n id off len cap R) (he:H' id=H id):tZ H' n id off len cap R:=by obtain⟨m,rows,a,b⟩:=h.ex;exact⟨m,rows,by rw[he,a],b⟩
theorem CX.frame {H H':aA} {a no:Nat} {p:fR} {r:List D1} (h:CX H a no p r) (b:H' a=H a) (c:H' no=H no):CX H' a no p r:=by obtain⟨d,f,g,e,i,j⟩:=h.ex;exact⟨d,f,g,e,i.frame b,j.frame c⟩
theorem LJ.frame {H H':aA} {a b:Nat} {v:nY} {r:List D1} (h:LJ H a b v r) (c:H' a=H a) (d:H' b=H b):LJ H' a b v r:=by obtain⟨f,g,do_,i,e,j,k⟩:=h.ex;exact⟨f,g,do_,i,e,j.frame c,k.frame d⟩
theorem Rep.upd {X:Nat→Prop} {H H':aA} {nx nx' i0:Nat} {nm b:Nat→Nat} {s s':CSt} {who st:Nat} (h:Rep X H nx i0 nm s) (P:nx≤nx') (E:Names X nx' b) (q: ∀k,k<19→b k≠i0)
 (j: ∀k,k<19→k≠4→k≠5+who→k≠8+who→k≠11+st→k≠15+st→b k=nm k) (f: ∀k,5≤k→k<19→k≠5+who→k≠8+who→k≠11+st→k≠15+st→H' (nm k)=H (nm k))
 (F: ∃wc hc n vc o,H' i0=some ⟨5,1,[U2 b s' wc hc n vc o]⟩∧tZ H' 1 (b 0) 0 s'.words.length wc (s'.words.map aJ)∧tZ H' 1 (b 1) 0 s'.holds.length hc (s'.holds.map aJ)∧tZ H' 5 (b 4) 0 s'.told.length o (s'.told.map aS)∧3≤n∧4≤vc)
 (G: ∃m rows m0 a,H (nm 2)=some ⟨4,m0,a⟩∧H' (nm 2)=some ⟨4,m,rows⟩∧rows.length=3∧(∀k,k<3→k≠who→rows[k]?=a[k]?)∧(who<3→∃r,rows[who]?=some r∧CX H' (b (5+who)) (b (8+who)) (aF s' who) r))
 (I: ∃m rows m0 a,H (nm 3)=some ⟨3,m0,a⟩∧H' (nm 3)=some ⟨3,m,rows⟩∧rows.length=4∧(∀k,k<4→k≠st→rows[k]?=a[k]?)∧(st<4→∃r,rows[st]?=some r∧LJ H' (b (11+st)) (b (15+st)) (aL s' st) r))
 (hw:who<3∨who=14) (hs:st<4∨st=8) (hp: ∀k,k<3→k≠who→aF s' k=aF s k) (J: ∀k,k<4→k≠st→aL s' k=aL s k):Rep X H' nx' i0 b s':=by
 obtain⟨⟨cells,K,hex,g,i⟩,p,D,t,L⟩:=h
 refine⟨?_,E,q,⟨by omega,t.2⟩,fun id u=>by have:=L id u;omega⟩
 obtain⟨wc,hc,n,vc,o,M,N⟩:=F
 refine⟨_,M,⟨wc,hc,n,vc,o,rfl,N⟩,?_,?_⟩
 ·obtain⟨m,rows,m0,a,v,w,x,y,z⟩:=G;obtain⟨m1,d,l,O,A⟩:=g;rw[v] at l;obtain⟨_,rfl,rfl⟩:4=4∧m0=m1∧a=d:=by simpa using l
  refine⟨m,rows,by rw[j 2 (by omega) (by omega) (by omega) (by omega) (by omega) (by omega)];exact w,x,fun k c=> ?_⟩;by_cases e:k=who;·subst e;exact z c
  ·obtain⟨r,B,C⟩:=A k c;refine⟨r,by rw[y k c e];exact B,?_⟩;rw[hp k c e,j (5+k) (by omega) (by omega) (by omega) (by omega) (by omega) (by omega),j (8+k) (by omega) (by omega) (by omega) (by omega) (by omega) (by omega)];exact C.frame (f _ (by omega) (by omega) (by omega) (by omega) (by omega) (by omega)) (f _ (by omega) (by omega) (by omega) (by omega) (by omega) (by omega))
 ·obtain⟨m,rows,m0,a,v,w,x,y,z⟩:=I;obtain⟨m1,d,l,O,A⟩:=i;rw[v] at l;obtain⟨_,rfl,rfl⟩:3=3∧m0=m1∧a=d:=by simpa using l
  refine⟨m,rows,by rw[j 3 (by omega) (by omega) (by omega) (by omega) (by omega) (by omega)];exact w,x,fun k c=> ?_⟩;by_cases e:k=st;·subst e;exact z c
  ·obtain⟨r,B,C⟩:=A k c;refine⟨r,by rw[y k c e];exact B,?_⟩;rw[J k c e,j (11+k) (by omega) (by omega) (by omega) (by omega) (by omega) (by omega),j (15+k) (by omega) (by omega) (by omega) (by omega) (by omega) (by omega)];exact C.frame (f _ (by omega) (by omega) (by omega) (by omega) (by omega) (by omega)) (f _ (by omega) (by omega) (by omega) (by omega) (by omega) (by omega))
theorem Rep.frame {X o:Nat→Prop} {H H':aA} {nx nx' i0:Nat} {nm:Nat→Nat} {s:CSt} (h:Rep X H nx i0 nm s) (I:nx≤nx') (p:H' i0=H i0) (a: ∀k,k<19→H' (nm k)=H (nm k)) (f: ∀id,o id→id<nx'∧id≠i0∧ ∀k,k<19→id≠nm k):Rep o H' nx' i0 nm s:=by
 obtain⟨⟨cells,g,⟨wc,hc,q,vc,t,u,v,w,x,y⟩,⟨m,rows,z,A,B⟩,⟨C,c,D,E,F⟩⟩,b,e,G,_⟩:=h
 refine⟨⟨cells,by rw[p];exact g,⟨wc,hc,q,vc,t,u,v.frame (a _ (by omega)),w.frame (a _ (by omega)),x.frame (a _ (by omega)),y⟩,⟨m,rows,by rw[a 2 (by omega)];exact z,A,fun k d=> ?_⟩,⟨C,c,by rw[a 3 (by omega)];exact D,E,fun k d=> ?_⟩⟩,
  ⟨b.inj,fun k d=>by have:=b.lt k d;omega,fun k d i=>(f _ i).2.2 k d rfl⟩,e,⟨by omega,fun i=>(f _ i).2.1 rfl⟩,fun id j=>(f id j).1⟩
 ·obtain⟨r,l,n⟩:=B k d;exact⟨r,l,n.frame (a _ (by omega)) (a _ (by omega))⟩
 ·obtain⟨r,l,n⟩:=F k d;exact⟨r,l,n.frame (a _ (by omega)) (a _ (by omega))⟩
def put (nm:Nat→Nat) (k v:Nat):Nat→Nat:=fun j=>if j=k then v else nm j
variable{nm:Nat→Nat}
theorem t8{v:Nat}:put nm k v k=v:=if_pos rfl
theorem jE{v j:Nat} (h:j≠k):put nm k v j=nm j:=if_neg h
theorem Names.mono{X:Nat→Prop}{nx nx':Nat} (h:Names X nx nm) (b:nx≤nx'):Names X nx' nm:=⟨h.inj,fun k a=>by have:=h.lt k a;omega,h.av⟩
theorem Names.put {X:Nat→Prop} {nx nx':Nat} {nm:Nat→Nat} {k v:Nat} (h:Names X nx nm) (f:nx≤v) (g:v<nx') (e: ¬X v):Names X nx' (put nm k v):=by
 refine⟨fun i j hi d he=> ?_,fun j d=> ?_,fun j d=> ?_⟩;·have a:=h.lt i hi;have b:=h.lt j d;have c:=h.inj i j hi d;unfold AM.put at he;split at he<;>split at he<;>omega
 ·have:=h.lt j d;unfold AM.put;split<;>omega
 ·unfold AM.put;split;·exact e
  ·exact h.av j d
structure l9 (X:Nat→Prop) (H:aA) (nx i0 i1:Nat) (nm:Nat→Nat) (s:CSt) (es:List Ev):Prop where
 rep:Rep (fun id=>X id∨id=i1) H nx i0 nm s
 hap:aiW (fun id=>X id∨id=i0∨ ∃k,k<19∧id=nm k) H nx i1 es
theorem aiW.frame {Y f:Nat→Prop} {H H':aA} {nx nx' i1:Nat} {es:List Ev} (h:aiW Y H nx i1 es) (v:nx≤nx') (j:H' i1=H i1) (g: ∀id,id<nx→¬Y id→H' id=H id) (k: ∀id,f id→id<nx'∧(Y id∨nx≤id)):aiW f H' nx' i1 es:=by
 obtain⟨⟨d,a,b,c,e,p,i⟩,l,w⟩:=h
 have m: ∀id,id<nx→¬Y id→¬f id:=fun id j q r=>by
  rcases(k id r).2 with h|h;·exact q h
  ·omega
 refine⟨⟨d,a,b,c,e,by rw[j];exact p,?_⟩,⟨by omega,m _ l.1 l.2⟩,fun id h=>(k id h).1⟩;rcases i with i|⟨ev,cap,s,t,n,o,u⟩
 ·exact .inl i
 ·exact .inr ⟨ev,cap,s,t.frame (g _ n o),by omega,m _ n o,u⟩
theorem l9.next{X n:Nat→Prop}{H2:aA}{nx f i0 i1:Nat}{es:List Ev} (h:l9 X H nx i0 i1 nm s es) (o:nx≤f) (d: ∀id,id<nx→¬X id→H2 id=H id) (p: ∀id,n id→id<f∧(X id∨nx≤id)):l9 n H2 f i0 i1 nm s es:=by
 have e:=h.rep.i0;have l:=h.hap.i1;have g:=h.rep.names.av;have i:=h.rep.names.lt;refine⟨h.rep.frame o (d i0 e.1 fun j=>e.2 (.inl j)) (fun k b=>d _ (i k b) fun j=>g k b (.inl j)) fun id a=> ?_,h.hap.frame o (d i1 l.1 fun j=>l.2 (.inl j)) (fun id q r=>d id q fun j=>r (.inl j)) fun id a=> ?_⟩
 ·rcases a with a|rfl
  ·obtain⟨m,c⟩:=p id a;refine⟨m,?_,fun k b=> ?_⟩
   ·rintro rfl;rcases c with c|c;·exact e.2 (.inl c)
    ·omega
   ·rintro rfl;have:=i k b;rcases c with c|c;·exact g k b (.inl c)
    ·omega
  ·refine⟨by omega,fun he=>e.2 (.inr he.symm),fun k b he=>g k b (.inr he.symm)⟩
 ·rcases a with a|rfl|⟨k,b,rfl⟩
  ·obtain⟨m,c⟩:=p id a;exact⟨m,c.imp .inl fun h=>h⟩
  ·exact⟨by omega,.inl (.inr (.inl rfl))⟩
  ·have:=i k b;exact⟨by omega,.inl (.inr (.inr ⟨k,b,rfl⟩))⟩
theorem l9.mono{X:Nat→Prop}{nx a i0 i1:Nat}{es:List Ev} (h:l9 X H nx i0 i1 nm s es) (c:nx≤a):l9 X H a i0 i1 nm s es:=h.next c (fun _ _ _=>rfl) fun id b=>⟨by have:=h.rep.x id (.inl b);omega,.inl b⟩
theorem Rep.get{X:Nat→Prop}{nx i0:Nat} (h:Rep X H nx i0 nm s):
 ∃wc hc a vc d mp b l c,H i0=some ⟨5,1,[[.osl 1 (nm 0) 0 s.words.length wc,.osl 1 (nm 1) 0 s.holds.length hc,.osl 4 (nm 2) 0 3 a,.osl 3 (nm 3) 0 4 vc,.osl 5 (nm 4) 0 s.told.length d]]⟩∧H (nm 2)=some ⟨4,mp,b⟩∧H (nm 3)=some ⟨3,l,c⟩∧
  tZ H 1 (nm 0) 0 s.words.length wc (s.words.map aJ)∧tZ H 1 (nm 1) 0 s.holds.length hc (s.holds.map aJ)∧tZ H 5 (nm 4) 0 s.told.length d (s.told.map aS)∧3≤a∧4≤vc∧b.length=3∧c.length=4∧
  (∀k,k<3→∃e f g,b[k]?=some [cI (aF s k).next,.osl 1 (nm (5+k)) e (aF s k).queue.length f,.osl 3 (nm (8+k)) 0 (aF s k).out.length g,cI (aF s k).last]∧tZ H 1 (nm (5+k)) e (aF s k).queue.length f ((aF s k).queue.map aJ)∧tZ H 3 (nm (8+k)) 0 (aF s k).out.length g ((aF s k).out.map eCJ))∧
  ∀k,k<4→∃i a do_ j,c[k]?=some [.osl 3 (nm (11+k)) i (aL s k).pipe.length a,.osl 5 (nm (15+k)) do_ (aL s k).done.length j,cI (aL s k).last]∧tZ H 3 (nm (11+k)) i (aL s k).pipe.length a ((aL s k).pipe.map eCJ)∧tZ H 5 (nm (15+k)) do_ (aL s k).done.length j ((aL s k).done.map aS):=by
 obtain⟨cells,m,⟨wc,hc,a,vc,d,rfl,q,t,u,v,w⟩,⟨mp,b,x,y,z⟩,⟨l,c,A,B,C⟩⟩:=h.st
 refine⟨wc,hc,a,vc,d,mp,b,l,c,m,x,A,q,t,u,v,w,y,B,fun k n=> ?_,fun k n=> ?_⟩
 ·obtain⟨r,o,⟨e,f,g,rfl,p⟩⟩:=z k n;exact⟨e,f,g,o,p⟩
 ·obtain⟨r,o,⟨i,a,do_,j,rfl,p⟩⟩:=C k n;exact⟨i,a,do_,j,o,p⟩
theorem l9.upd {X:Nat→Prop} {H H':aA} {nx nx' i0 i1:Nat} {nm:Nat→Nat} {s:CSt} {es:List Ev} (h:l9 X H nx i0 i1 nm s es) (who st:Nat) (b:Nat→Nat) (s':CSt) (u:nx≤nx') (v:Names (fun id=>X id∨id=i1) nx' b)
 (i: ∀k,k<19→b k=nm k∨((k=4∨k=5+who∨k=8+who∨k=11+st∨k=15+st)∧nx≤b k))
 (e: ∀id,id<nx→id≠i0→(∀k,k<5∨k=5+who∨k=8+who∨k=11+st∨k=15+st→k<19→id≠nm k)→H' id=H id)
 (z: ∃wc hc w vc y,H' i0=some ⟨5,1,[U2 b s' wc hc w vc y]⟩∧tZ H' 1 (b 0) 0 s'.words.length wc (s'.words.map aJ)∧tZ H' 1 (b 1) 0 s'.holds.length hc (s'.holds.map aJ)∧tZ H' 5 (b 4) 0 s'.told.length y (s'.told.map aS)∧3≤w∧4≤vc)
 (A: ∃m rows m0 c,H (nm 2)=some ⟨4,m0,c⟩∧H' (nm 2)=some ⟨4,m,rows⟩∧rows.length=3∧(∀k,k<3→k≠who→rows[k]?=c[k]?)∧(who<3→∃r,rows[who]?=some r∧CX H' (b (5+who)) (b (8+who)) (aF s' who) r))
 (B: ∃m rows m0 c,H (nm 3)=some ⟨3,m0,c⟩∧H' (nm 3)=some ⟨3,m,rows⟩∧rows.length=4∧(∀k,k<4→k≠st→rows[k]?=c[k]?)∧(st<4→∃r,rows[st]?=some r∧LJ H' (b (11+st)) (b (15+st)) (aL s' st) r))
 (hw:who<3∨who=14) (hs:st<4∨st=8) (hp: ∀k,k<3→k≠who→aF s' k=aF s k) (C: ∀k,k<4→k≠st→aL s' k=aL s k):l9 X H' nx' i0 i1 b s' es∧ ∀id,X id→H' id=H id:=by
 have p:=h.rep.names.av
 have q:=h.rep.i0
 have D:=h.hap.i1
 have t:=h.rep.names.lt
 have l: ∀id,X id∨id=i1→H' id=H id:=fun id d=>e id (h.rep.x id d) (fun he=>q.2 (he▸d)) fun k _ i he=>p k i (he▸d)
 refine⟨⟨h.rep.upd (who:=who) (st:=st) u v (fun k a=> ?_) (fun k a f o E F G=> ?_) (fun k G a f o E F=> ?_) z A B hw hs hp C,h.hap.frame u (l _ (.inr rfl)) (fun id f o=> ?_) fun id d=> ?_⟩,fun id d=>l id (.inl d)⟩
 ·rcases i k a with f|f;·rw[f];exact h.rep.ne k a
  ·omega
 ·rcases i k a with g|g;·exact g
  ·omega
 ·refine e _ (t k a) (h.rep.ne k a) fun j I n he=> ?_;have:=h.rep.names.inj k j a n he;omega
 ·exact e id f (fun he=>o (.inr (.inl he))) fun k _ a he=>o (.inr (.inr ⟨k,a,he⟩))
 ·rcases d with d|rfl|⟨k,a,rfl⟩
  ·have:=h.rep.x id (.inl d);exact⟨by omega,.inl (.inl d)⟩
  ·exact⟨by omega,.inl (.inr (.inl rfl))⟩
  ·have:=v.lt k a;rcases i k a with g|g;·exact⟨this,.inl (.inr (.inr ⟨k,a,g⟩))⟩
   ·exact⟨this,.inr g.2⟩
def VK (H:aA) (F:Nat→Prop) (r' r:List D1):Prop:=r'.length=r.length∧ ∀(j:Nat) (a:D1),r'[j]?=some a→∃d,r[j]?=some d∧Frz H F a d
section
variable {H : aA} {F : Nat → Prop} {σ : Nat → Nat} {nh : Nat}
theorem LH:VK H F [] []:=⟨rfl,fun j d h=>by simp at h⟩
theorem fO {x y:D1} {xs ys:List D1} (h:Frz H F x y) (b:VK H F xs ys):VK H F (x::xs) (y::ys):=by
 refine⟨by simp[b.1],fun j d a=> ?_⟩
 match j with
 |0=>simp at a;subst a;exact⟨y,rfl,h⟩
 |j+1=>exact b.2 j d (by simpa using a)
theorem amO {r:List D1} (h: ∀x∈r,x.dQ=true):VK H F r r:=⟨rfl,fun j d a=>⟨d,a,.same d (h d (s3 a))⟩⟩
theorem A8 {r' r:List D1} (h:VK H F r' r):CvL H F σ nh r' r:=⟨h.1,fun i x y b c=>by
 obtain⟨d,a,e⟩:=h.2 i x b
 rw[c] at a;cases a
 exact .frz e⟩
theorem QM {rows:List (List D1)} {n id off len cap:Nat} {o:bA} (l:F id) (m:H id=some o) (p:o.n=n) (hl:len=rows.length) (hlen:off+len≤o.rows.length) (a:len≤cap)
 (hr: ∀i r',rows[i]?=some r'→r'.length=n∧ ∃r,o.rows[off+i]?=some r∧VK H F r' r):Frz H F (.isl rows) (.osl n id off len cap):=by
 subst hl
 refine .frz rows n id off cap o (fun i j=>((o.rows[off+i]?.getD [])[j]?).getD .dead) l m p hlen a (fun i r' h=>(hr i r' h).1) (fun i j r' c e f=> ?_) (fun i j r' c e f=> ?_)
 ·obtain⟨_,r,b,g⟩:=hr i r' e;obtain⟨d,k,_⟩:=g.2 j c f;exact⟨r,b,by rw[b];simp[k]⟩
 ·obtain⟨_,r,b,g⟩:=hr i r' e;obtain⟨d,k,q⟩:=g.2 j c f;rw[b];simpa [k] using q
theorem tZ.frz {n id off len cap:Nat} {R:List (List D1)} (h:tZ H n id off len cap R) (hi:alR n R) (a:F id):Frz H F (.isl R) (.osl n id off len cap):=by
 obtain⟨m,rows,b,c,d,e,f,j⟩:=h.ex;refine QM a b rfl e d f fun i r' hr=>⟨(hi r' (s3 hr)).1,r',?_,amO fun x g=>(hi r' (s3 hr)).2 x g⟩
 subst c;rw[s5] at hr;exact hr
theorem ZX {x:Value}:Frz H F (.v x) (.v x):=.same _ rfl
theorem CX.VI {a no:Nat} {p:fR} {r:List D1} (h:CX H a no p r) (b:F a) (c:F no):VK H F (cD p) r:=by obtain⟨f,g,i,rfl,d,e⟩:=h.ex;exact fO ZX (fO (d.frz (aG bF _) b) (fO (e.frz (aG yK _) c) (fO ZX LH)))
theorem LJ.VI {a b:Nat} {v:nY} {r:List D1} (h:LJ H a b v r) (c:F a) (d:F b):VK H F (gF v) r:=by obtain⟨g,i,o,j,rfl,e,f⟩:=h.ex;exact fO (e.frz (aG yK _) c) (fO (f.frz (aG dZ _) d) (fO ZX LH))
theorem getD_some {α:Type} [Inhabited α] {l:List α} {k:Nat} {x:α} (h:l[k]?=some x):l.getD k default=x∧k<l.length:=by refine⟨by simp[List.getD,h],(m3.1 h).1⟩
theorem abY.VI {nm:Nat→Nat} {s:CSt} {cells:List D1} (h:abY H nm s cells) (a: ∀k,k<19→F (nm k)) (hp:s.bM.length=3) (hs:s.dD.length=4):VK H F (eI s) cells:=by
 obtain⟨⟨wc,hc,w,vc,x,rfl,f,g,j,l,n⟩,⟨m,rows,o,y,q⟩,z,c,t,A,u⟩:=h;refine fO (f.frz (aG bF _) (a _ (by omega))) (fO (g.frz (aG bF _) (a _ (by omega))) (fO ?_ (fO ?_ (fO (j.frz (aG dZ _) (a _ (by omega))) LH))));·refine QM (a _ (by omega)) o rfl (by simp[hp]) (by simp;omega) l fun i r' hr=> ?_;rw[p0,m4] at hr;obtain⟨p,hr,rfl⟩:=hr;obtain⟨d,v⟩:=getD_some hr;obtain⟨r,e,b⟩:=q i (by omega);rw[show aF s i=p from d] at b;exact⟨rfl,r,by rw[Y4];exact e,b.VI (a _ (by omega)) (a _ (by omega))⟩
 ·refine QM (a _ (by omega)) t rfl (by simp[hs]) (by simp;omega) n fun i r' hr=> ?_;rw[p0,m4] at hr;obtain⟨p,hr,rfl⟩:=hr;obtain⟨d,v⟩:=getD_some hr;obtain⟨r,e,b⟩:=u i (by omega);rw[show aL s i=p from d] at b;exact⟨rfl,r,by rw[Y4];exact e,b.VI (a _ (by omega)) (a _ (by omega))⟩
theorem alY {r' r:List D1} {n id:Nat} {o:bA} (c:F id) (f:H id=some o) (g:o.n=n) (hr:o.rows[0]?=some r) (h:VK H F r' r):Frz H F (.fQ r') (.ptr n id 0 0):=
 .ptr r' n id 0 0 o r (fun j=>(r[j]?).getD .dead) c f g hr (fun j d a=>by obtain⟨e,b,_⟩:=h.2 j d a;rw[Y4];simp[b]) (fun j d a=>by obtain⟨e,b,i⟩:=h.2 j d a;simpa [b] using i)
theorem Rep.ar5 {X:Nat→Prop} {nx i0:Nat} {nm:Nat→Nat} {s:CSt} (h:Rep X H nx i0 nm s) (hp:s.bM.length=3) (hs:s.dD.length=4):CvD H (fun _=>True) id 0 (.one (.c (.fQ (eI s)))) (.one (.c (.ptr 5 i0 0 0))):=by obtain⟨cells,a,b⟩:=h.st;exact .frz (alY trivial a rfl rfl (b.VI (fun _ _=>trivial) hp hs))
end
end Go.AM
namespace Go.Proofs.YtdkfhdmagdaceaaGreat
open Go Go.AM
attribute [local irreducible] aM wv aB vd wvH
attribute [go_sem] Y5
section
variable {H : aA} {nx : Nat} {K : D → aA → Nat → Prop}
theorem aRW{old:Int}{new:Int}{g6:Int} (a:0≤old∧old≤65535) (b:0≤new∧new≤65535) (c:0≤g6∧g6≤3) (h:K (boP (xZ old new g6)) H nx):aB Tryz.prog aNH [boP old,boP new,boP g6] H nx K:=by
 refine aB.pure (args0:=[boP old,boP new,boP g6]) (R:=fun d=>d=boP (xZ old new g6)) ?_ rfl (aI ⟨aE rfl,aE rfl,aE rfl,trivial⟩) (fun r hr=>hr▸h);clear h;refine aQM rfl fun Q e=> ?_;unfold aNS;repeat' first| (first|apply bn1|apply bpK (by omega)|apply aBC)<;>(simp only[go_sem,brF a.1,bsG a.1,brF b.1,bsG b.1,brF c.1,bsG c.1];try simp (disch:=omega) only[Iw])|apply bn3 (by omega)|refine bnE (fun h=> ?_) fun h=> ?_|fail
 all_goals first|with_reducible refine aZ e _ rfl rfl ?_|skip
 all_goals exact qA (by unfold xZ;simp[*])
theorem aS1 (w all:List Int) (wc wm:Nat) (g:w.length=64) (h:64≤wc) (i:All all 0 63) (j:all.length<2^21):aB Tryz.prog W3 [boR [.osl 1 0 0 64 wc],dS (all.map aJ)] (hp [(0,⟨1,wm,w.map aJ⟩)]) 1
 fun r H' m=>m=1∧ ∃o',H'=hp [(0,o')]∧C7 o'∧o'=⟨1,wm,w.map aJ⟩∧r=dS ((all.map fun a=>w.getD a.toNat default).map aJ):=by
 refine aR8 rfl fun Q n=> ?_
 unfold aN4
 repeat' first|apply bn1<;>(simp only[go_sem])|fail
 refine aM.sG 2 (β:=Nat×Nat) (fun b u=>en [(6,boP u.1),(5,boQ 1 (b+1) u.1 u.2),(2,bkP 1 b),(1,dS (all.map aJ))])
  (fun b u=>hp [(0,⟨1,wm,w.map aJ⟩),(b,⟨1,1,[[.osl 1 0 0 64 wc]]⟩),(b+1,⟨1,u.2,((all.take u.1).map fun a=>w.getD a.toNat default).map aJ⟩)]) (fun u=>u.1≤all.length∧u.1≤u.2) (fun u=>all.length-u.1) (0,0)
  (by(refine cR [1,3,0] (by omega) (by repeat' first|exact bo2|refine xqI rfl rfl ?_|refine xqP (by omega) rfl rfl ?_|refine xqO (by omega) rfl rfl (by rfl) ?_|fail) ⟨⟨by simp,by simp[sgL],_,rfl,bP (aG bF _) rfl rfl⟩,⟨by simp,by simp[sgL],_,rfl,aP (by repeat' first|exact bo2| (with_reducible first|exact bo4|apply bo5)| ((with_reducible apply bo0);exact bpB (by omega) rfl rfl (by rfl) rfl)|fail)⟩,⟨by simp,by simp[sgL],_,rfl,bP (aG bF _) rfl rfl⟩,trivial⟩ (by simp[sgL]))) ⟨by omega,by omega⟩ ?_
 rintro⟨k,cap⟩ ⟨o,hc⟩ bpQ d
 dsimp only at o hc
 by_cases c:k<all.length
 ·have q:=HB i c;repeat' first|apply bn1<;>(simp only[go_sem];try simp (disch:=omega) only[Iw])|apply bn2 (by omega)| (with_reducible first|refine fun(cap:Nat) (f:_≤cap)=> ?_|refine fun(p:_≤cap)=> ?_)|refine⟨by omega,?_⟩| (refine⟨by(rw[CG];omega),?_⟩)|fail
  refine d _ _ _ (k+1,cap) (by omega) (by(refine cR [6,22,0] (by omega) (by repeat' first|exact bo2|refine xqI rfl rfl ?_|refine xqP (by omega) rfl rfl ?_|refine xqO (by omega) rfl rfl (by rfl) ?_|fail) ⟨⟨by simp,by simp[sgL],_,rfl,bP (aG bF _) rfl rfl⟩,⟨by simp,by simp[sgL],_,rfl,aP (by repeat' first|exact bo2| (with_reducible first|exact bo4|apply bo5)| ((with_reducible apply bo0);exact bpB (by omega) rfl rfl (by rfl) rfl)|fail)⟩,⟨by simp,by simp[sgL],_,rfl,bP (aG bF _) (by rw[nK c,bqX,boL (l:=List.map _ (List.take k all)) (by simp;omega)];rfl) rfl⟩,trivial⟩ (by simp[sgL]))) ⟨by dsimp only;omega,by dsimp only;omega⟩ (by dsimp only;omega)
 ·repeat' first|apply bn1<;>(simp only[go_sem])|apply bn3 (by omega)|fail
  have e:k=all.length:=by omega
  subst e;exact lA n (dS _) _ _ rfl (yP (l:=(all.take all.length).map fun a=>w.getD a.toNat default) bF rfl (by simp) (by simp;omega) (by decide)) rfl (oB bF _) ⟨rfl,by rw[bq4]⟩
variable{w:List Int}
theorem aSW{all:List Int}{wc wm i:Nat} (b:w.length=64) (c:64≤wc) (e:All all 0 63) (d:all.length<2^21) (hi:i<nx) (f:H i=some ⟨1,wm,w.map aJ⟩) (h:K (dS ((all.map fun a=>w.getD a.toNat default).map aJ)) (H.set i ⟨1,wm,w.map aJ⟩) nx):
 aB Tryz.prog W3 [boR [.osl 1 i 0 64 wc],dS (all.map aJ)] H nx K:=
 (aS1 w all wc wm b c e d).OU i rfl (gW ⟨aH (aaF (by omega) rfl rfl rfl rfl) eP,aE rfl,trivial⟩) hi f (oB bF _) fun r o' ⟨g,j⟩=>by subst g;subst j;exact h
theorem aSV (w all data g6:List Int) (wc wm:Nat) (h:w.length=64) (hw:All w 0 65535) (i:64≤wc) (j:All all 0 63) (l:all.length<2^21) (g:All data 0 65535) (m:data.length=all.length) (hl:All g6 0 3) (n:g6.length=all.length):
 aB Tryz.prog H5 [boR [.osl 1 0 0 64 wc],dS (all.map aJ),dS (data.map aJ),dS (g6.map aJ)] (hp [(0,⟨1,wm,w.map aJ⟩)]) 1
 fun r H' o=>o=1∧ ∃o',H'=hp [(0,o')]∧C7 o'∧o'=⟨1,wm,(FV w all data g6 all.length).map aJ⟩∧r=boR [.osl 1 0 0 64 wc]:=by
 refine aRX rfl fun Q p=> ?_
 unfold aN6
 repeat' first|apply bn1<;>(simp only[go_sem])|fail
 refine aM.sG 2 (β:=Nat) (fun b k=>en [(9,boP k),(8,bkP 1 (b+1)),(4,bkP 1 b),(3,dS (g6.map aJ)),(2,dS (data.map aJ)),(1,dS (all.map aJ))])
  (fun b k=>hp [(0,⟨1,wm,(FV w all data g6 k).map aJ⟩),(b,⟨1,1,[[.osl 1 0 0 64 wc]]⟩),(b+1,⟨1,1,[[.osl 0 0 0 0 0]]⟩)]) (fun k=>k≤all.length) (fun k=>all.length-k) 0
  (by(refine cR [1,2,0] (by omega) (by repeat' first|exact bo2|refine xqI rfl rfl ?_|refine xqP (by omega) rfl rfl ?_|fail) ⟨⟨by simp,by simp[sgL],_,rfl,bP (aG bF _) rfl rfl⟩,⟨by simp,by simp[sgL],_,rfl,aP (by repeat' first|exact bo2| (with_reducible first|exact bo4|apply bo5)| ((with_reducible apply bo0);exact bpB (by omega) rfl rfl (by rfl) rfl)|fail)⟩,⟨by simp,by simp[sgL],_,rfl,aP (by repeat' first|exact bo2| (with_reducible first|exact bo4|apply bo5)| ((with_reducible apply bo0);exact bpA)|fail)⟩,trivial⟩ (by simp[sgL]))) (by omega) ?_
 rintro k s bpQ a
 have q:=AX (w:=w) (all:=all) (data:=data) (g6:=g6) k
 have c:=afR (all:=all) (g6:=g6) hw g k
 by_cases d:k<all.length
 ·have t:=HB j d;have e:(all.getD k default).toNat<(FV w all data g6 k).length:=by omega
  repeat' first| (first|apply bn1|apply aRW (HB c e) (HB g (by omega)) (HB hl (by omega)))<;>(simp only[go_sem];try simp (disch:=omega) only[Iw])|apply bn2 (by omega)|refine⟨by omega,?_⟩|fail
  exact a _ _ _ (k+1) (by omega) (by(refine cR [4,5,0] (by omega) (by repeat' first|exact bo2|refine xqI rfl rfl ?_|refine xqP (by omega) rfl rfl ?_|fail) ⟨⟨by simp,by simp[sgL],_,rfl,bP (aG bF _) rfl rfl⟩,⟨by simp,by simp[sgL],_,rfl,aP (by repeat' first|exact bo2| (with_reducible first|exact bo4|apply bo5)| ((with_reducible apply bo0);exact bpB (by omega) rfl rfl (by rfl) rfl)|fail)⟩,⟨by simp,by simp[sgL],_,rfl,aP (by repeat' first|exact bo2| (with_reducible first|exact bo4|apply bo5)| ((with_reducible apply bo0);exact bpA)|fail)⟩,trivial⟩ (by simp[sgL]))) (by omega) (by omega)
 ·repeat' first|apply bn1<;>(simp only[go_sem])|apply bn3 (by omega)|fail
  have f:k=all.length:=by omega
  subst f;exact lA p (boR [.osl 1 0 0 64 wc]) _ _ rfl (aH (aaF (by omega) rfl rfl rfl rfl) eP) rfl (oB bF _) ⟨rfl,rfl⟩
theorem aS5{all data g6:List Int}{wc wm i:Nat} (a:w.length=64) (hw:All w 0 65535) (b:64≤wc) (f:All all 0 63) (c:all.length<2^21) (g:All data 0 65535) (d:data.length=all.length) (hl:All g6 0 3) (e:g6.length=all.length)
 (hi:i<nx) (j:H i=some ⟨1,wm,w.map aJ⟩) (h:K (boR [.osl 1 i 0 64 wc]) (H.set i ⟨1,wm,(FV w all data g6 all.length).map aJ⟩) nx):
 aB Tryz.prog H5 [boR [.osl 1 i 0 64 wc],dS (all.map aJ),dS (data.map aJ),dS (g6.map aJ)] H nx K:=
 (aSV w all data g6 wc wm a hw b f c g d hl e).OU i rfl (gW ⟨aH (aaF (by omega) rfl rfl rfl rfl) eP,aE rfl,aE rfl,aE rfl,trivial⟩) hi j (oB bF _) fun r o' ⟨k,l⟩=>by subst k;subst l;exact h
theorem aSK (w hs all:List Int) (wc wm hc hm:Nat) (q:hs.length=6) (s:6≤hc) (t:all.length<2^21) (y:All all 0 63):
 aB Tryz.prog v9 [boR [.osl 1 0 0 64 wc,.osl 1 1 0 6 hc],dS (all.map aJ)] (hp [(0,⟨1,wm,w.map aJ⟩),(1,⟨1,hm,hs.map aJ⟩)]) 2
 fun r H' z=>z=2∧ ∃a c,H'=hp [(0,a),(1,c)]∧C7 a∧C7 c∧a=⟨1,wm,w.map aJ⟩∧c=⟨1,hm,(iU hs all).map aJ⟩∧r=boR [.osl 1 0 0 64 wc,.osl 1 1 0 6 hc]:=by
 refine aRM rfl fun Q A=> ?_
 unfold aNU
 repeat' first|apply bn1<;>(simp only[go_sem])|fail
 refine aM.sG 2 (β:=Nat) (fun b k=>en [(5,boP k),(4,bkP 2 (b+1)),(2,bkP 2 b),(1,dS (all.map aJ))])
  (fun b k=>hp [(0,⟨1,wm,w.map aJ⟩),(1,⟨1,hm,(xI hs all k).map aJ⟩),(b,⟨2,1,[[.osl 1 0 0 64 wc,.osl 1 1 0 6 hc]]⟩),(b+1,⟨2,1,[[.osl 0 0 0 0 0,.osl 0 0 0 0 0]]⟩)]) (fun k=>k≤6) (fun k=>6-k) 0
  (by(refine cR [2,3,0,1] (by omega) (by repeat' first|exact bo2|refine xqI rfl rfl ?_|refine xqP (by omega) rfl rfl ?_|fail) ⟨⟨by simp,by simp[sgL],_,rfl,bP (aG bF _) rfl rfl⟩,⟨by simp,by simp[sgL],_,rfl,bP (aG bF _) (congrArg _ ac9) rfl⟩,⟨by simp,by simp[sgL],_,rfl,aP (by repeat' first|exact bo2| (with_reducible first|exact bo4|apply bo5)| ((with_reducible apply bo0);exact bpB (by omega) rfl rfl (by rfl) rfl)|fail)⟩,⟨by simp,by simp[sgL],_,rfl,aP (by repeat' first|exact bo2| (with_reducible first|exact bo4|apply bo5)| ((with_reducible apply bo0);exact bpA)|fail)⟩,trivial⟩ (by simp[sgL]))) (by omega) ?_
 rintro k G bpQ g
 have B:=aiJ (all:=all) (show k≤hs.length by omega)
 by_cases C:k<6
 ·have D:=akN (all:=all) (show k<hs.length by omega);have i:=acP (all:=all) (show k<hs.length by omega);repeat' first|apply bn1<;>(simp only[go_sem])|apply bn2 (by omega)|fail
  refine aM.sG 0 (β:=Nat×Int) (fun b u=>en [(6,boP u.1),(5,boP k),(4,bkP 2 6),(2,bkP 2 5),(1,dS (all.map aJ))])
   (fun b u=>hp [(0,⟨1,wm,w.map aJ⟩),(1,⟨1,hm,((xI hs all k).set k u.2).map aJ⟩),(5,⟨2,1,[[.osl 1 0 0 64 wc,.osl 1 1 0 6 hc]]⟩),(6,⟨2,1,[[.osl 0 0 0 0 0,.osl 0 0 0 0 0]]⟩)]) (fun u=>u.1≤all.length∧u.2=if hs.getD k default∈all.take u.1 then-1 else hs.getD k default) (fun u=>all.length-u.1) (0,hs.getD k default)
   (by(refine cR [0,1,5,6] (by omega) (by repeat' first|exact bo2|refine xqI rfl rfl ?_|refine xqP (by omega) rfl rfl ?_|fail) ⟨⟨by simp,by simp[sgL],_,rfl,bP (aG bF _) rfl rfl⟩,⟨by simp,by simp[sgL],_,rfl,bP (aG bF _) (congrArg _ i) rfl⟩,⟨by simp,by simp[sgL],_,rfl,aP (by repeat' first|exact bo2| (with_reducible first|exact bo4|apply bo5)| ((with_reducible apply bo0);exact bpB (by omega) rfl rfl (by rfl) rfl)|fail)⟩,⟨by simp,by simp[sgL],_,rfl,aP (by repeat' first|exact bo2| (with_reducible first|exact bo4|apply bo5)| ((with_reducible apply bo0);exact bpA)|fail)⟩,trivial⟩ (by simp[sgL]))) ⟨by omega,by simp⟩ ?_
  rintro⟨j,v⟩ ⟨E,o⟩ aUS d;dsimp only at E o;by_cases e:j<all.length
  ·have H:=HB y e;have F:((xI hs all k).set k v).getD k default=v:=(by rw[wV (by omega),if_pos rfl]);have f: ∀x,((xI hs all k).set k v).set k x=(xI hs all k).set k x:=fun x=>by rw[bq1]
   have p:=nK e;repeat' first|apply bn1<;>(simp only[go_sem,F,f];try simp (disch:=omega) only[Iw])|apply bn2 (by omega)|refine bnE (fun h=> ?_) fun h=> ?_|refine⟨by omega,?_⟩|fail
   ·exact d _ _ _ (j+1,-1) (by omega) (by(refine cR [0,1,5,6] (by omega) (by repeat' first|exact bo2|refine xqI rfl rfl ?_|refine xqP (by omega) rfl rfl ?_|fail) ⟨⟨by simp,by simp[sgL],_,rfl,bP (aG bF _) rfl rfl⟩,⟨by simp,by simp[sgL],_,rfl,bP (aG bF _) rfl rfl⟩,⟨by simp,by simp[sgL],_,rfl,aP (by repeat' first|exact bo2| (with_reducible first|exact bo4|apply bo5)| ((with_reducible apply bo0);exact bpB (by omega) rfl rfl (by rfl) rfl)|fail)⟩,⟨by simp,by simp[sgL],_,rfl,aP (by repeat' first|exact bo2| (with_reducible first|exact bo4|apply bo5)| ((with_reducible apply bo0);exact bpA)|fail)⟩,trivial⟩ (by simp[sgL]))) ⟨by dsimp only;omega,by dsimp only;rw[p];grind⟩ (by dsimp only;omega)
   ·exact d _ _ _ (j+1,v) (by omega) (by(refine cR [0,1,5,6] (by omega) (by repeat' first|exact bo2|refine xqI rfl rfl ?_|refine xqP (by omega) rfl rfl ?_|fail) ⟨⟨by simp,by simp[sgL],_,rfl,bP (aG bF _) rfl rfl⟩,⟨by simp,by simp[sgL],_,rfl,bP (aG bF _) rfl rfl⟩,⟨by simp,by simp[sgL],_,rfl,aP (by repeat' first|exact bo2| (with_reducible first|exact bo4|apply bo5)| ((with_reducible apply bo0);exact bpB (by omega) rfl rfl (by rfl) rfl)|fail)⟩,⟨by simp,by simp[sgL],_,rfl,aP (by repeat' first|exact bo2| (with_reducible first|exact bo4|apply bo5)| ((with_reducible apply bo0);exact bpA)|fail)⟩,trivial⟩ (by simp[sgL]))) ⟨by dsimp only;omega,by dsimp only;rw[p];grind⟩ (by dsimp only;omega)
  ·have l:j=all.length:=(by omega);subst l;have m:=agQ (x:=v) (show k<hs.length by omega) (by rw[o,bq4]);repeat' first|apply bn1<;>(simp only[go_sem];try simp (disch:=omega) only[Iw])|apply bn3 (by omega)|fail
   exact g _ _ _ (k+1) (by omega) (by(refine cR [5,6,0,1] (by omega) (by repeat' first|exact bo2|refine xqI rfl rfl ?_|refine xqP (by omega) rfl rfl ?_|fail) ⟨⟨by simp,by simp[sgL],_,rfl,bP (aG bF _) rfl rfl⟩,⟨by simp,by simp[sgL],_,rfl,bP (aG bF _) (by rw[m]) rfl⟩,⟨by simp,by simp[sgL],_,rfl,aP (by repeat' first|exact bo2| (with_reducible first|exact bo4|apply bo5)| ((with_reducible apply bo0);exact bpB (by omega) rfl rfl (by rfl) rfl)|fail)⟩,⟨by simp,by simp[sgL],_,rfl,aP (by repeat' first|exact bo2| (with_reducible first|exact bo4|apply bo5)| ((with_reducible apply bo0);exact bpA)|fail)⟩,trivial⟩ (by simp[sgL]))) (by omega) (by omega)
 ·repeat' first|apply bn1<;>(simp only[go_sem])|apply bn3 (by omega)|fail
  have n:k=hs.length:=by omega
  subst n;exact aTE A (boR [.osl 1 0 0 64 wc,.osl 1 1 0 6 hc]) _ _ _ rfl (by repeat' first|exact bo2| ((with_reducible apply bo0);exact bpB (by omega) rfl rfl (by rfl) rfl)| ((with_reducible apply bo1);apply bo6)|exact bo4|apply bo5|fail) rfl rfl (oB bF _) (oB bF _) ⟨rfl,by rw[ahC],rfl⟩
theorem aSH{hs all:List Int}{wc wm hc hm i j:Nat} (a:hs.length=6) (b:6≤hc) (c:all.length<2^21) (g:All all 0 63)
 (hi:i<nx) (k:j<nx) (d:i≠j) (e:H i=some ⟨1,wm,w.map aJ⟩) (f:H j=some ⟨1,hm,hs.map aJ⟩) (h:K (boR [.osl 1 i 0 64 wc,.osl 1 j 0 6 hc]) ((H.set i ⟨1,wm,w.map aJ⟩).set j ⟨1,hm,(iU hs all).map aJ⟩) nx):
 aB Tryz.prog v9 [boR [.osl 1 i 0 64 wc,.osl 1 j 0 6 hc],dS (all.map aJ)] H nx K:=
 (aSK w hs all wc wm hc hm a b c g).aUH i j rfl (gW ⟨aH (aaF (by omega) rfl rfl rfl rfl) (aH (aaF (by omega) rfl rfl rfl rfl) eP),aE rfl,trivial⟩) hi k d e f (oB bF _) (oB bF _) fun r l m ⟨n,o,p⟩=>by subst n;subst o;subst p;exact h
theorem aTB (m:List Rng) (w hs:List Int) (who:Int) (q:Req) (wc wm hc hm:Nat) (v:m.length<2^21) (x:WK w hs) (e:64≤wc) (n:6≤hc) (hw:0≤who∧who≤2) (y:dH q):
 aB Tryz.prog aN2 [dS (m.map eN),boR [.osl 1 0 0 64 wc,.osl 1 1 0 6 hc],boP who,boR (eB q)] (hp [(0,⟨1,wm,w.map aJ⟩),(1,⟨1,hm,hs.map aJ⟩)]) 2
 fun r H' z=>z=2∧ ∃b c,H'=hp [(0,b),(1,c)]∧C7 b∧C7 c∧b=⟨1,wm,(doM m w hs who q).1.1.map aJ⟩∧c=⟨1,hm,(doM m w hs who q).1.2.map aJ⟩∧r= .tup [.agg [.osl 1 0 0 64 wc,.osl 1 1 0 6 hc],.agg (tG (doM m w hs who q).2)]:=by
 obtain⟨f,o,s,A⟩:=x
 obtain⟨B,C,g,i,j,t,u,D⟩:=y
 have E:=DF g
 have F:=ai5 g
 have G:=MK (addr:=q.addr) (many:=q.many) (wrap:=q.wrap)
 have d:All (bE q.addr q.many q.wrap) 0 63:=V1
 have H:=PQ (p:=(inR · ((bE q.addr q.many q.wrap).getD 0 default))) (l:=m)
 have I:bV m (bE q.addr q.many q.wrap)<m.length:=by unfold bV;grind
 have k:wrM q=true→q.data.length=(bE q.addr q.many q.wrap).length∧q.g6.length=(bE q.addr q.many q.wrap).length:=by intro h;unfold wrM at h;unfold n5 at i j;simp at h;simp only[h,if_true] at i j;omega
 refine aSX rfl fun Q a=> ?_
 unfold aOF
 repeat' first| (first|apply bn1| (refine bpM (fun h=> ?_) (fun h=> ?_)<;>try subst h)|apply aC9|apply aDG (by omega) (by omega)|apply aC2|refine aSW f e d (by omega) (by omega) rfl ?_| (refine aS5 f o e d (by omega) t (k (by unfold wrM;simp;omega)).1 u (k (by unfold wrM;simp;omega)).2 (by omega) rfl ?_)|refine aSH s n (by omega) d (by omega) (by omega) (by omega) rfl rfl ?_)<;>(simp only[go_sem];try simp (disch:=omega) only[Iw])|refine bnE (fun h=> ?_) fun h=> ?_| ((refine bnF (fun h=> ?_) (fun h=> ?_))<;>try subst h)|refine⟨by omega,?_⟩|fail
 all_goals have J:=W4 (q:=q)
 all_goals first
  |rw[alZ (by assumption)] at a
  |rw[anB (by assumption) (by assumption) (by assumption)] at a
  |rw[akI (by assumption) (by assumption)] at a
  |rw[amK (by assumption) (by assumption)] at a
  |rw[aqU (by assumption) (by grind) (by assumption) (by assumption)] at a
  |rw[aoE (by assumption) (by grind) (by assumption) (by grind)] at a
  |rw[ao1 (by assumption) (by grind) (by omega)] at a
  | (exfalso;grind)
 all_goals exact aTE a _ _ _ _ rfl (by repeat' first|exact bo2| (with_reducible first|apply aUP|apply aUQ)| ((with_reducible apply bo0);first|exact bo9 rfl|exact bpB (by omega) rfl rfl (by rfl) rfl|exact bpE)|exact bo4|apply bo5|fail) rfl rfl (oB bF _) (oB bF _) ⟨rfl,rfl,rfl⟩
theorem aS7{m:List Rng}{hs:List Int}{who:Int}{q:Req}{wc wm hc hm i j:Nat} (a:m.length<2^21) (g:WK w hs) (b:64≤wc) (c:6≤hc) (hw:0≤who∧who≤2) (k:dH q)
 (hi:i<nx) (l:j<nx) (d:i≠j) (e:H i=some ⟨1,wm,w.map aJ⟩) (f:H j=some ⟨1,hm,hs.map aJ⟩)
 (h:K (.tup [.agg [.osl 1 i 0 64 wc,.osl 1 j 0 6 hc],.agg (tG (doM m w hs who q).2)]) ((H.set i ⟨1,wm,(doM m w hs who q).1.1.map aJ⟩).set j ⟨1,hm,(doM m w hs who q).1.2.map aJ⟩) nx):
 aB Tryz.prog aN2 [dS (m.map eN),boR [.osl 1 i 0 64 wc,.osl 1 j 0 6 hc],boP who,boR (eB q)] H nx K:=
 (aTB m w hs who q wc wm hc hm a g b c hw k).aUH i j rfl (gW ⟨aE rfl,aH (aaF (by omega) rfl rfl rfl rfl) (aH (aaF (by omega) rfl rfl rfl rfl) eP),aE rfl,aE rfl,trivial⟩) hi l d e f (oB bF _) (oB bF _) fun r n o ⟨p,s,t⟩=>by subst p;subst s;subst t;exact h
end
end Go.Proofs.YtdkfhdmagdaceaaGreat
namespace Go.AM
theorem ah1 {S R:List Job} {x:Job} {j:Nat} (c:0<j) (d:j≤S.length):((MS S x j++R).set j (S.getD (j-1) default)).set (j-1) x=MS S x (j-1)++R:=by
 have a:S.take j=S.take (j-1)++[S.getD (j-1) default]:=by have:=nK (l:=S) (k:=j-1) (by omega);rwa [show j-1+1=j by omega] at this
 have b:S.drop (j-1)=S.getD (j-1) default::S.drop j:=by have:=brB (l:=S) (i:=j-1) (by omega);rw[this,show j-1+1=j by omega];simp[List.getD,show j-1<S.length by omega]
 have hl:(S.take (j-1)).length=j-1:=by simp;omega
 unfold MS;rw[a,b];generalize S.take (j-1)=A at*;generalize S.drop j=B;generalize S.getD (j-1) default=y;simp only[C0,List.cons_append,List.nil_append,List.singleton_append];obtain rfl:j=A.length+1:=by omega
 rw[List.set_append_right _ _ (by omega)];simp
theorem anT {S R:List Job} {x:Job} {j:Nat} (a:j≤S.length):(MS S x j++R).getD j default=x:=by
 have hl:(S.take j).length=j:=by simp;omega
 unfold MS;simp[List.getD,hl,C0,brX]
theorem adY {S R:List Job} {x:Job} {j:Nat} (a:0<j) (b:j≤S.length):(MS S x j++R).getD (j-1) default=S.getD (j-1) default:=by unfold MS;simp only[List.getD,C0];rw[brO (by simp;omega),List.getElem?_take_of_lt (by omega)]
end Go.AM
namespace Go.Proofs.YtdkfhdmagdaceaaGreat
open Go Go.AM
attribute [local irreducible] aM wv aB vd wvH
theorem mY:cJ Tryz.prog cL Tryz.f285 dU gU:=cJ.mk Tryz.func285 (by kernel_rfl) m9
theorem tL:cJ Tryz.prog gL Tryz.f214 gA kJ:=cJ.mk Tryz.func214 (by kernel_rfl) sX
theorem mA:cJ Tryz.prog cG Tryz.f130 dF gD:=cJ.mk Tryz.func130 (by kernel_rfl) mB
section
variable {H : aA} {nx : Nat} {K : D → aA → Nat → Prop}
end
attribute [go_sem] agE ai7
section
variable {H : aA} {nx : Nat} {K : D → aA → Nat → Prop}
theorem c9 {a:Job} {b:Job} (h:K (dB (uL a b)) H nx):aB Tryz.prog aKL [boR (aS a),boR (aS b)] H nx K:=by
 refine aB.pure (args0:=[boR (aS a),boR (aS b)]) (R:=fun c=>c=dB (uL a b)) ?_ rfl (aI ⟨aE rfl,aE rfl,trivial⟩) (fun r hr=>hr▸h);clear h;refine aPS rfl fun Q d=> ?_;unfold ap2;repeat' first| (first|apply bn1|refine bpL (fun h=> ?_) fun h=> ?_)<;>(simp only[go_sem])|fail
 all_goals first|with_reducible refine aZ d _ rfl rfl ?_|skip
 all_goals first|exact q9 (by grind)|exact j7 (by grind)|exact pD (by grind)
theorem aKK {l:List Job} {who:Int} {n:Int} (hl:l.length<2^40) (h:K (boP (bK (iM who n) l)) H nx):aB Tryz.prog aIN [dS (l.map aS),boP who,boP n] H nx K:=by
 refine aB.pure (args0:=[dS (l.map aS),boP who,boP n]) (R:=fun c=>c=boP (bK (iM who n) l)) ?_ rfl (aI ⟨aE rfl,aE rfl,aE rfl,trivial⟩) (fun r hr=>hr▸h);clear h;refine aM1 rfl fun Q b=> ?_;unfold aJR;repeat' first|apply bn1<;>(simp only[go_sem])|fail
 (refine aM.loop (α:={k:Nat//k≤l.length∧(∀i,i<k→iM who n (l.getD i default)=false)}) (fun u=>en [(7,boP u.1),(2,boP n),(1,boP who),(0,dS (l.map aS))]) (fun _=>.nil) _ (fun u=>l.length-u.1) ⟨0,by omega,(by intros;first|trivial|omega)⟩ (bU (m5 _) (by repeat' first|exact bo2|refine xqI rfl rfl ?_|fail)) ?_);(rintro⟨k,d,hinv⟩ bpQ a);repeat' first| (first|apply bn1|refine bpL (fun h=> ?_) fun h=> ?_)<;>(simp only[go_sem];try simp (disch:=omega) only[Iw])|refine bnE (fun h=> ?_) fun h=> ?_|refine⟨by omega,?_⟩|fail
 ·refine aZ b _ rfl rfl (qA (bq3 (CU (by omega) (decide_eq_true (by omega)) hinv)))
 · (refine a _ _ _ ⟨k+1,by omega,iS hinv (decide_eq_false (by omega))⟩ (by omega) (by(try dsimp only);omega) (bU (m5 _) (by repeat' first|exact bo2|refine xqI rfl rfl ?_|fail)))
 · (refine a _ _ _ ⟨k+1,by omega,iS hinv (decide_eq_false (by omega))⟩ (by omega) (by(try dsimp only);omega) (bU (m5 _) (by repeat' first|exact bo2|refine xqI rfl rfl ?_|fail)))
 ·refine aZ b _ rfl rfl (qA (bq3 (tI fun i hi=>hinv i (by omega))))
theorem aPM (l:List Job) (j:Job) (hl:l.length<2^21):aB Tryz.prog aJS [dS (l.map aS),boR (aS j)] .nil 0 fun q _ t=>t=0∧q.imm=true∧q=dS ((BM l j).map aS):=by
 refine aSO rfl fun Q r=> ?_;unfold aN3;generalize m:l.findIdx (uL j)=f;repeat' first|apply bn1<;>(simp only[go_sem])|fail
 refine aM.ar4 1 (α:={p:Nat×Nat//p.1≤l.length∧(aN7 l j f p.1).length≤p.2}) (fun b u=>en [(7,boP u.1.1),(6,dB (decide (f<u.1.1))),(5,boQ 5 b (aN7 l j f u.1.1).length u.1.2),(3,.one (.c (.fQ (aS j)))),(0,dS (l.map aS))])
  (fun b u=>hp [(b,⟨5,u.1.2,(aN7 l j f u.1.1).map aS⟩)]) (fun u=>l.length-u.1.1) ⟨(0,0),by omega,by simp[aN7]⟩ (by(refine cR [2] (by omega) (by repeat' first|exact bo2|refine xqI rfl rfl ?_|refine xqO (by omega) rfl rfl (by rfl) ?_| (with_reducible apply bo3)| ((with_reducible apply bo1);exact bpH rfl (by simp) rfl rfl rfl)|fail) ⟨⟨by simp,by simp[sgL],_,rfl,bP (aG dZ _) rfl rfl⟩,trivial⟩ (by simp[sgL]))) ?_
 rintro⟨⟨k,cap⟩,s,hc⟩ bpQ d;dsimp only at s hc;have hlen:=aTU (j:=j) (f:=f) s;by_cases a:k<l.length
 ·have i:=fun e:k≤f=>aT2 (j:=j) a (m▸e);rw[m] at i;repeat' first| (first|apply bn1|refine bpL (fun h=> ?_) fun h=> ?_|apply c9)<;>(simp only[go_sem];try simp (disch:=omega) only[Iw])|apply bn2 (by omega)| (with_reducible first|refine fun(cap:Nat) (g:_≤cap)=> ?_|refine fun(n:_≤cap)=> ?_)| ((refine bnF (fun h=> ?_) (fun h=> ?_))<;>try subst h)|refine⟨by omega,?_⟩|fail
  ·have H:=aT6 (j:=j) a (show k=f from (i (by omega)).1 (by assumption));have aUT:=congrArg List.length H;simp only[t2,List.length_cons,List.length_nil] at aUT;have e:=(i (by omega)).1 (by assumption);(refine d _ _ _ ⟨(k+1,cap),by omega,by dsimp only;omega⟩ (by omega) (by(try dsimp only);omega) (by(refine cR [33] (by omega) (by repeat' first|exact bo2|refine xqI rfl rfl ?_|refine xqO (by omega) rfl rfl (by first|rfl|omega) ?_| (with_reducible apply bo3)| ((with_reducible apply bo0);(exact bpF (by((try dsimp only);exact dbT (by omega))) rfl))| ((with_reducible apply bo1);apply bo7)|fail) ⟨⟨by simp,by simp[sgL],_,rfl,bP (aG dZ _) (congrArg _ H) rfl⟩,trivial⟩ (by simp[sgL]))))
  ·have v: ¬k=f:=fun he=>by have:=(i (by omega)).2 he;simp_all
   have H:=aT3 (j:=j) a (show k<f by omega);have aUT:=congrArg List.length H;simp only[t2,List.length_cons,List.length_nil] at aUT;(refine d _ _ _ ⟨(k+1,cap),by omega,by dsimp only;omega⟩ (by omega) (by(try dsimp only);omega) (by(refine cR [27] (by omega) (by repeat' first|exact bo2|refine xqI rfl rfl ?_|refine xqO (by omega) rfl rfl (by first|rfl|omega) ?_| (with_reducible apply bo3)| ((with_reducible apply bo0);(exact bpF (by((try dsimp only);exact dbE (by omega))) rfl))| ((with_reducible apply bo1);apply bo7)|fail) ⟨⟨by simp,by simp[sgL],_,rfl,bP (aG dZ _) (congrArg _ H) rfl⟩,trivial⟩ (by simp[sgL]))))
  ·have H:=aT8 (j:=j) a (show f<k by omega);have aUT:=congrArg List.length H;simp only[t2,List.length_cons,List.length_nil] at aUT;(refine d _ _ _ ⟨(k+1,cap),by omega,by dsimp only;omega⟩ (by omega) (by(try dsimp only);omega) (by(refine cR [27] (by omega) (by repeat' first|exact bo2|refine xqI rfl rfl ?_|refine xqO (by omega) rfl rfl (by first|rfl|omega) ?_| (with_reducible apply bo3)| ((with_reducible apply bo0);(exact bpF (by((try dsimp only);exact dbE (by omega))) rfl))| ((with_reducible apply bo1);apply bo7)|fail) ⟨⟨by simp,by simp[sgL],_,rfl,bP (aG dZ _) (congrArg _ H) rfl⟩,trivial⟩ (by simp[sgL]))))
 ·have o:k=l.length:=by omega
  subst o;subst m;repeat' first|apply bn1<;>(simp only[go_sem])|apply bn3 (by omega)|refine bnE (fun h=> ?_) fun h=> ?_| (with_reducible first|refine fun(cap:Nat) (g:_≤cap)=> ?_|refine fun(n:_≤cap)=> ?_)|refine⟨by omega,?_⟩|fail
  ·exact V4 r (dS _) _ rfl (yP (l:=aN7 l j _ l.length++[j]) dZ rfl (by simp) (by simp;omega) trivial) rfl (by rw[aTO (by omega)])
  ·exact V4 r (dS _) _ rfl (yP (l:=aN7 l j _ l.length) dZ rfl (by simp) (by omega) trivial) rfl (by rw[aTW (by omega)])
theorem aS4 {l:List Job} {j:Job} (hl:l.length<2^21) (h:K (dS ((BM l j).map aS)) H nx):aB Tryz.prog aJS [dS (l.map aS),boR (aS j)] H nx K:=(aPM l j hl).fresh rfl (fun r hr=>hr▸h)
def oSt (i0 i1 a b wc hc ac c:Nat) (s:TSt):List D1:=[.osl 1 i0 0 64 wc,.osl 1 i1 0 6 hc,.osl 1 a 0 3 ac,.isl (s.wait.map aS),.isl (s.done.map aS),.osl 5 b 0 s.told.length c]
theorem aR1 {l:List Job} {a b:Int} (hl:l.length<2^21) (h:K (dS ((BM l ⟨a,b,oW⟩).map aS)) H nx):aB Tryz.prog aJS [dS (l.map aS),boR [cI a,cI b,cI 0,cI 0,.osl 0 0 0 0 0]] H nx K:=(aPM l ⟨a,b,oW⟩ hl).azZ rfl ⟨aE rfl,aH (bB rfl) (aH (bB rfl) (aH (bB rfl) (aH (bB rfl) (aH xG eP)))),trivial⟩ fun r hr=>hr▸h
theorem aoT {i0 i1 a b wc hc ac c:Nat} {s:TSt}:(oSt i0 i1 a b wc hc ac c s).length=6:=rfl
theorem ak4 {i0 i1 a b wc hc ac c:Nat} {s:TSt}:(oSt i0 i1 a b wc hc ac c s).take 6=oSt i0 i1 a b wc hc ac c s:=rfl
theorem ajY {i0 i1 a b wc hc ac c k:Nat} {s:TSt} {cs:List D1}:iA cs (k+1) (oSt i0 i1 a b wc hc ac c s)=iA cs (k+1) [.osl 1 i0 0 64 wc,.osl 1 i1 0 6 hc,.osl 1 a 0 3 ac,.isl (s.wait.map aS),.isl (s.done.map aS),.osl 5 b 0 s.told.length c]:=rfl
attribute [go_sem] aoT ak4 ajY
theorem bjH {c:Cfg} {s:CSt} {i:CIn} {k:Nat} (hs:COk c s) (N:k<3) (hr:i.ready.getD k default=true) {I:D} (o:CvD H (fun _=>True) id 0 (boR (eI s)) I) (h: ∀r,(fun r=>(vT i s k=none∧r=boP (-1))∨ ∃st:Nat,st<4∧vT i s k=some (.tell k st)∧r=boP st) r→K r H nx):aB Tryz.prog bgR [I,boP k] H nx K:=by
 refine aB.pure (args0:=[boR (eI s),boP k]) (R:=fun r=>(vT i s k=none∧r=boP (-1))∨ ∃st:Nat,st<4∧vT i s k=some (.tell k st)∧r=boP st) ?_ rfl (aI ⟨o,aE rfl,trivial⟩) (h);clear h;refine biV rfl fun Q J=> ?_;unfold bgX;have l:=hs.pl;have m:=hs.sl;obtain⟨y,z⟩:=(hs.port k N).last;obtain⟨p,hp⟩: ∃p,s.bM.getD k default=p:=⟨_,rfl⟩
 have q:aF s k=p:=hp;rw[q] at y z;repeat' first|apply bn1<;>(simp only[go_sem])|fail
 refine aM.gP (β:=Nat) (fun j=>en [(5,boP j),(2,.one (.c (.ptr 5 0 0 0))),(1,boP k)]) (fun j H1 _=>H1 0=some ⟨5,1,[eI s]⟩∧1≤j∧j≤5∧ ∀a,1≤a→a<j→NN s k (pQ s k a)=false) (fun j=>5-j) 1 ⟨noF,_,by repeat' first|exact bo2|refine xqI rfl rfl ?_|refine xqP (by omega) rfl rfl ?_|fail,aK,rfl,by omega,by omega,fun a n A=>by omega⟩ ?_;rintro j H1 O L ⟨bqC,B,P,hinv⟩ bpQ t;by_cases C:j≤4
 ·obtain⟨st,e⟩: ∃st,st=pQ s k j:=⟨_,rfl⟩
  have M:st=((p.last+(j:Int))%4).toNat:=by rw[e,←q];rfl
  have u:st<4:=by omega
  have f:(p.last+(j:Int)).tmod 4=(st:Int):=by rw[brF (by omega)];omega
  obtain⟨v,w⟩: ∃v,s.dD.getD st default=v:=⟨_,rfl⟩
  have g:aL s st=v:=w;by_cases o:v.done.length=0
  ·have hlen:(0<(v.done.length:Int))=False:=eq_false (by omega);repeat' first|apply bn1<;>(simp only[go_sem,bqC,l,m,hp,w,f,hlen];try simp (disch:=omega) only[Iw])|apply bn2 (by omega)|refine⟨by omega,?_⟩|fail
   exact t _ _ _ (j+1) noF _ (by omega) (by omega) (by repeat' first|exact bo2|refine xqI rfl rfl ?_|refine xqP (by omega) rfl rfl ?_|fail) aK ⟨bqC,by omega,by omega,fun a n A=>by
    by_cases E:a<j
    ·exact hinv a n E
    ·have:a=j:=(by omega);subst this;rw[←e];exact decide_eq_false fun hc=>by rw[g] at hc;omega⟩
  have hlen:(0<(v.done.length:Int))=True:=eq_true (by omega);obtain⟨d,x⟩: ∃d,v.done.getD 0 default=d:=⟨_,rfl⟩
  by_cases b:d.who=k
  ·have F:(d.who=(k:Int))=True:=eq_true b;repeat' first|apply bn1<;>(simp only[go_sem,bqC,l,m,hp,w,f,hlen,x,F];try simp (disch:=omega) only[Iw])|apply bn2 (by omega)|refine⟨by omega,?_⟩|fail
   refine aZ J _ rfl rfl (.inr ⟨st,u,?_,rfl⟩);rw[e];exact acB hr B C hinv (by rw[←e];exact decide_eq_true ⟨by rw[g];omega,by rw[g,x];exact b⟩)
  ·have G:(d.who=(k:Int))=False:=eq_false b;repeat' first|apply bn1<;>(simp only[go_sem,bqC,l,m,hp,w,f,hlen,x,G];try simp (disch:=omega) only[Iw])|apply bn2 (by omega)|refine⟨by omega,?_⟩|fail
   exact t _ _ _ (j+1) noF _ (by omega) (by omega) (by repeat' first|exact bo2|refine xqI rfl rfl ?_|refine xqP (by omega) rfl rfl ?_|fail) aK ⟨bqC,by omega,by omega,fun a n A=>by
    by_cases E:a<j
    ·exact hinv a n E
    ·have:a=j:=(by omega);subst this;rw[←e];exact decide_eq_false fun hc=>b (by rw[←x,←g];exact hc.2)⟩
 ·repeat' first|apply bn1<;>(simp only[go_sem])|apply bn3 (by omega)|fail
  exact aZ J _ rfl rfl (.inl ⟨acZ fun a n A=>hinv a n (by omega),rfl⟩)
theorem bgY {c:Cfg} {s:CSt} {st:Nat} (hs:COk c s) (l:st<4) {i:D} (a:CvD H (fun _=>True) id 0 (boR (eI s)) i) (h:K (dB (decide (0<(aL s st).pipe.length∧(bI s st).left=0∧(aL s st).done.length<2))) H nx):aB Tryz.prog bgN [i,boP st] H nx K:=by
 refine aB.pure (args0:=[boR (eI s),boP st]) (R:=fun m=>m=dB (decide (0<(aL s st).pipe.length∧(bI s st).left=0∧(aL s st).done.length<2))) ?_ rfl (aI ⟨a,aE rfl,trivial⟩) (fun r hr=>hr▸h);clear h;refine biH rfl fun Q b=> ?_;unfold bgU;have f:=hs.sl;obtain⟨v,j⟩: ∃v,s.dD.getD st default=v:=⟨_,rfl⟩
 have g:aL s st=v:=j;obtain⟨d,k⟩: ∃d,v.pipe.getD 0 default=d:=⟨_,rfl⟩
 have e:(0<(aL s st).pipe.length∧(bI s st).left=0∧(aL s st).done.length<2)↔(0<v.pipe.length∧d.left=0∧v.done.length<2):=by unfold bI;rw[g,k]
 repeat' first| (first|apply bn1|refine bpL (fun h=> ?_) fun h=> ?_)<;>(simp only[go_sem,f,j,k])|refine⟨by omega,?_⟩|fail
 all_goals first|exact aZ b _ rfl rfl (pD (by rw[e];omega))|exact aZ b _ rfl rfl (j7 (by rw[e];omega))|exact aZ b _ rfl rfl (q9 (by rw[e];omega))
theorem bhT {c:Cfg} {s:CSt} {k:Nat} (i:aQ c) (hs:COk c s) (l:k<3) {d1:D} (a:CvD H (fun _=>True) id 0 (boR (eI s)) d1) (h:K (dB (decide ((aF s k).queue.length<2∧(aF s k).next<(c.cP.getD k default).length))) H nx):aB Tryz.prog bgM [boR (cU c),d1,boP k] H nx K:=by
 refine aB.pure (args0:=[boR (cU c),boR (eI s),boP k]) (R:=fun j=>j=dB (decide ((aF s k).queue.length<2∧(aF s k).next<(c.cP.getD k default).length))) ?_ rfl (aI ⟨aE rfl,a,aE rfl,trivial⟩) (fun r hr=>hr▸h);clear h;refine biC rfl fun Q b=> ?_;unfold bgV;have d:=hs.pl;have f:=(hC i).1;obtain⟨p,hp⟩: ∃p,s.bM.getD k default=p:=⟨_,rfl⟩
 have g:aF s k=p:=hp;have e:((aF s k).queue.length<2∧(aF s k).next<(c.cP.getD k default).length)↔(p.queue.length<2∧p.next<(c.cP.getD k default).length):=by rw[g]
 repeat' first| (first|apply bn1|refine bpL (fun h=> ?_) fun h=> ?_)<;>(simp only[go_sem,d,hp,f])|refine⟨by omega,?_⟩|fail
 all_goals first|exact aZ b _ rfl rfl (pD (by rw[e];omega))|exact aZ b _ rfl rfl (j7 (by rw[e];omega))|exact aZ b _ rfl rfl (q9 (by rw[e];omega))
end
end Go.Proofs.YtdkfhdmagdaceaaGreat
