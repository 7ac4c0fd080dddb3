/- Texts laid together by a program: rules, contracts and the walk that leads to the law. -/
import Derived.Test.YtdkfhdmagdaceaaGreatPJ4
import Derived.Test.YtdkfhdmagdaceaaGreatPJ6
import Derived.Test.YtdkfhdmagdaceaaGreatPJ5
import Derived.Test.YtdkfhdmagdaceaaGreatPJ3
import Derived.OpenShut
import Derived.Below
set_option linter.unusedVariables false
set_option linter.unusedSimpArgs false
set_option linter.unusedSectionVars false
set_option maxRecDepth 100000
set_option maxHeartbeats 8000000
namespace Go.AM
variable{k:Nat}
theorem akU{α:Type}{l:List α}:(B3 l k).Sublist l:=by unfold B3;have h:=(List.Sublist.refl (l.take k)).append (bsK l (Nat.le_succ k));rwa [boN] at h
theorem ajV{α:Type} [Inhabited α]{p:α→Bool}{l:List α} (h:0≤bK p l):(bK p l).toNat<l.length∧p (l.getD (bK p l).toNat default)=true:=by
 have c:=PQ (p:=p) (l:=l);refine⟨by omega,?_⟩;unfold bK at*;split at h;·rename_i i hi;have:=Z4.1 hi;obtain⟨a,b,_⟩:=this;simpa [List.getD,a] using b
 ·omega
theorem PJ{l:List fC}{n:Int} (h: ∃j∈l,j.n=n):(bK (isC n) l).toNat<l.length∧(l.getD (bK (isC n) l).toNat default).n=n:=by obtain⟨j,a,b⟩:=h;have c:0≤bK (isC n) l:=cH.2 ⟨j,a,by simp[isC,b]⟩;obtain⟨d,e⟩:=ajV c;exact⟨d,by simpa [isC] using e⟩
theorem TA{l:List fC}{n:Int}:(PE l n).Sublist l:=akU
theorem QF{α:Type} [Inhabited α]{l:List α}{i:Nat}:(l.drop 1).getD i default=l.getD (i+1) default:=by
 cases l with
 |nil=>simp
 |cons x l=>simp
theorem WI{α:Type} [Inhabited α]{l:List α}{x:α}{i:Nat}:(l++[x]).getD i default=if i=l.length then x else l.getD i default:=by
 simp only[List.getD,o5];split;·rw[if_neg (by omega)]
 ·split;·rename_i h;subst h;simp
  ·rename_i a b;rw[Z3 (by simp;omega),Z3 (by omega)]
theorem ZO{l:List fC} (h:l.Pairwise fun a b=>a.n<b.n){a b:fC} (e:a∈l) (f:b∈l) (he:a.n=b.n):a=b:=by
 induction l with
 |nil=>simp at e
 |cons x l j=>
  rw[G0] at h;rcases t3.1 e with g|i
  ·rcases t3.1 f with c|d;·rw[g,c]
   ·have:=h.1 b d;rw[g] at he;omega
  ·rcases t3.1 f with c|d;·have:=h.1 a i;rw[c] at he;omega
   ·exact j h.2 i d
variable{c:Cfg}{s:CSt}
theorem Z0.wT{a:CSt}{st:Nat} (h:Z0 c s st) (he:aL a st=aL s st) (f: ∀x∈cS (aL s st),∀j∈(aF s x.1.toNat).out,j.n=x.2→j.left=st→j∈(aF a x.1.toNat).out):Z0 c a st:=by refine⟨by rw[he];exact h.pl,by rw[he];exact h.dl,by rw[he];exact h.last,by rw[he];exact h.inc,fun x b=> ?_,by rw[he];exact h.rsp,by rw[he];exact h.left⟩;rw[he] at b;obtain⟨g,j,i,d,e⟩:=h.out x b;exact⟨g,j,f x b j i d e,d,e⟩
variable{p:fR}
theorem mD.tell{who:Nat} (h:mD c who p){n:Int}{st:Nat} (g:st<4):mD c who {p with out:=PE p.out n,last:=st}:=by have hm: ∀j∈PE p.out n,j∈p.out:=fun j d=>TA.subset d;exact⟨h.next,h.ql,CQ TA.length_le h.ol,by dsimp only;omega,h.queue,fun j d=>h.out j (hm j d),h.acX.sublist TA,fun a e b f=>h.akF a (hm a e) b (hm b f)⟩
theorem mD.adm{who:Nat} (h:mD c who p){st:Nat} (l:0<p.queue.length) (s:p.out.length<4) (m:gZ c.map (bT c who (p.queue.getD 0 default))=st)
 (k: ∀j∈p.out,(bT c who j.n).id=(bT c who (p.queue.getD 0 default)).id→j.left=st):mD c who {p with queue:=p.queue.drop 1,out:=p.out++[⟨who,p.queue.getD 0 default,st⟩]}:=by
 have o:=h.queue 0 l
 have q:=h.next
 have r:=h.ql
 have hl:(p.queue.drop 1).length=p.queue.length-1:=by simp
 refine⟨q,by dsimp only;omega,by simp;omega,h.last,fun i hi=> ?_,fun j f=> ?_,?_,fun a e b d g=> ?_⟩
 ·dsimp only at hi ⊢;rw[QF,h.queue (i+1) (by omega)];omega
 ·dsimp only at f ⊢;rcases o3.1 f with f|f;·have:=h.out j f;exact⟨this.1,by omega,this.2.2⟩
  ·simp only[CJ] at f;subst f;exact⟨rfl,by dsimp only;omega,m.symm⟩
 ·dsimp only;rw[brM];refine⟨h.acX,by simp,fun a e b d=> ?_⟩;simp only[CJ] at d;subst d;have:=(h.out a e).2.1;dsimp only;omega
 ·dsimp only at e d;rcases o3.1 e with e|e<;>rcases o3.1 d with d|d;·exact h.akF a e b d g
  ·simp only[CJ] at d;subst d;exact k a e g
  ·simp only[CJ] at e;subst e;exact(k b d g.symm).symm
  ·simp only[CJ] at e d;subst e;subst d;rfl
theorem mD.ask{who:Nat} (h:mD c who p) (d:p.queue.length<2) (e:p.next<(c.cP.getD who default).length):mD c who {p with queue:=p.queue++[p.next],next:=p.next+1}:=by
 have f:=h.next;have a:=h.ql;refine⟨by dsimp only;omega,by simp;omega,h.ol,h.last,fun i hi=> ?_,fun j b=> ?_,h.acX,h.akF⟩
 ·simp only[t2,List.length_singleton] at hi ⊢;rw[WI];split;·omega
  ·rw[h.queue i (by omega)];omega
 ·have:=h.out j b;refine⟨this.1,?_,this.2.2⟩;simp only[t2,List.length_singleton];omega
def dR (c:Cfg) (s:CSt) (l:List Mic):CSt:=l.foldl (aR c) s
def iP (c:Cfg):CSt→List Mic→List Ev
 |_,[]=>[]
 |s,m::l=>y0 s m++iP c (aR c s m) l
def sM (s:CSt) (st k:Nat):Nat:=(((aL s st).last+(k:Int))%3).toNat
def KE (c:Cfg) (s:CSt) (used:List Bool) (st who:Nat):Bool:= !(used.getD who default)&&decide (HV c s who st)
def AO (c:Cfg) (s:CSt) (used:List Bool) (st:Nat):Option Nat:=if (aL s st).pipe.length<2 then ([1,2,3].map (sM s st)).find? (KE c s used st) else none
def vE (c:Cfg) (f:CSt→Nat→Option Mic):CSt→List Nat→List Mic
 |_,[]=>[]
 |s,k::l=>match f s k with
  |none=>vE c f s l
  |some m=>m::vE c f (aR c s m) l
def oP (c:Cfg):CSt→List Bool→List Nat→List Mic
 |_,_,[]=>[]
 |s,u,st::l=>match AO c s u st with
  |none=>oP c s u l
  |some who=>.adm who st::oP c (aR c s (.adm who st)) (u.set who true) l
def eCJ (j:fC):List D1:=[cI j.who,cI j.n,cI j.left]
variable{j:fC}
theorem anW:(eCJ j).length=3:=rfl
theorem aiX:(eCJ j).take 1=[cI j.who]:=rfl
theorem aiI:(eCJ j).drop 1=[cI j.n,cI j.left]:=rfl
theorem ah9:(eCJ j).take 2=[cI j.who,cI j.n]:=rfl
theorem ajA:(eCJ j).drop 2=[cI j.left]:=rfl
theorem agT:(eCJ j).take 3=eCJ j:=rfl
theorem agG:(eCJ j).drop 3=[]:=rfl
variable{cs:List D1}
theorem alE:iA cs (k+1) (eCJ j)=iA cs (k+1) [cI j.who,cI j.n,cI j.left]:=rfl
attribute [go_sem] anW aiX aiI ah9 ajA agT agG alE
def cD (p:fR):List D1:=[cI p.next,.isl (p.queue.map aJ),.isl (p.out.map eCJ),cI p.last]
theorem ag6:(cD p).length=4:=rfl
theorem ZZ:(cD p).take 1=[cI p.next]:=rfl
theorem abE:(cD p).drop 1=[.isl (p.queue.map aJ),.isl (p.out.map eCJ),cI p.last]:=rfl
theorem YU:(cD p).take 2=[cI p.next,.isl (p.queue.map aJ)]:=rfl
theorem ZM:(cD p).drop 2=[.isl (p.out.map eCJ),cI p.last]:=rfl
theorem aa2:(cD p).take 3=[cI p.next,.isl (p.queue.map aJ),.isl (p.out.map eCJ)]:=rfl
theorem aa8:(cD p).drop 3=[cI p.last]:=rfl
theorem abO:(cD p).take 4=cD p:=rfl
theorem aaG:(cD p).drop 4=[]:=rfl
theorem aeM:iA cs (k+1) (cD p)=iA cs (k+1) [cI p.next,.isl (p.queue.map aJ),.isl (p.out.map eCJ),cI p.last]:=rfl
attribute [go_sem] ag6 ZZ abE YU ZM aa2 aa8 abO aaG aeM
def gF (v:nY):List D1:=[.isl (v.pipe.map eCJ),.isl (v.done.map aS),cI v.last]
variable{v:nY}
theorem amX:(gF v).length=3:=rfl
theorem ad9:(gF v).take 1=[.isl (v.pipe.map eCJ)]:=rfl
theorem aeY:(gF v).drop 1=[.isl (v.done.map aS),cI v.last]:=rfl
theorem ab2:(gF v).take 2=[.isl (v.pipe.map eCJ),.isl (v.done.map aS)]:=rfl
theorem ac3:(gF v).drop 2=[cI v.last]:=rfl
theorem ad6:(gF v).take 3=gF v:=rfl
theorem adW:(gF v).drop 3=[]:=rfl
theorem ahZ:iA cs (k+1) (gF v)=iA cs (k+1) [.isl (v.pipe.map eCJ),.isl (v.done.map aS),cI v.last]:=rfl
attribute [go_sem] amX ad9 aeY ab2 ac3 ad6 adW ahZ
def eI (s:CSt):List D1:=[.isl (s.words.map aJ),.isl (s.holds.map aJ),.isl (s.bM.map cD),.isl (s.dD.map gF),.isl (s.told.map aS)]
theorem ajM:(eI s).length=5:=rfl
theorem adQ:(eI s).take 1=[.isl (s.words.map aJ)]:=rfl
theorem acL:(eI s).drop 1=[.isl (s.holds.map aJ),.isl (s.bM.map cD),.isl (s.dD.map gF),.isl (s.told.map aS)]:=rfl
theorem aeK:(eI s).take 2=[.isl (s.words.map aJ),.isl (s.holds.map aJ)]:=rfl
theorem aeQ:(eI s).drop 2=[.isl (s.bM.map cD),.isl (s.dD.map gF),.isl (s.told.map aS)]:=rfl
theorem adC:(eI s).take 3=[.isl (s.words.map aJ),.isl (s.holds.map aJ),.isl (s.bM.map cD)]:=rfl
theorem adP:(eI s).drop 3=[.isl (s.dD.map gF),.isl (s.told.map aS)]:=rfl
theorem ab6:(eI s).take 4=[.isl (s.words.map aJ),.isl (s.holds.map aJ),.isl (s.bM.map cD),.isl (s.dD.map gF)]:=rfl
theorem aeD:(eI s).drop 4=[.isl (s.told.map aS)]:=rfl
theorem ac5:(eI s).take 5=eI s:=rfl
theorem aeA:(eI s).drop 5=[]:=rfl
theorem aiO:iA cs (k+1) (eI s)=iA cs (k+1) [.isl (s.words.map aJ),.isl (s.holds.map aJ),.isl (s.bM.map cD),.isl (s.dD.map gF),.isl (s.told.map aS)]:=rfl
attribute [go_sem] ajM adQ acL aeK aeQ adC adP ab6 aeD ac5 aeA aiO
def eH (b:Bool):List D1:=[cB b]
theorem ai9{b:Bool}:(eH b).length=1:=rfl
theorem abL{b:Bool}:(eH b).take 1=[cB b]:=rfl
theorem aaB{b:Bool}:(eH b).drop 1=[]:=rfl
theorem abX{b:Bool}:iA cs (k+1) (eH b)=iA cs (k+1) [cB b]:=rfl
attribute [go_sem] ai9 abL aaB abX
def eIn (i:CIn):List D1:=[.isl (i.ready.map eH),.isl (i.n9.map eH),.isl (i.send.map eH)]
variable{i:CIn}
theorem aoW:(eIn i).length=3:=rfl
theorem agD:(eIn i).take 1=[.isl (i.ready.map eH)]:=rfl
theorem ah2:(eIn i).drop 1=[.isl (i.n9.map eH),.isl (i.send.map eH)]:=rfl
theorem aiC:(eIn i).take 2=[.isl (i.ready.map eH),.isl (i.n9.map eH)]:=rfl
theorem agZ:(eIn i).drop 2=[.isl (i.send.map eH)]:=rfl
theorem ajC:(eIn i).take 3=eIn i:=rfl
theorem agB:(eIn i).drop 3=[]:=rfl
theorem al9:iA cs (k+1) (eIn i)=iA cs (k+1) [.isl (i.ready.map eH),.isl (i.n9.map eH),.isl (i.send.map eH)]:=rfl
attribute [go_sem] aoW agD ah2 aiC agZ ajC agB al9
structure tZ (H:aA) (n id off len cap:Nat) (R:List (List D1)):Prop where
 ex: ∃m rows,H id=some ⟨n,m,rows⟩∧rows.drop off=R∧off+len≤rows.length∧len=R.length∧len≤cap∧off+cap≤m
def af5 (a no:Nat) (p:fR) (b c d:Nat):List D1:=[cI p.next,.osl 1 a b p.queue.length c,.osl 3 no 0 p.out.length d,cI p.last]
def aj9 (a b:Nat) (v:nY) (c d do_ e:Nat):List D1:=[.osl 3 a c v.pipe.length d,.osl 5 b do_ v.done.length e,cI v.last]
structure CX (H:aA) (nq no:Nat) (p:fR) (r:List D1):Prop where
 ex: ∃qo qc oc,r=af5 nq no p qo qc oc∧tZ H 1 nq qo p.queue.length qc (p.queue.map aJ)∧tZ H 3 no 0 p.out.length oc (p.out.map eCJ)
structure LJ (H:aA) (np nd:Nat) (v:nY) (r:List D1):Prop where
 ex: ∃po pc do_ dc,r=aj9 np nd v po pc do_ dc∧tZ H 3 np po v.pipe.length pc (v.pipe.map eCJ)∧tZ H 5 nd do_ v.done.length dc (v.done.map aS)
def U2 (nm:Nat→Nat) (s:CSt) (a b c vc d:Nat):List D1:=[.osl 1 (nm 0) 0 s.words.length a,.osl 1 (nm 1) 0 s.holds.length b,.osl 4 (nm 2) 0 3 c,.osl 3 (nm 3) 0 4 vc,.osl 5 (nm 4) 0 s.told.length d]
structure abY (H:aA) (nm:Nat→Nat) (s:CSt) (cells:List D1):Prop where
 ex: ∃wc hc pc vc tc,cells=U2 nm s wc hc pc vc tc∧tZ H 1 (nm 0) 0 s.words.length wc (s.words.map aJ)∧tZ H 1 (nm 1) 0 s.holds.length hc (s.holds.map aJ)∧tZ H 5 (nm 4) 0 s.told.length tc (s.told.map aS)∧
  3≤pc∧4≤vc
 bM: ∃m rows,H (nm 2)=some ⟨4,m,rows⟩∧rows.length=3∧ ∀k,k<3→∃r,rows[k]?=some r∧CX H (nm (5+k)) (nm (8+k)) (aF s k) r
 dD: ∃m rows,H (nm 3)=some ⟨3,m,rows⟩∧rows.length=4∧ ∀k,k<4→∃r,rows[k]?=some r∧LJ H (nm (11+k)) (nm (15+k)) (aL s k) r
structure Names (X:Nat→Prop) (nx:Nat) (nm:Nat→Nat):Prop where
 inj: ∀j k,j<19→k<19→nm j=nm k→j=k
 lt: ∀k,k<19→nm k<nx
 av: ∀k,k<19→¬X (nm k)
structure Rep (X:Nat→Prop) (H:aA) (nx i0:Nat) (nm:Nat→Nat) (s:CSt):Prop where
 st: ∃cells,H i0=some ⟨5,1,[cells]⟩∧abY H nm s cells
 names:Names X nx nm
 ne: ∀k,k<19→nm k≠i0
 i0:i0<nx∧ ¬X i0
 x: ∀id,X id→id<nx
def aqA (Y:Nat→Prop) (H:aA) (nx i1:Nat) (es:List Ev) (d:D1):Prop:=(es=[]∧d= .osl 0 0 0 0 0)∨ ∃ev cap,d= .osl 3 ev 0 es.length cap∧tZ H 3 ev 0 es.length cap (es.map eEv)∧ev<nx∧ ¬Y ev∧ev≠i1
structure aiW (Y:Nat→Prop) (H:aA) (nx i1:Nat) (es:List Ev):Prop where
 ex: ∃d a b c e,H i1=some ⟨5,1,[[d,cI a,cI b,cI c,cI e]]⟩∧aqA Y H nx i1 es d
 i1:i1<nx∧ ¬Y i1
 y: ∀id,Y id→id<nx
variable{H:aA}
theorem aA.aC{a i:Nat}{o:bA} (h:i≠a):H.set a o i=H i:=if_neg h
theorem aA.bH{a:Nat}{o:bA}:H.set a o a=some o:=if_pos rfl
theorem aA.jG{a i:Nat} (h:i≠a):H.del a i=H i:=if_neg h
def eZ (x:Nat):List Nat→Prop
 | []=>True
 |y::l=>((x=y)=False∧(y=x)=False)∧eZ x l
def bQ (nx:Nat):List Nat→Prop
 | []=>True
 |x::l=>((∀k,(x=nx+k)=False)∧(∀k,(nx+k=x)=False)∧(x=nx)=False∧(nx=x)=False)∧eZ x l∧bQ nx l
theorem apZ {x:Nat}: ∀{l:List Nat},x∉l→eZ x l
 | [],_=>trivial
 |y::l,h=>by rw[t3,not_or] at h;exact⟨⟨eq_false h.1,eq_false (Ne.symm h.1)⟩,apZ h.2⟩
theorem apart {nx:Nat}: ∀{l:List Nat},l.Nodup→(∀x∈l,x<nx)→bQ nx l
 | [],_,_=>trivial
 |x::l,h,hl=>by rw[bq8] at h;have b:=hl x (by simp);exact⟨⟨fun k=>eq_false (by omega),fun k=>eq_false (by omega),eq_false (by omega),eq_false (by omega)⟩,apZ h.1,apart h.2 fun y a=>hl y (bq9 _ a)⟩
theorem Names.list {X:Nat→Prop} {nx:Nat} {nm:Nat→Nat} (h:Names X nx nm): ∀{l:List Nat},l.Nodup→(∀k∈l,k<19)→(l.map nm).Nodup
 | [],_,_=>List.Pairwise.nil
 |k::l,b,hl=>by rw[bq8] at b;rw[n3,bq8];refine⟨fun hm=> ?_,h.list b.2 fun j a=>hl j (bq9 _ a)⟩;obtain⟨j,a,he⟩:=CF.1 hm;exact b.1 (h.inj j k (hl j (bq9 _ a)) (hl k (by simp)) he▸a)
theorem Rep.apart {X:Nat→Prop} {H:aA} {nx e i0:Nat} {nm:Nat→Nat} {s:CSt} (h:Rep X H nx i0 nm s) (ext l:List Nat) (c:nx≤e) (he:ext.Nodup) (d: ∀x∈ext,X x) (n:l.Nodup) (hl: ∀k∈l,k<19):bQ e (ext++i0::l.map nm):=by
 refine AM.apart (brG.2 ⟨he,bq8.2 ⟨fun hm=> ?_,h.names.list n hl⟩,fun a m b g i=> ?_⟩) fun x c=> ?_;·obtain⟨j,f,he⟩:=CF.1 hm;exact h.ne j (hl j f) he
 ·subst i;rcases t3.1 g with rfl|g;·exact h.i0.2 (d _ m)
  ·obtain⟨j,f,rfl⟩:=CF.1 g;exact h.names.av j (hl j f) (d _ m)
 ·rcases o3.1 c with c|c;·have:=h.x x (d x c);omega
  ·rcases t3.1 c with rfl|c;·have:=h.i0.1;omega
   ·obtain⟨j,f,rfl⟩:=CF.1 c;have:=h.names.lt j (hl j f);omega
theorem tZ.frame {H H':aA} {n id off len cap:Nat} {R:List (List D1)} (h:tZ H n id off len cap R) (he:H' id=H id):tZ H' n id off len cap R:=by obtain⟨m,rows,a,b⟩:=h.ex;exact⟨m,rows,by rw[he,a],b⟩
theorem CX.frame {H H':aA} {a no:Nat} {p:fR} {r:List D1} (h:CX H a no p r) (b:H' a=H a) (c:H' no=H no):CX H' a no p r:=by obtain⟨d,f,g,e,i,j⟩:=h.ex;exact⟨d,f,g,e,i.frame b,j.frame c⟩
theorem LJ.frame {H H':aA} {a b:Nat} {v:nY} {r:List D1} (h:LJ H a b v r) (c:H' a=H a) (d:H' b=H b):LJ H' a b v r:=by obtain⟨f,g,do_,i,e,j,k⟩:=h.ex;exact⟨f,g,do_,i,e,j.frame c,k.frame d⟩
theorem Rep.upd {X:Nat→Prop} {H H':aA} {nx j i0:Nat} {nm b:Nat→Nat} {s f:CSt} {who st:Nat} (h:Rep X H nx i0 nm s) (U:nx≤j) (K:Names X j b) (x: ∀k,k<19→b k≠i0)
 (o: ∀k,k<19→k≠4→k≠5+who→k≠8+who→k≠11+st→k≠15+st→b k=nm k) (g: ∀k,5≤k→k<19→k≠5+who→k≠8+who→k≠11+st→k≠15+st→H' (nm k)=H (nm k))
 (L: ∃q t u vc v,H' i0=some ⟨5,1,[U2 b f q t u vc v]⟩∧tZ H' 1 (b 0) 0 f.words.length q (f.words.map aJ)∧tZ H' 1 (b 1) 0 f.holds.length t (f.holds.map aJ)∧tZ H' 5 (b 4) 0 f.told.length v (f.told.map aS)∧3≤u∧4≤vc)
 (M: ∃m rows l a,H (nm 2)=some ⟨4,l,a⟩∧H' (nm 2)=some ⟨4,m,rows⟩∧rows.length=3∧(∀k,k<3→k≠who→rows[k]?=a[k]?)∧(who<3→∃r,rows[who]?=some r∧CX H' (b (5+who)) (b (8+who)) (aF f who) r))
 (N: ∃m rows l a,H (nm 3)=some ⟨3,l,a⟩∧H' (nm 3)=some ⟨3,m,rows⟩∧rows.length=4∧(∀k,k<4→k≠st→rows[k]?=a[k]?)∧(st<4→∃r,rows[st]?=some r∧LJ H' (b (11+st)) (b (15+st)) (aL f st) r))
 (hw:who<3∨who=14) (V:st<4∨st=8) (hp: ∀k,k<3→k≠who→aF f k=aF s k) (O: ∀k,k<4→k≠st→aL f k=aL s k):Rep X H' j i0 b f:=by
 obtain⟨⟨cells,P,hex,i,n⟩,w,J,y,Q⟩:=h
 refine⟨?_,K,x,⟨by omega,y.2⟩,fun id z=>by have:=Q id z;omega⟩
 obtain⟨q,t,u,vc,v,R,S⟩:=L
 refine⟨_,R,⟨q,t,u,vc,v,rfl,S⟩,?_,?_⟩
 ·obtain⟨m,rows,l,a,A,B,C,D,E⟩:=M;obtain⟨m1,d,p,T,F⟩:=i;rw[A] at p;obtain⟨_,rfl,rfl⟩:4=4∧l=m1∧a=d:=by simpa using p
  refine⟨m,rows,by rw[o 2 (by omega) (by omega) (by omega) (by omega) (by omega) (by omega)];exact B,C,fun k c=> ?_⟩;by_cases e:k=who;·subst e;exact E c
  ·obtain⟨r,G,I⟩:=F k c;refine⟨r,by rw[D k c e];exact G,?_⟩;rw[hp k c e,o (5+k) (by omega) (by omega) (by omega) (by omega) (by omega) (by omega),o (8+k) (by omega) (by omega) (by omega) (by omega) (by omega) (by omega)];exact I.frame (g _ (by omega) (by omega) (by omega) (by omega) (by omega) (by omega)) (g _ (by omega) (by omega) (by omega) (by omega) (by omega) (by omega))
 ·obtain⟨m,rows,l,a,A,B,C,D,E⟩:=N;obtain⟨m1,d,p,T,F⟩:=n;rw[A] at p;obtain⟨_,rfl,rfl⟩:3=3∧l=m1∧a=d:=by simpa using p
  refine⟨m,rows,by rw[o 3 (by omega) (by omega) (by omega) (by omega) (by omega) (by omega)];exact B,C,fun k c=> ?_⟩;by_cases e:k=st;·subst e;exact E c
  ·obtain⟨r,G,I⟩:=F k c;refine⟨r,by rw[D k c e];exact G,?_⟩;rw[O k c e,o (11+k) (by omega) (by omega) (by omega) (by omega) (by omega) (by omega),o (15+k) (by omega) (by omega) (by omega) (by omega) (by omega) (by omega)];exact I.frame (g _ (by omega) (by omega) (by omega) (by omega) (by omega) (by omega)) (g _ (by omega) (by omega) (by omega) (by omega) (by omega) (by omega))
theorem Rep.frame {X p:Nat→Prop} {H H':aA} {nx c i0:Nat} {nm:Nat→Nat} {s:CSt} (h:Rep X H nx i0 nm s) (L:nx≤c) (q:H' i0=H i0) (a: ∀k,k<19→H' (nm k)=H (nm k)) (g: ∀id,p id→id<c∧id≠i0∧ ∀k,k<19→id≠nm k):Rep p H' c i0 nm s:=by
 obtain⟨⟨cells,i,⟨t,u,v,vc,w,x,y,z,A,B⟩,⟨m,rows,C,D,E⟩,⟨F,d,G,I,J⟩⟩,b,f,K,_⟩:=h
 refine⟨⟨cells,by rw[q];exact i,⟨t,u,v,vc,w,x,y.frame (a _ (by omega)),z.frame (a _ (by omega)),A.frame (a _ (by omega)),B⟩,⟨m,rows,by rw[a 2 (by omega)];exact C,D,fun k e=> ?_⟩,⟨F,d,by rw[a 3 (by omega)];exact G,I,fun k e=> ?_⟩⟩,
  ⟨b.inj,fun k e=>by have:=b.lt k e;omega,fun k e j=>(g _ j).2.2 k e rfl⟩,f,⟨by omega,fun j=>(g _ j).2.1 rfl⟩,fun id l=>(g id l).1⟩
 ·obtain⟨r,n,o⟩:=E k e;exact⟨r,n,o.frame (a _ (by omega)) (a _ (by omega))⟩
 ·obtain⟨r,n,o⟩:=J k e;exact⟨r,n,o.frame (a _ (by omega)) (a _ (by omega))⟩
def put (nm:Nat→Nat) (k v:Nat):Nat→Nat:=fun j=>if j=k then v else nm j
variable{nm:Nat→Nat}
theorem t8{v:Nat}:put nm k v k=v:=if_pos rfl
theorem jE{v j:Nat} (h:j≠k):put nm k v j=nm j:=if_neg h
theorem Names.mono{X:Nat→Prop}{nx a:Nat} (h:Names X nx nm) (c:nx≤a):Names X a nm:=⟨h.inj,fun k b=>by have:=h.lt k b;omega,h.av⟩
theorem Names.put {X:Nat→Prop} {nx e:Nat} {nm:Nat→Nat} {k v:Nat} (h:Names X nx nm) (g:nx≤v) (l:v<e) (f: ¬X v):Names X e (put nm k v):=by
 refine⟨fun i j hi d he=> ?_,fun j d=> ?_,fun j d=> ?_⟩;·have a:=h.lt i hi;have b:=h.lt j d;have c:=h.inj i j hi d;unfold AM.put at he;split at he<;>split at he<;>omega
 ·have:=h.lt j d;unfold AM.put;split<;>omega
 ·unfold AM.put;split;·exact f
  ·exact h.av j d
structure l9 (X:Nat→Prop) (H:aA) (nx i0 i1:Nat) (nm:Nat→Nat) (s:CSt) (es:List Ev):Prop where
 rep:Rep (fun id=>X id∨id=i1) H nx i0 nm s
 hap:aiW (fun id=>X id∨id=i0∨ ∃k,k<19∧id=nm k) H nx i1 es
theorem aiW.frame {Y g:Nat→Prop} {H H':aA} {nx f i1:Nat} {es:List Ev} (h:aiW Y H nx i1 es) (w:nx≤f) (k:H' i1=H i1) (i: ∀id,id<nx→¬Y id→H' id=H id) (l: ∀id,g id→id<f∧(Y id∨nx≤id)):aiW g H' f i1 es:=by
 obtain⟨⟨d,a,b,c,e,q,j⟩,m,x⟩:=h
 have n: ∀id,id<nx→¬Y id→¬g id:=fun id k r s=>by
  rcases(l id s).2 with h|h;·exact r h
  ·omega
 refine⟨⟨d,a,b,c,e,by rw[k];exact q,?_⟩,⟨by omega,n _ m.1 m.2⟩,fun id h=>(l id h).1⟩;rcases j with j|⟨ev,cap,t,u,o,p,v⟩
 ·exact .inl j
 ·exact .inr ⟨ev,cap,t,u.frame (i _ o p),by omega,n _ o p,v⟩
theorem l9.next{X n:Nat→Prop}{o:aA}{nx f i0 i1:Nat}{es:List Ev} (h:l9 X H nx i0 i1 nm s es) (p:nx≤f) (d: ∀id,id<nx→¬X id→o id=H id) (q: ∀id,n id→id<f∧(X id∨nx≤id)):l9 n o f i0 i1 nm s es:=by
 have e:=h.rep.i0;have l:=h.hap.i1;have g:=h.rep.names.av;have i:=h.rep.names.lt;refine⟨h.rep.frame p (d i0 e.1 fun j=>e.2 (.inl j)) (fun k b=>d _ (i k b) fun j=>g k b (.inl j)) fun id a=> ?_,h.hap.frame p (d i1 l.1 fun j=>l.2 (.inl j)) (fun id r t=>d id r fun j=>t (.inl j)) fun id a=> ?_⟩
 ·rcases a with a|rfl
  ·obtain⟨m,c⟩:=q id a;refine⟨m,?_,fun k b=> ?_⟩
   ·rintro rfl;rcases c with c|c;·exact e.2 (.inl c)
    ·omega
   ·rintro rfl;have:=i k b;rcases c with c|c;·exact g k b (.inl c)
    ·omega
  ·refine⟨by omega,fun he=>e.2 (.inr he.symm),fun k b he=>g k b (.inr he.symm)⟩
 ·rcases a with a|rfl|⟨k,b,rfl⟩
  ·obtain⟨m,c⟩:=q id a;exact⟨m,c.imp .inl fun h=>h⟩
  ·exact⟨by omega,.inl (.inr (.inl rfl))⟩
  ·have:=i k b;exact⟨by omega,.inl (.inr (.inr ⟨k,b,rfl⟩))⟩
theorem l9.mono{X:Nat→Prop}{nx a i0 i1:Nat}{es:List Ev} (h:l9 X H nx i0 i1 nm s es) (c:nx≤a):l9 X H a i0 i1 nm s es:=h.next c (fun _ _ _=>rfl) fun id b=>⟨by have:=h.rep.x id (.inl b);omega,.inl b⟩
theorem Rep.get{X:Nat→Prop}{nx i0:Nat} (h:Rep X H nx i0 nm s):
 ∃d e a vc f mp b n c,H i0=some ⟨5,1,[[.osl 1 (nm 0) 0 s.words.length d,.osl 1 (nm 1) 0 s.holds.length e,.osl 4 (nm 2) 0 3 a,.osl 3 (nm 3) 0 4 vc,.osl 5 (nm 4) 0 s.told.length f]]⟩∧H (nm 2)=some ⟨4,mp,b⟩∧H (nm 3)=some ⟨3,n,c⟩∧
  tZ H 1 (nm 0) 0 s.words.length d (s.words.map aJ)∧tZ H 1 (nm 1) 0 s.holds.length e (s.holds.map aJ)∧tZ H 5 (nm 4) 0 s.told.length f (s.told.map aS)∧3≤a∧4≤vc∧b.length=3∧c.length=4∧
  (∀k,k<3→∃g i j,b[k]?=some [cI (aF s k).next,.osl 1 (nm (5+k)) g (aF s k).queue.length i,.osl 3 (nm (8+k)) 0 (aF s k).out.length j,cI (aF s k).last]∧tZ H 1 (nm (5+k)) g (aF s k).queue.length i ((aF s k).queue.map aJ)∧tZ H 3 (nm (8+k)) 0 (aF s k).out.length j ((aF s k).out.map eCJ))∧
  ∀k,k<4→∃l a do_ m,c[k]?=some [.osl 3 (nm (11+k)) l (aL s k).pipe.length a,.osl 5 (nm (15+k)) do_ (aL s k).done.length m,cI (aL s k).last]∧tZ H 3 (nm (11+k)) l (aL s k).pipe.length a ((aL s k).pipe.map eCJ)∧tZ H 5 (nm (15+k)) do_ (aL s k).done.length m ((aL s k).done.map aS):=by
 obtain⟨cells,o,⟨d,e,a,vc,f,rfl,u,v,w,x,y⟩,⟨mp,b,z,A,B⟩,⟨n,c,C,D,E⟩⟩:=h.st
 refine⟨d,e,a,vc,f,mp,b,n,c,o,z,C,u,v,w,x,y,A,D,fun k p=> ?_,fun k p=> ?_⟩
 ·obtain⟨r,q,⟨g,i,j,rfl,t⟩⟩:=B k p;exact⟨g,i,j,q,t⟩
 ·obtain⟨r,q,⟨l,a,do_,m,rfl,t⟩⟩:=E k p;exact⟨l,a,do_,m,q,t⟩
theorem l9.upd {X:Nat→Prop} {H H':aA} {nx f i0 i1:Nat} {nm:Nat→Nat} {s:CSt} {es:List Ev} (h:l9 X H nx i0 i1 nm s es) (who st:Nat) (b:Nat→Nat) (e:CSt) (y:nx≤f) (z:Names (fun id=>X id∨id=i1) f b)
 (n: ∀k,k<19→b k=nm k∨((k=4∨k=5+who∨k=8+who∨k=11+st∨k=15+st)∧nx≤b k))
 (g: ∀id,id<nx→id≠i0→(∀k,k<5∨k=5+who∨k=8+who∨k=11+st∨k=15+st→k<19→id≠nm k)→H' id=H id)
 (E: ∃A B C vc D,H' i0=some ⟨5,1,[U2 b e A B C vc D]⟩∧tZ H' 1 (b 0) 0 e.words.length A (e.words.map aJ)∧tZ H' 1 (b 1) 0 e.holds.length B (e.holds.map aJ)∧tZ H' 5 (b 4) 0 e.told.length D (e.told.map aS)∧3≤C∧4≤vc)
 (F: ∃m rows t c,H (nm 2)=some ⟨4,t,c⟩∧H' (nm 2)=some ⟨4,m,rows⟩∧rows.length=3∧(∀k,k<3→k≠who→rows[k]?=c[k]?)∧(who<3→∃r,rows[who]?=some r∧CX H' (b (5+who)) (b (8+who)) (aF e who) r))
 (G: ∃m rows t c,H (nm 3)=some ⟨3,t,c⟩∧H' (nm 3)=some ⟨3,m,rows⟩∧rows.length=4∧(∀k,k<4→k≠st→rows[k]?=c[k]?)∧(st<4→∃r,rows[st]?=some r∧LJ H' (b (11+st)) (b (15+st)) (aL e st) r))
 (hw:who<3∨who=14) (I:st<4∨st=8) (hp: ∀k,k<3→k≠who→aF e k=aF s k) (J: ∀k,k<4→k≠st→aL e k=aL s k):l9 X H' f i0 i1 b e es∧ ∀id,X id→H' id=H id:=by
 have u:=h.rep.names.av
 have v:=h.rep.i0
 have K:=h.hap.i1
 have w:=h.rep.names.lt
 have o: ∀id,X id∨id=i1→H' id=H id:=fun id d=>g id (h.rep.x id d) (fun he=>v.2 (he▸d)) fun k _ n he=>u k n (he▸d)
 refine⟨⟨h.rep.upd (who:=who) (st:=st) y z (fun k a=> ?_) (fun k a i q L M N=> ?_) (fun k N a i q L M=> ?_) E F G hw I hp J,h.hap.frame y (o _ (.inr rfl)) (fun id i q=> ?_) fun id d=> ?_⟩,fun id d=>o id (.inl d)⟩
 ·rcases n k a with i|i;·rw[i];exact h.rep.ne k a
  ·omega
 ·rcases n k a with l|l;·exact l
  ·omega
 ·refine g _ (w k a) (h.rep.ne k a) fun j O p he=> ?_;have:=h.rep.names.inj k j a p he;omega
 ·exact g id i (fun he=>q (.inr (.inl he))) fun k _ a he=>q (.inr (.inr ⟨k,a,he⟩))
 ·rcases d with d|rfl|⟨k,a,rfl⟩
  ·have:=h.rep.x id (.inl d);exact⟨by omega,.inl (.inl d)⟩
  ·exact⟨by omega,.inl (.inr (.inl rfl))⟩
  ·have:=z.lt k a;rcases n k a with l|l;·exact⟨this,.inl (.inr (.inr ⟨k,a,l⟩))⟩
   ·exact⟨this,.inr l.2⟩
def VK (H:aA) (F:Nat→Prop) (r' r:List D1):Prop:=r'.length=r.length∧ ∀(j:Nat) (a:D1),r'[j]?=some a→∃d,r[j]?=some d∧Frz H F a d
section
variable {H : aA} {F : Nat → Prop} {σ : Nat → Nat} {nh : Nat}
theorem amO {r:List D1} (h: ∀x∈r,x.dQ=true):VK H F r r:=⟨rfl,fun j d a=>⟨d,a,.same d (h d (s3 a))⟩⟩
theorem QM {rows:List (List D1)} {n id off len cap:Nat} {o:bA} (l:F id) (m:H id=some o) (p:o.n=n) (hl:len=rows.length) (hlen:off+len≤o.rows.length) (a:len≤cap)
 (hr: ∀i r',rows[i]?=some r'→r'.length=n∧ ∃r,o.rows[off+i]?=some r∧VK H F r' r):Frz H F (.isl rows) (.osl n id off len cap):=by
 subst hl
 refine .frz rows n id off cap o (fun i j=>((o.rows[off+i]?.getD [])[j]?).getD .dead) l m p hlen a (fun i r' h=>(hr i r' h).1) (fun i j r' c e f=> ?_) (fun i j r' c e f=> ?_)
 ·obtain⟨_,r,b,g⟩:=hr i r' e;obtain⟨d,k,_⟩:=g.2 j c f;exact⟨r,b,by rw[b];simp[k]⟩
 ·obtain⟨_,r,b,g⟩:=hr i r' e;obtain⟨d,k,q⟩:=g.2 j c f;rw[b];simpa [k] using q
theorem tZ.frz {n id off len cap:Nat} {R:List (List D1)} (h:tZ H n id off len cap R) (hi:alR n R) (a:F id):Frz H F (.isl R) (.osl n id off len cap):=by
 obtain⟨m,rows,b,c,d,e,f,j⟩:=h.ex;refine QM a b rfl e d f fun i r' hr=>⟨(hi r' (s3 hr)).1,r',?_,amO fun x g=>(hi r' (s3 hr)).2 x g⟩
 subst c;rw[s5] at hr;exact hr
theorem getD_some {α:Type} [Inhabited α] {l:List α} {k:Nat} {x:α} (h:l[k]?=some x):l.getD k default=x∧k<l.length:=by refine⟨by simp[List.getD,h],(m3.1 h).1⟩
end
theorem GZ{f:CSt→Nat→Option Mic}{l:List Nat} (h:f s k=none):vE c f s (k::l)=vE c f s l:=by rw[vE,h]
theorem NH{f:CSt→Nat→Option Mic}{l:List Nat}{m:Mic} (h:f s k=some m):vE c f s (k::l)=m::vE c f (aR c s m) l:=by rw[vE,h]
def vU (c:Cfg) (f:CSt→Nat→Option Mic) (l:List Nat) (s:CSt) (es:List Ev) (S:CSt) (E:List Ev):Prop:=dR c s (vE c f s l)=S∧es++iP c s (vE c f s l)=E
theorem vU.none {c:Cfg} {f:CSt→Nat→Option Mic} {s S:CSt} {es E:List Ev} {k:Nat} {l:List Nat} (hl:vU c f (k::l) s es S E) (h:f s k=none):vU c f l s es S E:=by unfold vU at hl;rw[GZ h] at hl;exact hl
theorem vU.some {c:Cfg} {f:CSt→Nat→Option Mic} {s S:CSt} {es E:List Ev} {k:Nat} {l:List Nat} {m:Mic} (hl:vU c f (k::l) s es S E) (h:f s k=some m):vU c f l (aR c s m) (es++y0 s m) S E:=by unfold vU at hl;rw[NH h] at hl;refine⟨hl.1,?_⟩;rw[C0];exact hl.2
theorem vU.nil {c:Cfg} {f:CSt→Nat→Option Mic} {s S:CSt} {es E:List Ev} (hl:vU c f [] s es S E):s=S∧es=E:=by refine⟨hl.1,?_⟩;have:=hl.2;rw[vE,iP,bq6] at this;exact this
def LV (c:Cfg) (l:List Nat) (s:CSt) (u:List Bool) (S:CSt):Prop:=dR c s (oP c s u l)=S
theorem LV.none {c:Cfg} {s S:CSt} {u:List Bool} {k:Nat} {l:List Nat} (hl:LV c (k::l) s u S) (h:AO c s u k=none):LV c l s u S:=by unfold LV at hl;rw[oP,h] at hl;exact hl
theorem LV.some {c:Cfg} {s S:CSt} {u:List Bool} {k who:Nat} {l:List Nat} (hl:LV c (k::l) s u S) (h:AO c s u k=some who):LV c l (aR c s (.adm who k)) (u.set who true) S:=by unfold LV at hl;rw[oP,h] at hl;exact hl
end Go.AM
namespace Go.Proofs.YtdkfhdmagdaceaaGreat
open Go Go.AM
def bG0:AC:= (boG [f5 3 0,f5 4 1,dO 6 boD] [2,3,4] (boG [dO 7 (ki 1048576)] [2,3,4,7] (boG [f8 20 3 3,RM 21 7,f6 22 a1J [20,21],RM 7 22] [2,3,4,7] (.seq (boG [RM 23 7,dI 24 .lss 23 (ki 0)] [2,3,4,7,24] (.cond 24 (boG [dO 6 boE] [6] .ret) .skip)) (boG [f8 25 6 4,RM 26 7,f6 27 bzR [25,26],RM 7 27] [2,3,4,7] (.seq (boG [RM 28 7,dI 29 .lss 28 (ki 0)] [2,3,4,7,29] (.cond 29 (boG [dO 6 boE] [6] .ret) .skip)) (boG [RM 30 2,RM 31 7,f6 32 bG3 [30,31],RM 7 32] [2,3,4,7] (.seq (boG [RM 33 7,dI 34 .lss 33 (ki 0)] [2,3,4,34] (.cond 34 (boG [dO 6 boE] [6] .ret) .skip)) (.seq (.region [boF 36 (.load 3 true 3) [10] [] false 0,boF 38 (.load 6 true 4) [10] [] true 2,RM 40 2 4,f7 8 [OZ,OZ,OZ,OZ,OZ,OZ] 10,boF 37 (.call aZL [36]) [10] [2] false 1,boF 39 (.call byP [38]) [10] [] false 3,boF 41 (.call bGX [40]) [10] [] false 5,boF 42 (.call aYN [37,39,41]) [10] [] false 6,RM 35 42 7,rq 43 (.ext 35 0) 8,rq 44 (.ext 35 1) 9,g0 6 true 8 43 11,RM 9 44 12] 13 [2,3,4,8,9]) (boG [f8 45 3 3,f6 46 aZL [45],f7 10 [OZ,OZ,OZ],g0 3 true 10 46] [2,3,4,8,9,10] (boG [f8 47 6 4,f6 48 byP [47],f7 11 [OZ,OZ,OZ,OZ,OZ,OZ],g0 6 true 11 48] [2,3,4,8,9,10,11] (boG [RM 49 2,f6 50 bGX [49],RM 12 50] [2,3,4,8,9,10,11,12] (boG [f8 52 3 10,f8 53 6 11,RM 54 12,f6 55 auW [52,53,54],RM 51 55,rq 56 (.ext 51 0),rq 57 (.ext 51 1),f7 13 [OZ,OZ,OZ,OZ,OZ,OZ],g0 6 true 13 56,RM 14 57] [2,3,4,8,9,10,11,12,13,14] (.seq (boG [f8 58 6 13,f8 59 6 8,f6 60 byS [58,59],f4 61 60,RM 62 61,hG 63 14 62 false,hG 64 9 62 false,hO 65 .neq 63 64 62 false,f3 66 62 boE 65] [2,3,4,8,9,10,11,12,13,14,66] (.cond 66 (boG [dO 6 boD] [6] .ret) .skip)) (.seq (boG [boF 67 (.load 3 true 10) [] [] true,f8 68 3 3,boF 69 (.call aZL [68]) [] [0] false,f6 70 a1B [67,69],f4 71 70] [2,3,4,8,9,10,11,12,13,14,71] (.cond 71 (boG [dO 6 boD] [6] .ret) .skip)) (.seq (boG [boF 72 (.load 6 true 11) [] [] true,f8 73 6 4,boF 74 (.call byP [73]) [] [0] false,f6 75 byS [72,74],f4 76 75] [2,3,4,8,9,10,11,12,13,14,76] (.cond 76 (boG [dO 6 boD] [6] .ret) .skip)) (.seq (boG [RM 77 12,RM 78 2,f6 79 bGX [78],f6 80 bG5 [77,79],f4 81 80] [2,3,4,8,9,10,11,12,13,14,81] (.cond 81 (boG [dO 6 boD] [6] .ret) .skip)) (boG [dO 15 (ki 1)] [2,3,4,8,9,10,11,12,13,14,15] (boG [f8 82 3 10,RM 83 15,f6 84 bAD [82,83],RM 15 84] [2,3,4,8,9,11,12,13,14,15] (boG [f8 85 6 11,RM 86 15,f6 87 bzH [85,86],RM 15 87] [2,3,4,8,9,12,13,14,15] (boG [RM 88 12,RM 89 15,f6 90 bG7 [88,89],RM 15 90] [2,3,4,8,9,13,14,15] (.seq (boG [RM 91 15,dI 92 .lss 91 (ki 0),RM 93 92,GQ 94 (.load 6 true 13) 93 false,GQ 95 (.load 6 true 8) 93 false,GQ 96 (.call byS [94,95]) 93 false,hP 97 96 93 false,f3 98 93 boE 97,RM 99 98,hG 100 14 99 false,hG 101 9 99 false,hO 102 .neq 100 101 99 false,f3 103 99 boE 102] [2,3,4,8,9,13,103] (.cond 103 (boG [dO 6 boD] [6] .ret) .skip)) (boG [dO 16 (ki 1)] [2,3,4,8,9,13,16] (boG [f8 104 6 13,RM 105 16,f6 106 bzH [104,105],RM 16 106] [2,3,4,8,9,13,16] (boG [dO 17 (ki 1)] [2,3,4,8,9,13,16,17] (boG [f8 107 6 13,RM 108 17,f6 109 by0 [107,108],RM 17 109] [2,3,4,8,9,13,16,17] (.seq (boG [RM 110 17,dI 111 .lss 110 (ki 0)] [2,3,4,8,9,13,16,17,111] (.cond 111 (boG [dO 6 boD] [6] .ret) .skip)) (.seq (boG [RM 112 17,RM 113 16,dI 114 .neq 112 113] [2,3,4,8,9,13,16,114] (.cond 114 (boG [dO 6 boD] [6] .ret) .skip)) (.seq (.region [boF 116 (.load 3 true 3) [10] [] false 0,boF 118 (.load 6 true 4) [10] [] true 2,RM 120 2 4,f7 18 [OZ,OZ,OZ,OZ,OZ,OZ] 10,boF 117 (.call aZL [116]) [10] [2] false 1,boF 119 (.call byP [118]) [10] [] false 3,boF 121 (.call bGX [120]) [10] [] false 5,boF 122 (.call auW [117,119,121]) [10] [] false 6,RM 115 122 7,rq 123 (.ext 115 0) 8,rq 124 (.ext 115 1) 9,g0 6 true 18 123 11,RM 19 124 12] 13 [8,9,13,16,18,19]) (.seq (boG [f8 125 6 18,f8 126 6 8,f6 127 byS [125,126],f4 128 127,RM 129 128,hG 130 19 129 false,hG 131 9 129 false,hO 132 .neq 130 131 129 false,f3 133 129 boE 132] [13,16,133] (.cond 133 (boG [dO 6 boD] [6] .ret) .skip)) (boG [dO 17 (ki 1)] [13,16,17] (boG [f8 134 6 13,RM 135 17,f6 136 by0 [134,135],RM 17 136] [16,17] (.seq (boG [RM 137 17,dI 138 .lss 137 (ki 0)] [16,17,138] (.cond 138 (boG [dO 6 boD] [6] .ret) .skip)) (.seq (boG [RM 139 17,RM 140 16,dI 141 .neq 139 140] [141] (.cond 141 (boG [dO 6 boD] [6] .ret) .skip)) (boG [dO 6 boE] [6] .ret)))))))))))))))))))))))))))))))))))
def bHB:List aW:=[.tm 6]
theorem bHK:aO Tryz.prog Tryz.f4 (bnD bG0)=some (bG0,bHB):=by kernel_rfl
end Go.Proofs.YtdkfhdmagdaceaaGreat
namespace Go.AM
open Go.RowKit
end Go.AM
