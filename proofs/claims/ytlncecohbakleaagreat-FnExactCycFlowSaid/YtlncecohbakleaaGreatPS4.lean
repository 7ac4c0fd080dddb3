/- Texts laid together by a program: rules, contracts and the walk that leads to the law. -/
import Derived.Test.YtlncecohbakleaaGreatPS3
import Derived.OpenShut
set_option linter.unusedVariables false
set_option linter.unusedSimpArgs false
set_option linter.unusedSectionVars false
set_option maxRecDepth 100000
set_option maxHeartbeats 8000000
namespace Go.AM
structure Rng where
 lo:Int
 hi:Int
 K5:Int
 only:Bool
 deriving Inhabited,DecidableEq
structure Req where
 id:Int
 kind:Int
 addr:Int
 many:Int
 wrap:Bool
 data:List Int
 g6:List Int
 deriving Inhabited,DecidableEq
structure Rsp where
 id:Int
 code:Int
 data:List Int
 deriving Inhabited,DecidableEq
structure Job where
 who:Int
 n:Int
 rsp:Rsp
 deriving Inhabited,DecidableEq
structure Ev where
 kind:Int
 who:Int
 n:Int
 deriving Inhabited,DecidableEq
structure Cfg where
 map:List Rng
 lat:List Int
 cP:List (List Req)
 deriving Inhabited,DecidableEq
theorem bF(x:Int):(aJ x).length=1/\(aJ x).all D1.dQ=true:=⟨rfl,rfl⟩
def eN(r:Rng):List D1:=[cI r.lo,cI r.hi,cI r.K5,cB r.only]
variable{r:Rng}
theorem amQ:(eN r).length=4:=rfl
theorem acT:(eN r).take 1=[cI r.lo]:=rfl
theorem adK:(eN r).drop 1=[cI r.hi,cI r.K5,cB r.only]:=rfl
theorem abT:(eN r).take 2=[cI r.lo,cI r.hi]:=rfl
theorem acH:(eN r).drop 2=[cI r.K5,cB r.only]:=rfl
theorem acK:(eN r).take 3=[cI r.lo,cI r.hi,cI r.K5]:=rfl
theorem ae9:(eN r).drop 3=[cB r.only]:=rfl
theorem ac2:(eN r).take 4=eN r:=rfl
theorem acG:(eN r).drop 4=[]:=rfl
variable{cs:List D1}{k:Nat}
theorem ai6:iA cs (k+1) (eN r)=iA cs (k+1) [cI r.lo,cI r.hi,cI r.K5,cB r.only]:=rfl
attribute [go_sem] amQ acT adK abT acH acK ae9 ac2 acG ai6
def eB(q:Req):List D1:=[cI q.id,cI q.kind,cI q.addr,cI q.many,cB q.wrap,.isl (q.data.map aJ),.isl (q.g6.map aJ)]
variable{q:Req}
theorem aj5:(eB q).length=7:=rfl
theorem ab1:(eB q).take 1=[cI q.id]:=rfl
theorem aeZ:(eB q).drop 1=[cI q.kind,cI q.addr,cI q.many,cB q.wrap,.isl (q.data.map aJ),.isl (q.g6.map aJ)]:=rfl
theorem adJ:(eB q).take 2=[cI q.id,cI q.kind]:=rfl
theorem adR:(eB q).drop 2=[cI q.addr,cI q.many,cB q.wrap,.isl (q.data.map aJ),.isl (q.g6.map aJ)]:=rfl
theorem adD:(eB q).take 3=[cI q.id,cI q.kind,cI q.addr]:=rfl
theorem ae1:(eB q).drop 3=[cI q.many,cB q.wrap,.isl (q.data.map aJ),.isl (q.g6.map aJ)]:=rfl
theorem adU:(eB q).take 4=[cI q.id,cI q.kind,cI q.addr,cI q.many]:=rfl
theorem aeB:(eB q).drop 4=[cB q.wrap,.isl (q.data.map aJ),.isl (q.g6.map aJ)]:=rfl
theorem ad3:(eB q).take 5=[cI q.id,cI q.kind,cI q.addr,cI q.many,cB q.wrap]:=rfl
theorem acC:(eB q).drop 5=[.isl (q.data.map aJ),.isl (q.g6.map aJ)]:=rfl
theorem acS:(eB q).take 6=[cI q.id,cI q.kind,cI q.addr,cI q.many,cB q.wrap,.isl (q.data.map aJ)]:=rfl
theorem ad7:(eB q).drop 6=[.isl (q.g6.map aJ)]:=rfl
theorem acD:(eB q).take 7=eB q:=rfl
theorem acQ:(eB q).drop 7=[]:=rfl
theorem ah6:iA cs (k+1) (eB q)=iA cs (k+1) [cI q.id,cI q.kind,cI q.addr,cI q.many,cB q.wrap,.isl (q.data.map aJ),.isl (q.g6.map aJ)]:=rfl
attribute [go_sem] aj5 ab1 aeZ adJ adR adD ae1 adU aeB ad3 acC acS ad7 acD acQ ah6
def tG(r:Rsp):List D1:=[cI r.id,cI r.code,.isl (r.data.map aJ)]
theorem akZ{r:Rsp}:(tG r).length=3:=rfl
theorem ab7{r:Rsp}:(tG r).take 1=[cI r.id]:=rfl
theorem adG{r:Rsp}:(tG r).drop 1=[cI r.code,.isl (r.data.map aJ)]:=rfl
theorem ab5{r:Rsp}:(tG r).take 2=[cI r.id,cI r.code]:=rfl
theorem ab4{r:Rsp}:(tG r).drop 2=[.isl (r.data.map aJ)]:=rfl
theorem ac4{r:Rsp}:(tG r).take 3=tG r:=rfl
theorem aeP{r:Rsp}:(tG r).drop 3=[]:=rfl
theorem aiZ{r:Rsp}:iA cs (k+1) (tG r)=iA cs (k+1) [cI r.id,cI r.code,.isl (r.data.map aJ)]:=rfl
attribute [go_sem] akZ ab7 adG ab5 ab4 ac4 aeP aiZ
def aS(j:Job):List D1:=[cI j.who,cI j.n,cI j.rsp.id,cI j.rsp.code,.isl (j.rsp.data.map aJ)]
variable{j:Job}
theorem aj4:(aS j).length=5:=rfl
theorem adB:(aS j).take 1=[cI j.who]:=rfl
theorem aeL:(aS j).drop 1=[cI j.n,cI j.rsp.id,cI j.rsp.code,.isl (j.rsp.data.map aJ)]:=rfl
theorem abW:(aS j).take 2=[cI j.who,cI j.n]:=rfl
theorem ad8:(aS j).drop 2=[cI j.rsp.id,cI j.rsp.code,.isl (j.rsp.data.map aJ)]:=rfl
theorem abZ:(aS j).take 3=[cI j.who,cI j.n,cI j.rsp.id]:=rfl
theorem aeW:(aS j).drop 3=[cI j.rsp.code,.isl (j.rsp.data.map aJ)]:=rfl
theorem aeJ:(aS j).take 4=[cI j.who,cI j.n,cI j.rsp.id,cI j.rsp.code]:=rfl
theorem ae6:(aS j).drop 4=[.isl (j.rsp.data.map aJ)]:=rfl
theorem aeO:(aS j).take 5=aS j:=rfl
theorem ad1:(aS j).drop 5=[]:=rfl
theorem ahS:iA cs (k+1) (aS j)=iA cs (k+1) [cI j.who,cI j.n,cI j.rsp.id,cI j.rsp.code,.isl (j.rsp.data.map aJ)]:=rfl
theorem dZ(j:Job):(aS j).length=5/\(aS j).all D1.dQ=true:=⟨rfl,rfl⟩
attribute [go_sem] aj4 adB aeL abW ad8 abZ aeW aeJ ae6 aeO ad1 ahS
def eEv(v:Ev):List D1:=[cI v.kind,cI v.who,cI v.n]
variable{v:Ev}
theorem apB:(eEv v).length=3:=rfl
theorem ai8:(eEv v).take 1=[cI v.kind]:=rfl
theorem ai2:(eEv v).drop 1=[cI v.who,cI v.n]:=rfl
theorem ahH:(eEv v).take 2=[cI v.kind,cI v.who]:=rfl
theorem ahK:(eEv v).drop 2=[cI v.n]:=rfl
theorem ahB:(eEv v).take 3=eEv v:=rfl
theorem aiS:(eEv v).drop 3=[]:=rfl
theorem aj8:iA cs (k+1) (eEv v)=iA cs (k+1) [cI v.kind,cI v.who,cI v.n]:=rfl
theorem aq2(v:Ev):(eEv v).length=3/\(eEv v).all D1.dQ=true:=⟨rfl,rfl⟩
attribute [go_sem] apB ai8 ai2 ahH ahK ahB aiS aj8
abbrev Prog:=List Req
def jR(p:Prog):List D1:=[.isl (p.map eB)]
theorem aiU{p:Prog}:(jR p).length=1:=rfl
theorem ZQ{p:Prog}:(jR p).take 1=[.isl (p.map eB)]:=rfl
theorem ZV{p:Prog}:(jR p).drop 1=[]:=rfl
theorem acV{p:Prog}:iA cs (k+1) (jR p)=iA cs (k+1) [.isl (p.map eB)]:=rfl
attribute [go_sem] aiU ZQ ZV acV
def cU(c:Cfg):List D1:=[.isl (c.map.map eN),.isl (c.lat.map aJ),.isl (c.cP.map jR)]
variable{c:Cfg}
theorem akD:(cU c).length=3:=rfl
theorem aeV:(cU c).take 1=[.isl (c.map.map eN)]:=rfl
theorem aeI:(cU c).drop 1=[.isl (c.lat.map aJ),.isl (c.cP.map jR)]:=rfl
theorem abV:(cU c).take 2=[.isl (c.map.map eN),.isl (c.lat.map aJ)]:=rfl
theorem adV:(cU c).drop 2=[.isl (c.cP.map jR)]:=rfl
theorem aeG:(cU c).take 3=cU c:=rfl
theorem acR:(cU c).drop 3=[]:=rfl
theorem agU:iA cs (k+1) (cU c)=iA cs (k+1) [.isl (c.map.map eN),.isl (c.lat.map aJ),.isl (c.cP.map jR)]:=rfl
attribute [go_sem] akD aeV aeI abV adV aeG acR agU
def o7(addr many:Int)(wrap:Bool):Prop:=(many=1\/many=2\/many=4)/\(0<=addr/\addr<=63)/\(wrap=true\/addr+many-1<=63)
instance {addr many:Int} {wrap:Bool}:Decidable (o7 addr many wrap):=by unfold o7;infer_instance
def inR(r:Rng)(a:Int):Bool:=decide (r.lo<=a/\a<=r.hi)
def bK{α:Type}(p:α->Bool)(l:List α):Int:=match l.findIdx? p with
 |some k=>k
 |none=>-1
theorem CU{α:Type}[Inhabited α]{p:α->Bool}{l:List α}(b:k<l.length)(h:p (l.getD k default)=true)(hinv: ∀i,i<k->p (l.getD i default)=false):bK p l=k:=by
 have:l.findIdx? p=some k:=by
  rw[Z4];refine⟨b,by simpa [List.getD,b] using h,fun j c=> ?_⟩;have:=hinv j c;have a:j<l.length:=by omega
  simpa [List.getD,a] using this
 simp[bK,this]
theorem tI{α:Type}[Inhabited α]{p:α->Bool}{l:List α}(hinv: ∀i,i<l.length->p (l.getD i default)=false):bK p l= -1:=by
 have:l.findIdx? p=none:=by rw[bsI];intro x a;obtain⟨i,hi,rfl⟩:=bqY.1 a;have:=hinv i hi;simpa [List.getD,hi] using this
 simp[bK,this]
theorem PQ{α:Type}{p:α->Bool}{l:List α}:bK p l<l.length:=by
 unfold bK;split;·rename_i k h;have:=(Z4.1 h).1;omega
 ·omega
theorem aoF{α:Type}{p:α->Bool}{l:List α}: -1<=bK p l:=by unfold bK;split<;>omega
theorem iS{P:Nat->Prop}(h: ∀i,i<k->P i)(a:P k): ∀i,i<k+1->P i:=fun i hi=>by
 rcases br8.1 hi with hi|rfl;·exact h i hi
 ·exact a
def bV(l:List Rng)(all:List Int):Int:=if all.length=0 then-1 else if all.all (fun a=>decide (bK (inR · a) l=bK (inR · (all.getD 0 default)) l)) then bK (inR · (all.getD 0 default)) l else-1
variable{all:List Int}
theorem adL{l:List Rng}(h:all.length=0):bV l all= -1:=by simp[bV,h]
theorem RH{l:List Rng}(h: ¬all.length=0)(hinv: ∀i,i<all.length->1<=i->bK (inR · (all.getD i default)) l=bK (inR · (all.getD 0 default)) l):bV l all=bK (inR · (all.getD 0 default)) l:=by
 unfold bV;rw[if_neg h,if_pos];rw[w2];intro a b;obtain⟨i,hi,rfl⟩:=bqY.1 b;rcases CR i with rfl|hp;·simp[List.getD,hi]
 ·have:=hinv i hi hp;simp only[List.getD,hi,n1,Option.getD_some] at this;exact decide_eq_true this
theorem L8{l:List Rng}{i:Nat}(h:i<all.length)(b: ¬bK (inR · (all.getD i default)) l=bK (inR · (all.getD 0 default)) l):bV l all= -1:=by unfold bV;rw[if_neg (by omega),if_neg];rw[w2];intro a;have:=a (all.getD i default) (by simp[List.getD,h]);exact b (of_decide_eq_true this)
def wrM(q:Req):Bool:=decide (q.kind=2\/q.kind=4)
def bAt(addr many:Int)(wrap:Bool)(k:Nat):Int:=if wrap then addr-addr%many+(addr+k)%many else addr+k
def bE(addr many:Int)(wrap:Bool):List Int:=if o7 addr many wrap then (List.range many.toNat).map (bAt addr many wrap) else []
variable{addr many:Int}{wrap:Bool}
theorem aaA(h:o7 addr many wrap): ¬many=0/\0<many/\many<=4/\0<=addr/\addr<=63/\addr.tmod many=addr%many/\0<=addr%many/\addr%many<=addr:=by obtain⟨a,b,c⟩:=h;rw[brF (by omega)];rcases a with rfl|rfl|rfl<;>omega
theorem agW(h:o7 addr many wrap)(k:Nat)(b:k<many.toNat):0<=(addr-(addr-addr%many)+k).tmod many/\(addr-(addr-addr%many)+k).tmod many<4/\addr-addr%many+(addr-(addr-addr%many)+k).tmod many=addr-addr%many+(addr+k)%many:=by obtain⟨a,c,d⟩:=h;rw[brF (by rcases a with rfl|rfl|rfl<;>omega)];rcases a with rfl|rfl|rfl<;>omega
variable{x:Int}
theorem aDH(h:x=bAt addr many wrap k):(List.range (k+1)).map (bAt addr many wrap)=(List.range k).map (bAt addr many wrap)++[x]:=by rw[brP,bqX,h];rfl
theorem aq9(h:o7 addr many wrap)(c:k<many.toNat):0<=bAt addr many wrap k/\bAt addr many wrap k<=63:=by
 obtain⟨a,d,b⟩:=h;unfold bAt;split;·rcases a with rfl|rfl|rfl<;>omega
 ·rename_i hw;simp[hw] at b;omega
theorem V1: ∀a∈bE addr many wrap,0<=a/\a<=63:=by
 intro a b;unfold bE at b;split at b;·rename_i h;obtain⟨k,c,rfl⟩:=CF.1 b;exact aq9 h (C2.1 c)
 ·simp at b
theorem DF(h:o7 addr many wrap):(bE addr many wrap).length=many.toNat:=by simp[bE,h]
theorem MK:(bE addr many wrap).length<=4:=by
 unfold bE;split;·rename_i h;obtain⟨a,_⟩:=h;simp;rcases a with rfl|rfl|rfl<;>omega
 ·simp
theorem cH{α:Type}{p:α->Bool}{l:List α}:0<=bK p l↔∃x∈l,p x=true:=by
 unfold bK;split;·rename_i k h;obtain⟨a,b,_⟩:=Z4.1 h;exact⟨fun _=>⟨_,Z5 a,b⟩,fun _=>by omega⟩
 ·rename_i h;rw[bsI] at h;exact⟨fun h=>by omega,fun⟨x,c,hp⟩=>by rw[h x c] at hp;cases hp⟩
structure TSt where
 words:List Int
 holds:List Int
 asked:List Int
 wait:List Job
 done:List Job
 told:List Job
 deriving Inhabited,DecidableEq
def eSt(s:TSt):List D1:=[.isl (s.words.map aJ),.isl (s.holds.map aJ),.isl (s.asked.map aJ),.isl (s.wait.map aS),.isl (s.done.map aS),.isl (s.told.map aS)]
variable{s:TSt}
theorem an0:(eSt s).length=6:=rfl
theorem ahY:(eSt s).take 1=[.isl (s.words.map aJ)]:=rfl
theorem aiN:(eSt s).drop 1=[.isl (s.holds.map aJ),.isl (s.asked.map aJ),.isl (s.wait.map aS),.isl (s.done.map aS),.isl (s.told.map aS)]:=rfl
theorem agV:(eSt s).take 2=[.isl (s.words.map aJ),.isl (s.holds.map aJ)]:=rfl
theorem ai0:(eSt s).drop 2=[.isl (s.asked.map aJ),.isl (s.wait.map aS),.isl (s.done.map aS),.isl (s.told.map aS)]:=rfl
theorem ahO:(eSt s).take 3=[.isl (s.words.map aJ),.isl (s.holds.map aJ),.isl (s.asked.map aJ)]:=rfl
theorem agR:(eSt s).drop 3=[.isl (s.wait.map aS),.isl (s.done.map aS),.isl (s.told.map aS)]:=rfl
theorem aiD:(eSt s).take 4=[.isl (s.words.map aJ),.isl (s.holds.map aJ),.isl (s.asked.map aJ),.isl (s.wait.map aS)]:=rfl
theorem ah4:(eSt s).drop 4=[.isl (s.done.map aS),.isl (s.told.map aS)]:=rfl
theorem aiP:(eSt s).take 5=[.isl (s.words.map aJ),.isl (s.holds.map aJ),.isl (s.asked.map aJ),.isl (s.wait.map aS),.isl (s.done.map aS)]:=rfl
theorem ahQ:(eSt s).drop 5=[.isl (s.told.map aS)]:=rfl
theorem aiK:(eSt s).take 6=eSt s:=rfl
theorem WQ:(eSt s).drop 6=[]:=rfl
theorem ajS:iA cs (k+1) (eSt s)=iA cs (k+1) [.isl (s.words.map aJ),.isl (s.holds.map aJ),.isl (s.asked.map aJ),.isl (s.wait.map aS),.isl (s.done.map aS),.isl (s.told.map aS)]:=rfl
attribute [go_sem] an0 ahY aiN agV ai0 ahO agR aiD ah4 aiP ahQ aiK WQ ajS
def All(l:List Int)(lo up:Int):Prop:=∀x∈l,lo<=x/\x<=up
instance {l:List Int} {lo up:Int}:Decidable (All l lo up):=by unfold All;infer_instance
theorem KP{l:List Int}{lo up:Int}:All l lo up↔¬0<=bK (fun x=>decide (¬(lo<=x/\x<=up))) l:=by
 rw[cH];unfold All;refine⟨fun h ⟨x,a,hp⟩=>of_decide_eq_true hp (h x a),fun h x a=> ?_⟩;by_cases hc:lo<=x/\x<=up;·exact hc
 ·exact absurd ⟨x,a,decide_eq_true hc⟩ h
def n5(q:Req):Int:=if q.kind=2\/q.kind=4 then q.many else 0
def dH(q:Req):Prop:=(0<=q.id/\q.id<=1)/\(1<=q.kind/\q.kind<=4)/\o7 q.addr q.many q.wrap/\(q.data.length:Int)=n5 q/\(q.g6.length:Int)=n5 q/\All q.data 0 65535/\All q.g6 0 3/\(q.kind=1\/q.kind=2\/q.many=1)
instance {q:Req}:Decidable (dH q):=by unfold dH;infer_instance
def aaM(q r:Rng):Bool:=decide (q.lo<=r.hi/\r.lo<=q.hi)
def SF(r:Rng):Prop:=(0<=r.lo/\r.lo<=63)/\(r.lo<=r.hi/\r.hi<=63)/\(0<=r.K5/\r.K5<=2)
instance {r:Rng}:Decidable (SF r):=by unfold SF;infer_instance
def V9(l:List Rng)(i:Nat):Prop:=SF (l.getD i default)/\ ¬0<=bK (fun q=>aaM q (l.getD i default)) (l.take i)
instance {l:List Rng} {i:Nat}:Decidable (V9 l i):=by unfold V9;infer_instance
def DH(l:List Rng):Prop:=(l.length:Int)<=4/\ ∀i,i<l.length->V9 l i
instance {l:List Rng}:Decidable (DH l):=by unfold DH;infer_instance
def mV(p:List Req):Prop:=(p.length:Int)<=12/\ ¬0<=bK (fun q=>decide (¬dH q)) p
instance {p:List Req}:Decidable (mV p):=by unfold mV;infer_instance
def aQ(c:Cfg):Prop:=DH c.map/\(c.lat.length:Int)=4/\All c.lat 0 3/\(c.cP.length:Int)=3/\ ¬0<=bK (fun p=>decide (¬mV p)) c.cP
instance {c:Cfg}:Decidable (aQ c):=by unfold aQ;infer_instance
def JS(w h:List Int):Prop:=((w.length:Int)=64/\All w 0 65535)/\(h.length:Int)=6/\All h (-1) 63
instance {w h:List Int}:Decidable (JS w h):=by unfold JS;infer_instance
structure jO(c:Cfg):Prop where
 map:c.map.length<2^40
 lat:c.lat.length<2^40
 cP:c.cP.length<2^40
 prog: ∀p∈c.cP,p.length<2^40
 req: ∀p∈c.cP,∀q∈p,q.data.length<2^40/\q.g6.length<2^40
def bT(c:Cfg)(who n:Int):Req:=(c.cP.getD who.toNat default).getD n.toNat default
def oA(c:Cfg)(who n:Int):Prop:=(0<=who/\who<=2)/\0<=n/\n<=(c.cP.getD who.toNat default).length-1
instance {c:Cfg} {who n:Int}:Decidable (oA c who n):=by unfold oA;infer_instance
def iM(who n:Int)(j:Job):Bool:=decide (j.who=who/\j.n=n)
def adI(c:Cfg)(e:Ev)(j:Job):Bool:=decide ((j.who=e.who/\j.n<e.n)/\(bT c j.who j.n).id=(bT c e.who e.n).id)
theorem jO.at(h:jO c)(k:Nat):(c.cP.getD k default).length<2^40:=by
 by_cases a:k<c.cP.length;·exact h.prog _ (by simp[List.getD,a])
 ·have:c.cP.getD k default=[]:=by simp[List.getD,a];rfl
  rw[this];decide
def X6(c:Cfg)(s:TSt)(e:Ev):Int:=
 if ¬(oA c e.who e.n/\1<=e.kind/\e.kind<=3) then 1 else
 if e.kind=1 then (if ¬e.n=s.asked.getD e.who.toNat default then 2 else 0) else
 if e.kind=2 then (if bK (iM e.who e.n) s.wait<0 then 3 else if 0<=bK (adI c e) s.wait then 4 else 0) else
 if bK (iM e.who e.n) s.done<0 then 5 else if 0<=bK (adI c e) s.wait\/0<=bK (adI c e) s.done then 6 else 0
structure azJ(c:Cfg)(s:TSt):Prop where
 words:s.words.length=64
 holds:s.holds.length=6
 asked:s.asked.length=3
 qU:s.wait.length<2^21
 uQ:s.done.length<2^21
 az1:s.told.length<2^21
 wait: ∀j∈s.wait,oA c j.who j.n
 done: ∀j∈s.done,oA c j.who j.n
 told: ∀j∈s.told,oA c j.who j.n
theorem agE:[cI j.who,cI j.n,cI j.rsp.id,cI j.rsp.code,.isl (j.rsp.data.map aJ)]=aS j:=rfl
theorem ai7{r:Rsp}:[cI r.id,cI r.code,.isl (r.data.map aJ)]=tG r:=rfl
def uL(a b:Job):Bool:=decide (a.who<b.who\/(a.who=b.who/\a.n<b.n))
def BM(l:List Job)(j:Job):List Job:=l.take (l.findIdx (uL j))++j::l.drop (l.findIdx (uL j))
def MT(l:List Job)(at_:Nat):List Job:=l.take at_++l.drop (at_+1)
def aN7(l:List Job)(j:Job)(f k:Nat):List Job:=if k<=f then l.take k else l.take f++j::(l.take k).drop f
theorem nK{α:Type}[Inhabited α]{l:List α}(h:k<l.length):l.take (k+1)=l.take k++[l.getD k default]:=by rw[brQ h];simp[List.getD,h]
variable{l:List Job}
theorem aT3{f:Nat}(h:k<l.length)(a:k<f):aN7 l j f (k+1)=aN7 l j f k++[l.getD k default]:=by unfold aN7;rw[if_pos (by omega),if_pos (by omega),nK h]
theorem aT6{f:Nat}(h:k<l.length)(a:k=f):aN7 l j f (k+1)=(aN7 l j f k++[j])++[l.getD k default]:=by subst a;unfold aN7;rw[if_neg (by omega),if_pos (m5 _),nK h,bsJ (by simp;omega)];rw[brZ (by simp;omega)];simp
theorem aT8{f:Nat}(h:k<l.length)(a:f<k):aN7 l j f (k+1)=aN7 l j f k++[l.getD k default]:=by unfold aN7;rw[if_neg (by omega),if_neg (by omega),nK h,bsJ (by simp;omega)];simp
theorem aTU{f:Nat}(h:k<=l.length):(aN7 l j f k).length<=k+1:=by unfold aN7;split<;>simp<;>omega
theorem aTW(a:l.findIdx (uL j)<l.length):aN7 l j (l.findIdx (uL j)) l.length=BM l j:=by unfold aN7 BM;rw[if_neg (by omega)];simp
theorem aTO(a: ¬l.findIdx (uL j)<l.length):aN7 l j (l.findIdx (uL j)) l.length++[j]=BM l j:=by
 have:l.findIdx (uL j)=l.length:=by have:=List.findIdx_le_length (p:=uL j) (xs:=l);omega
 unfold aN7 BM;rw[this];simp
theorem aT2(h:k<l.length)(d:k<=l.findIdx (uL j)):uL j (l.getD k default)=true↔k=l.findIdx (uL j):=by
 have b:l.getD k default=l[k]:=by simp[List.getD,h]
 rw[b];constructor
 ·intro c;have: ¬k<l.findIdx (uL j):=fun a=>by have:=br9 a;simp[c] at this
  omega
 ·intro he;have a:l.findIdx (uL j)<l.length:=by omega
  have:=bsA (w:=a);subst he;simpa using this
def eU8(x:Int):List D1:=[.v (.int .u8 x)]
attribute [go_sem] eU8
def rdO(l:List Int)(p:Nat):bA:=⟨2,1,[[.isl (l.map eU8),cI p]]⟩
structure kZ(l:List Int):Prop where
 len:l.length<2^40
 byte: ∀x∈l,0<=x/\x<256
theorem kZ.at{l:List Int}(h:kZ l)(k:Nat):0<=l.getD k default/\l.getD k default<256:=by
 by_cases a:k<l.length;·exact h.byte _ (by simp[List.getD,a])
 ·have:l.getD k default=0:=by simp[List.getD,a]
  omega
theorem cC{α:Type}[Inhabited α]{l:List α}(h:k<l.length):l.getD k default∈l:=by simp[List.getD,h]
def oW:Rsp:=⟨0,0,[]⟩
def xZ(old new g6:Int):Int:=(if g6/2=1 then new/256 else old/256)*256+(if g6%2=1 then new%256 else old%256)
theorem ag0{old new g6:Int}(a:0<=old/\old<=65535)(b:0<=new/\new<=65535):0<=xZ old new g6/\xZ old new g6<=65535:=by unfold xZ;split<;>split<;>omega
def FV(w all data g6:List Int):Nat->List Int
 |0=>w
 |k+1=>(FV w all data g6 k).set (all.getD k default).toNat (xZ ((FV w all data g6 k).getD (all.getD k default).toNat default) (data.getD k default) (g6.getD k default))
variable{up:Int}
theorem HB{l:List Int}{lo:Int}(h:All l lo up)(a:k<l.length):lo<=l.getD k default/\l.getD k default<=up:=h _ (by simp[List.getD,a])
theorem Q4{l:List Int}(h:All l 0 up)(hu:0<=up)(k:Nat):0<=l.getD k default/\l.getD k default<=up:=by
 by_cases a:k<l.length;·exact HB h a
 ·have:l.getD k default=0:=by simp[List.getD,a]
  omega
theorem afU{l:List Int}{lo:Int}{i:Nat}(h:All l lo up)(b:lo<=x/\x<=up):All (l.set i x) lo up:=by
 intro y c;rcases List.mem_or_eq_of_mem_set c with a|a;·exact h y a
 ·subst a;exact b
variable{w:List Int}
theorem AX{data g6:List Int}(k:Nat):(FV w all data g6 k).length=w.length:=by
 induction k with
 |zero=>rfl
 |succ k a=>simp only[FV,Y5,a]
theorem afR{data g6:List Int}(hw:All w 0 65535)(b:All data 0 65535)(k:Nat):All (FV w all data g6 k) 0 65535:=by
 induction k with
 |zero=>exact hw
 |succ k a=>exact afU a (ag0 (Q4 a (by decide) _) (Q4 b (by decide) _))
def iU(h all:List Int):List Int:=h.map fun x=>if x∈all then-1 else x
variable{h:List Int}
theorem ajK(a:All h (-1) 63):All (iU h all) (-1) 63:=by intro x b;obtain⟨y,c,rfl⟩:=CF.1 b;have:=a y c;split<;>omega
def doM(m:List Rng)(w h:List Int)(who:Int)(q:Req):(List Int×List Int)×Rsp:=
 if bV m (bE q.addr q.many q.wrap)<0 then ((w,h),⟨q.id,4,[]⟩) else
 if wrM q=true/\(m.getD (bV m (bE q.addr q.many q.wrap)).toNat default).only=true then ((w,h),⟨q.id,3,[]⟩) else
 if q.kind=1 then ((w,h),⟨q.id,1,(bE q.addr q.many q.wrap).map fun a=>w.getD a.toNat default⟩) else
 if q.kind=3 then ((w,h.set (who*2+q.id).toNat q.addr),⟨q.id,2,(bE q.addr q.many q.wrap).map fun a=>w.getD a.toNat default⟩) else
 if q.kind=4/\ ¬h.getD (who*2+q.id).toNat default=q.addr then ((w,h),⟨q.id,1,[]⟩) else
 ((FV w (bE q.addr q.many q.wrap) q.data q.g6 (bE q.addr q.many q.wrap).length,iU h (bE q.addr q.many q.wrap)),⟨q.id,if q.kind=4 then 2 else 1,[]⟩)
theorem W4:wrM q=true↔(q.kind=2\/q.kind=4):=by simp[wrM]
variable{m:List Rng}{who:Int}
theorem alZ(a:bV m (bE q.addr q.many q.wrap)<0):doM m w h who q=((w,h),⟨q.id,4,[]⟩):=by unfold doM;rw[if_pos a]
theorem anB(a: ¬bV m (bE q.addr q.many q.wrap)<0)(b:wrM q=true)(c:(m.getD (bV m (bE q.addr q.many q.wrap)).toNat default).only=true):doM m w h who q=((w,h),⟨q.id,3,[]⟩):=by unfold doM;rw[if_neg a,if_pos ⟨b,c⟩]
theorem akI(b: ¬bV m (bE q.addr q.many q.wrap)<0)(c:q.kind=1):doM m w h who q=((w,h),⟨q.id,1,(bE q.addr q.many q.wrap).map fun a=>w.getD a.toNat default⟩):=by unfold doM;rw[if_neg b,if_neg (fun hc=>by have:=W4.1 hc.1;omega),if_pos c]
theorem amK(b: ¬bV m (bE q.addr q.many q.wrap)<0)(c:q.kind=3):doM m w h who q=((w,h.set (who*2+q.id).toNat q.addr),⟨q.id,2,(bE q.addr q.many q.wrap).map fun a=>w.getD a.toNat default⟩):=by unfold doM;rw[if_neg b,if_neg (fun hc=>by have:=W4.1 hc.1;omega),if_neg (by omega),if_pos c]
theorem aqU(a: ¬bV m (bE q.addr q.many q.wrap)<0)(b: ¬(m.getD (bV m (bE q.addr q.many q.wrap)).toNat default).only=true)(c:q.kind=4)(k9: ¬h.getD (who*2+q.id).toNat default=q.addr):doM m w h who q=((w,h),⟨q.id,1,[]⟩):=by unfold doM;rw[if_neg a,if_neg (fun hc=>b hc.2),if_neg (by omega),if_neg (by omega),if_pos ⟨c,k9⟩]
theorem aoE(a: ¬bV m (bE q.addr q.many q.wrap)<0)(b: ¬(m.getD (bV m (bE q.addr q.many q.wrap)).toNat default).only=true)(c:q.kind=4)(k9:h.getD (who*2+q.id).toNat default=q.addr):doM m w h who q=((FV w (bE q.addr q.many q.wrap) q.data q.g6 (bE q.addr q.many q.wrap).length,iU h (bE q.addr q.many q.wrap)),⟨q.id,2,[]⟩):=by unfold doM;rw[if_neg a,if_neg (fun hc=>b hc.2),if_neg (by omega),if_neg (by omega),if_neg (fun hc=>hc.2 k9),if_pos c]
theorem ao1(a: ¬bV m (bE q.addr q.many q.wrap)<0)(b: ¬(m.getD (bV m (bE q.addr q.many q.wrap)).toNat default).only=true)(c:q.kind=2):doM m w h who q=((FV w (bE q.addr q.many q.wrap) q.data q.g6 (bE q.addr q.many q.wrap).length,iU h (bE q.addr q.many q.wrap)),⟨q.id,1,[]⟩):=by unfold doM;rw[if_neg a,if_neg (fun hc=>b hc.2),if_neg (by omega),if_neg (by omega),if_neg (fun hc=>by omega),if_neg (by omega)]
structure WK(w h:List Int):Prop where
 wl:w.length=64
 wr:All w 0 65535
 hl:h.length=6
 hr:All h (-1) 63
theorem ao7(d:WK w h)(e:dH q):WK (doM m w h who q).1.1 (doM m w h who q).1.2:=by
 obtain⟨a,b,c,k9⟩:=d;obtain⟨_,_,f,_,_,g,_,_⟩:=e;unfold doM;split;·exact⟨a,b,c,k9⟩
 split;·exact⟨a,b,c,k9⟩
 split;·exact⟨a,b,c,k9⟩
 split;·exact⟨a,b,by simpa using c,afU k9 (by have:=f.2.1;omega)⟩
 split;·exact⟨a,b,c,k9⟩
 ·exact⟨by rw[AX];exact a,afR b g _,by simpa [iU] using c,ajK k9⟩
def pA(r:Rsp):Prop:=(0<=r.id/\r.id<=1)/\(1<=r.code/\r.code<=4)/\(r.data.length:Int)<=4/\All r.data 0 65535
instance {r:Rsp}:Decidable (pA r):=by unfold pA;infer_instance
theorem afD(hw:All w 0 65535)(f:dH q):pA (doM m w h who q).2/\(doM m w h who q).2.id=q.id:=by
 obtain⟨c,_⟩:=f;have b:All ([]:List Int) 0 65535:=fun x e=>by simp at e
 have g:=MK (addr:=q.addr) (many:=q.many) (wrap:=q.wrap);have d:All ((bE q.addr q.many q.wrap).map fun a=>w.getD a.toNat default) 0 65535:=by intro x e;obtain⟨a,_,rfl⟩:=CF.1 e;exact Q4 hw (by decide) _
 unfold doM;split;·exact⟨⟨c,by dsimp only;omega,by simp,b⟩,rfl⟩
 split;·exact⟨⟨c,by dsimp only;omega,by simp,b⟩,rfl⟩
 split;·exact⟨⟨c,by dsimp only;omega,by simp;omega,d⟩,rfl⟩
 split;·exact⟨⟨c,by dsimp only;omega,by simp;omega,d⟩,rfl⟩
 split;·exact⟨⟨c,by dsimp only;omega,by simp,b⟩,rfl⟩
 ·refine⟨⟨c,?_,by simp,b⟩,rfl⟩;dsimp only;split<;>omega
def lS(c:Cfg)(s:TSt)(e:Ev):TSt:=
 if e.kind=1 then {s with asked:=s.asked.set e.who.toNat (e.n+1),wait:=BM s.wait ⟨e.who,e.n,oW⟩} else
 if e.kind=2 then {s with words:=(doM c.map s.words s.holds e.who (bT c e.who e.n)).1.1,holds:=(doM c.map s.words s.holds e.who (bT c e.who e.n)).1.2,wait:=MT s.wait (bK (iM e.who e.n) s.wait).toNat,done:=BM s.done ⟨e.who,e.n,(doM c.map s.words s.holds e.who (bT c e.who e.n)).2⟩} else
 {s with told:=s.told++[s.done.getD (bK (iM e.who e.n) s.done).toNat default],done:=MT s.done (bK (iM e.who e.n) s.done).toNat}
def key(j:Job):Int×Int:=(j.who,j.n)
def keys(s:TSt):List (Int×Int):=(s.wait++s.done++s.told).map key
abbrev kW(l:List Job):Prop:=l.Pairwise fun a b=>uL a b=true
structure BA(c:Cfg)(s:TSt):Prop where
 atm:WK s.words s.holds
 JI:s.asked.length=3
 DC: ∀k,k<3->0<=s.asked.getD k default/\s.asked.getD k default<=(c.cP.getD k default).length
 NR:kW s.wait
 NW:kW s.done
 ab8: ∀p∈keys s,(0<=p.1/\p.1<=2)/\0<=p.2/\p.2<s.asked.getD p.1.toNat default
 nodup:(keys s).Nodup
 count:(s.wait.length:Int)+s.done.length+s.told.length=s.asked.getD 0 default+s.asked.getD 1 default+s.asked.getD 2 default
 P4: ∀j∈s.wait,j.rsp=oW
 R8: ∀j∈s.done++s.told,pA j.rsp/\j.rsp.id=(bT c j.who j.n).id
theorem qL{a b:Job}:uL a b=true↔a.who<b.who\/(a.who=b.who/\a.n<b.n):=by simp[uL]
theorem nE(l:List Job)(j:Job):(BM l j).Perm (j::l):=by unfold BM;apply brR.trans;rw[boN]
theorem A4(h:k<l.length):l.Perm (l.getD k default::MT l k):=by
 have e:l=l.take k++l.getD k default::l.drop (k+1):=by
  have:l.getD k default=l[k]:=by simp[List.getD,h]
  rw[this,<-brB h,boN]
 conv=>lhs;rw[e]
 exact brR
theorem P2:(MT l k).Sublist l:=by unfold MT;have h:=(List.Sublist.refl (l.take k)).append (bsK l (Nat.le_succ k));rwa [boN] at h
theorem NS(h:kW l):kW (MT l k):=h.sublist P2
theorem FW(h:kW l)(q:key j∉l.map key):kW (BM l j):=by
 unfold BM;have hs:=h;rw[kW,<-boN (l.findIdx (uL j)) l,brM] at hs;obtain⟨r,g,s⟩:=hs
 have k: ∀x∈l.take (l.findIdx (uL j)),uL x j=true:=by
  intro x c;obtain⟨i,hi,rfl⟩:=bqY.1 c;simp only[CG] at hi;have m:i<l.findIdx (uL j):=by omega
  have d:=br9 m;have n:key l[i]≠key j:=fun he=>q (he▸brI (Z5 _));rw[brU];rw[qL];simp only[key,ne_eq,Prod.mk.injEq] at n;simp only[uL,decide_eq_false_iff_not] at d;omega
 have o: ∀x∈l.drop (l.findIdx (uL j)),uL j x=true:=by
  intro x c
  cases e:l.drop (l.findIdx (uL j)) with
  |nil=>rw[e] at c;simp at c
  |cons y ys=>
   rw[e] at c g;have hlen:l.findIdx (uL j)<l.length:=(by have:=congrArg List.length e;simp at this;omega);have t:y=l[l.findIdx (uL j)]:=(by rw[brB hlen] at e;exact(List.cons.inj e).1.symm);have f:uL j y=true:=(by rw[t];exact bsA (w:=hlen));rcases t3.1 c with rfl|c;·exact f
   ·have:=(G0.1 g).1 x c;rw[qL] at this f ⊢;omega
 refine brM.2 ⟨r,G0.2 ⟨o,g⟩,fun a p b d=> ?_⟩;rcases t3.1 d with rfl|d;·exact k a p
 ·exact s a p b d
theorem pW{n:Int}(h: ¬bK (iM who n) l<0):(bK (iM who n) l).toNat<l.length/\key (l.getD (bK (iM who n) l).toNat default)=(who,n):=by
 unfold bK at h ⊢;split;·rename_i k a;obtain⟨c,b,_⟩:=Z4.1 a;refine⟨by simpa using c,?_⟩;simp only[iM,decide_eq_true_eq] at b;simp only[Int.toNat_natCast,key,List.getD,c,n1,Option.getD_some,b.1,b.2]
 ·rename_i a;rw[a] at h;simp at h
variable{e:Ev}
theorem M8(h:X6 c s e=0):oA c e.who e.n/\(e.kind=1/\e.n=s.asked.getD e.who.toNat default\/e.kind=2/\ ¬bK (iM e.who e.n) s.wait<0\/e.kind=3/\ ¬bK (iM e.who e.n) s.done<0):=by
 unfold X6 at h;split at h;·exact absurd h (by decide)
 rename_i b;have b:=Classical.not_not.1 b;refine⟨b.1,?_⟩;split at h
 ·rename_i d;split at h;·exact absurd h (by decide)
  ·rename_i a;exact .inl ⟨d,Classical.not_not.1 a⟩
 split at h
 ·rename_i d;split at h;·exact absurd h (by decide)
  ·rename_i a;exact .inr (.inl ⟨d,a⟩)
 split at h;·exact absurd h (by decide)
 ·rename_i a;exact .inr (.inr ⟨by omega,a⟩)
theorem alI(a:e.kind=1):(keys (lS c s e)).Perm ((e.who,e.n)::keys s):=by simp only[keys,lS,a,if_true,bqX];have:=(nE s.wait ⟨e.who,e.n,oW⟩).map key;exact(this.append_right _).append_right _
theorem anP(b:e.kind=2)(hi: ¬bK (iM e.who e.n) s.wait<0):(keys (lS c s e)).Perm (keys s):=by obtain⟨d,f⟩:=pW hi;simp only[keys,lS,b,if_true,if_false,bqX,Int.reduceEq];apply List.Perm.append_right _;refine(((nE s.done _).map key).append_left _).trans ?_;simp only[n3];apply brR.trans;have a:=(A4 d).map key;simp only[n3,f] at a;exact(a.symm.append_right _)
theorem aiH(b:e.kind=3)(hi: ¬bK (iM e.who e.n) s.done<0):(keys (lS c s e)).Perm (keys s):=by obtain⟨d,f⟩:=pW hi;simp only[keys,lS,b,if_false,bqX,Int.reduceEq,C0];apply List.Perm.append_left _;have a:=(A4 d).map key;simp only[n3] at a;have k9:=a.append_right (s.told.map key);refine List.Perm.trans ?_ k9.symm;simp only[n3,q0,List.cons_append];rw[<-C0];exact(List.perm_append_singleton _ _)
theorem atB{l:List Int}(hl:l.length=3)(e:k<3)(d:x=l.getD k default+1):(l.set k x).getD 0 default+(l.set k x).getD 1 default+(l.set k x).getD 2 default=l.getD 0 default+l.getD 1 default+l.getD 2 default+1:=by
 match l,hl with
 | [a,b,c],_=>subst d;have:k=0\/k=1\/k=2:=(by omega);rcases this with rfl|rfl|rfl<;>simp[List.getD]<;>omega
theorem wV{l:List Int}{i:Nat}(a:k<l.length):(l.set k x).getD i default=if i=k then x else l.getD i default:=by
 simp only[List.getD,D0];by_cases h:k=i;·subst h;simp[a]
 ·simp[h,Ne.symm h,eq_comm]
theorem abN(h:k<l.length):(MT l k).length+1=l.length:=by have:=(A4 h).length_eq;simpa using this.symm
theorem ZE:(BM l j).length=l.length+1:=by simpa using (nE l j).length_eq
theorem ab0(h:(keys s).Nodup): ∀p∈s.wait.map key,p∉s.done.map key:=by simp only[keys,bqX] at h;rw[C0,brG] at h;intro p hp a;exact h.2.2 p hp p (brA _ a) rfl
theorem GK{n:Int}(a:aQ c)(h:oA c who n):dH (bT c who n):=by
 obtain⟨_,_,_,k9,l1⟩:=a;obtain⟨e,f,g⟩:=h;rw[cH] at l1;have b:who.toNat<c.cP.length:=by omega
 have bOW:mV (c.cP.getD who.toNat default):=Classical.byContradiction fun hc=>l1 ⟨c.cP.getD who.toNat default,by simp[List.getD,b],decide_eq_true hc⟩;have bO2:=bOW.2;rw[cH] at bO2;have d:n.toNat<(c.cP.getD who.toNat default).length:=by omega
 exact Classical.byContradiction fun hc=>bO2 ⟨(c.cP.getD who.toNat default).getD n.toNat default,cC d,decide_eq_true hc⟩
theorem G9(B:aQ c)(hs:BA c s)(h:X6 c s e=0):BA c (lS c s e):=by
 obtain⟨u,r⟩:=M8 h;obtain⟨hw,C⟩:=u;have z:dH (bT c e.who e.n):=GK B ⟨hw,C⟩;have v:e.who.toNat<3:=by omega
 have f:e.who.toNat<s.asked.length:=by rw[hs.JI];exact v
 rcases r with⟨o,hi⟩|⟨o,hi⟩|⟨o,hi⟩
 ·have hp:=alI (c:=c) (s:=s) o;have q:(e.who,e.n)∉keys s:=fun hm=>by have:=(hs.ab8 _ hm).2.2;dsimp only at this;omega
  have d:lS c s e= {s with asked:=s.asked.set e.who.toNat (e.n+1),wait:=BM s.wait ⟨e.who,e.n,oW⟩}:=by simp only[lS,o,if_true]
  refine⟨by rw[d];exact hs.atm,by rw[d];simpa using hs.JI,fun k D=> ?_,?_,by rw[d];exact hs.NW,fun p g=> ?_,hp.nodup_iff.2 (bq8.2 ⟨q,hs.nodup⟩),?_,?_,?_⟩
  ·have:=hs.DC k D;rw[d];dsimp only;rw[wV f];split;·rename_i t;subst t;omega
   ·exact this
  ·rw[d];refine FW hs.NR fun hm=>q ?_;simp only[keys,bqX];exact brA _ (brA _ hm)
  ·rcases t3.1 (hp.mem_iff.1 g) with rfl|hm;·rw[d];dsimp only;rw[wV f,if_pos rfl];omega
   ·have:=hs.ab8 p hm;rw[d];dsimp only;rw[wV f];split;·rename_i t;rw[t] at this;omega
    ·exact this
  ·have:=hs.count;rw[d];dsimp only;rw[ZE,atB hs.JI v (by omega)];omega
  ·rw[d];intro j a;rcases t3.1 ((nE _ _).mem_iff.1 a) with rfl|a;·rfl
   ·exact hs.P4 j a
  ·rw[d];exact hs.R8
 ·have hp:=anP (c:=c) o hi;obtain⟨w,A⟩:=pW hi;have i: ∀p,p∈keys (lS c s e)↔p∈keys s:=fun p=>hp.mem_iff;have hlen:=abN w;have x:(e.who,e.n)∉s.done.map key:=ab0 hs.nodup _ (CF.2 ⟨_,cC w,A⟩);have y:=ao7 (m:=c.map) (who:=e.who) hs.atm z;have d:lS c s e= {s with words:=(doM c.map s.words s.holds e.who (bT c e.who e.n)).1.1,holds:=(doM c.map s.words s.holds e.who (bT c e.who e.n)).1.2,wait:=MT s.wait (bK (iM e.who e.n) s.wait).toNat,done:=BM s.done ⟨e.who,e.n,(doM c.map s.words s.holds e.who (bT c e.who e.n)).2⟩}:=by simp[lS,o]
  have b:=hp.nodup_iff.2 hs.nodup;rw[d] at i b ⊢
  exact⟨y,hs.JI,hs.DC,NS hs.NR,FW hs.NW x,fun p g=>hs.ab8 p ((i p).1 g),b,by have:=hs.count;have:=ZE (l:=s.done) (j:=⟨e.who,e.n,(doM c.map s.words s.holds e.who (bT c e.who e.n)).2⟩);dsimp only;omega,fun j a=>hs.P4 j (P2.mem a),fun j a=>by
   rcases o3.1 a with a|a
   ·rcases t3.1 ((nE _ _).mem_iff.1 a) with rfl|a;·exact afD hs.atm.wr z
    ·exact hs.R8 j (brA _ a)
   ·exact hs.R8 j (brH _ a)⟩
 ·have hp:=aiH (c:=c) o hi;obtain⟨w,A⟩:=pW hi;have i: ∀p,p∈keys (lS c s e)↔p∈keys s:=fun p=>hp.mem_iff;have hlen:=abN w;have d:lS c s e= {s with told:=s.told++[s.done.getD (bK (iM e.who e.n) s.done).toNat default],done:=MT s.done (bK (iM e.who e.n) s.done).toNat}:=by simp[lS,o]
  have b:=hp.nodup_iff.2 hs.nodup;rw[d] at i b ⊢
  exact⟨hs.atm,hs.JI,hs.DC,hs.NR,NS hs.NW,fun p g=>hs.ab8 p ((i p).1 g),b,by have:=hs.count;simp only[t2,List.length_cons,List.length_nil];omega,hs.P4,fun j a=>by
   rcases o3.1 a with a|a
   ·exact hs.R8 j (brA _ (P2.mem a))
   ·rcases o3.1 a with a|a;·exact hs.R8 j (brH _ a)
    ·simp only[CJ] at a;subst a;exact hs.R8 _ (brA _ (cC w))⟩
theorem hC(b:aQ c):c.cP.length=3/\ ∀k,(c.cP.getD k default).length<=12:=by
 obtain⟨_,_,_,k9,l1⟩:=b;refine⟨by omega,fun k=> ?_⟩;rw[cH] at l1;by_cases a:k<c.cP.length;·have bOW:mV (c.cP.getD k default):=Classical.byContradiction fun hc=>l1 ⟨c.cP.getD k default,by simp[List.getD,a],decide_eq_true hc⟩;have:=bOW.1;omega
 ·have:c.cP.getD k default=[]:=by simp[List.getD,a];rfl
  rw[this];simp
theorem BA.lens(b:aQ c)(hs:BA c s):s.wait.length+s.done.length+s.told.length<=36:=by have a:=(hC b).2;have d:=hs.DC 0 (by decide);have e:=hs.DC 1 (by decide);have k9:=hs.DC 2 (by decide);have l1:=hs.count;have:=a 0;have:=a 1;have:=a 2;omega
theorem BA.mem(hs:BA c s)(a:j∈s.wait++s.done++s.told):oA c j.who j.n:=by have h:=hs.ab8 (key j) (CF.2 ⟨j,a,rfl⟩);simp only[key] at h;have:=hs.DC j.who.toNat (by omega);exact⟨h.1,by omega⟩
def runM(c:Cfg)(s:TSt)(l:List Ev):TSt:=l.foldl (lS c) s
def F9(c:Cfg)(s:TSt)(l:List Ev):Prop:=∀k,k<l.length->X6 c (runM c s (l.take k)) (l.getD k default)=0
theorem pV:F9 c s []:=fun k a=>by simp at a
theorem BA.fit(b:aQ c)(hs:BA c s):azJ c s:=by have:=hs.lens b;exact⟨hs.atm.wl,hs.atm.hl,hs.JI,by omega,by omega,by omega,fun j a=>hs.mem (by simp[a]),fun j a=>hs.mem (by simp[a]),fun j a=>hs.mem (by simp[a])⟩
theorem acW{l:List Int}(h:k<l.length):l.take (k+1)=l.take k++[l.getD k default]:=nK h
def xI(h all:List Int)(k:Nat):List Int:=iU (h.take k) all++h.drop k
theorem aiJ(a:k<=h.length):(xI h all k).length=h.length:=by simp[xI,iU];omega
theorem akN(a:k<h.length):(xI h all k).getD k default=h.getD k default:=by
 have e:(iU (h.take k) all).length=k:=by simp[iU];omega
 simp only[xI,List.getD,o5,e,br6,if_false,brJ,s5,Nat.add_zero]
theorem drop_cons{l:List Int}(h:k<l.length):l.drop k=l.getD k default::l.drop (k+1):=by rw[brB h];simp[List.getD,h]
theorem aeS{l:List Int}:iU (l++[x]) all=iU l all++[if x∈all then-1 else x]:=by simp[iU]
theorem agQ(a:k<h.length)(b:x=if h.getD k default∈all then-1 else h.getD k default):(xI h all k).set k x=xI h all (k+1):=by
 have e:(iU (h.take k) all).length=k:=by simp[iU];omega
 unfold xI;rw[bsB,e,if_neg (by omega),brJ,acW a,drop_cons a,aeS,List.set_cons_zero,b,C0];rfl
theorem acP(a:k<h.length):(xI h all k).set k (h.getD k default)=xI h all k:=by
 have e:(iU (h.take k) all).length=k:=by simp[iU];omega
 unfold xI;rw[bsB,e,if_neg (by omega),brJ,drop_cons a,List.set_cons_zero]
theorem ac9:xI h all 0=h:=by simp[xI,iU]
theorem ahC:xI h all h.length=iU h all:=by simp[xI]
theorem ai5(h:o7 addr many wrap):0<(bE addr many wrap).length:=by rw[DF h];obtain⟨a,_⟩:=h;omega
theorem Q1{a m:Nat}(h:a<2^(m+k)):a&&& ((2^m-1)<<<k)=a/2^k*2^k:=by
 apply Nat.eq_of_testBit_eq;intro i;have d:a/2^k*2^k=(a>>>k)<<<k:=by rw[Nat.shiftRight_eq_div_pow,Nat.shiftLeft_eq]
 rw[d,Nat.testBit_and,bsL,bsL,Nat.testBit_two_pow_sub_one,Nat.testBit_shiftRight];by_cases bPH:k<=i
 ·have c:k+(i-k)=i:=by omega
  by_cases b:i<m+k;·simp[bPH,c];omega
  ·have:a.testBit i=false:=Nat.testBit_lt_two_pow (Nat.lt_of_lt_of_le h (Nat.pow_le_pow_right (br5 1) (Nat.le_of_not_lt b)));simp[c,this]
 ·simp[bPH]
theorem ak6{a:Nat}:a&&& 255=a%256:=bsC a 8
theorem alX{a b:Nat}(h:b<256):a*256|||b=a*256+b:=by have:=Nat.two_pow_add_eq_or_of_lt (i:=8) (b:=b) h a;rw[show (2:Nat)^8*a=a*256 from w1 _ _] at this;exact this.symm
def aeN(old new m:Int):Int:=IntKind.i64.wrap ↑(BitVec.ofInt 64 (IntKind.i64.wrap ↑(BitVec.ofInt 64 old&&& ~~~BitVec.ofInt 64 m).toNat)|||BitVec.ofInt 64 (IntKind.i64.wrap ↑(BitVec.ofInt 64 new&&& BitVec.ofInt 64 m).toNat)).toNat
theorem VW{a:Nat}(h:a<65536):(BitVec.ofNat 64 a).toNat=a:=by rw[BitVec.toNat_ofNat];omega
theorem LP{a b m x y:Nat}(e:a<65536)(f:b<65536)(g:a&&& (18446744073709551615-m)=x)(h:b&&& m=y)(hm:m<65536)(c:x<65536)(d:y<65536)(k:x|||y<65536):aeN a b m=((x|||y:Nat):Int):=by
 have i:(BitVec.ofInt 64 (a:Int)&&& ~~~BitVec.ofInt 64 (m:Int)).toNat=x:=by rw[BitVec.ofInt_natCast,BitVec.ofInt_natCast,BitVec.toNat_and,BitVec.toNat_not,VW e,VW hm];exact g
 have j:(BitVec.ofInt 64 (b:Int)&&& BitVec.ofInt 64 (m:Int)).toNat=y:=by rw[BitVec.ofInt_natCast,BitVec.ofInt_natCast,BitVec.toNat_and,VW f,VW hm];exact h
 unfold aeN;rw[i,j,IntWalk.i64_in (x:Int) (by omega),IntWalk.i64_in (y:Int) (by omega),BitVec.ofInt_natCast,BitVec.ofInt_natCast,BitVec.toNat_or,VW c,VW d,IntWalk.i64_in _ (by omega)]
theorem PW{old new g6 m:Int}(j:0<=old/\old<=65535)(l:0<=new/\new<=65535)(h:g6=0/\m=0\/g6=1/\m=255\/g6=2/\m=65280\/g6=3/\m=65535):aeN old new m=xZ old new g6:=by
 obtain⟨a,rfl⟩: ∃a:Nat,old=a:=⟨old.toNat,by omega⟩
 obtain⟨b,rfl⟩: ∃b:Nat,new=b:=⟨new.toNat,by omega⟩
 have d:a<65536:=by omega
 have f:b<65536:=by omega
 have bpN:=Q1 (a:=a) (m:=56) (k:=8) (by omega);have bpO:=Q1 (a:=b) (m:=8) (k:=8) (by omega);have bpP:=Q1 (a:=a) (m:=48) (k:=16) (by omega);rcases h with⟨rfl,rfl⟩|⟨rfl,rfl⟩|⟨rfl,rfl⟩|⟨rfl,rfl⟩
 ·have:=LP (a:=a) (b:=b) (m:=0) (x:=a) (y:=0) d f (by rw[show 18446744073709551615-0=2^64-1 from rfl,bsC];omega) (Nat.and_zero b) (by omega) d (by omega) (by simpa using d);rw[show ((0:Nat):Int)=0 from rfl] at this;rw[this,Nat.or_zero];unfold xZ;simp;omega
 ·have g:a&&& (18446744073709551615-255)=a/256*256:=bpN;have c:a/256*256|||b%256=a/256*256+b%256:=alX (by omega);have:=LP (a:=a) (b:=b) (m:=255) d f g ak6 (by omega) (by omega) (by omega) (by omega);rw[show ((255:Nat):Int)=255 from rfl] at this;rw[this,c];unfold xZ;simp
 ·have g:a&&& (18446744073709551615-65280)=a%256:=by
   have e:18446744073709551615-65280=((2^48-1)<<<16)|||255:=by decide
   rw[e,Nat.and_or_distrib_left,bpP,ak6]
   have:a/2^16=0:=by omega
   rw[this];simp
  have i:b&&& 65280=b/256*256:=bpO
  have c:a%256|||b/256*256=b/256*256+a%256:=by rw[Nat.or_comm];exact alX (by omega)
  have:=LP (a:=a) (b:=b) (m:=65280) d f g i (by omega) (by omega) (by omega) (by omega)
  rw[show ((65280:Nat):Int)=65280 from rfl] at this
  rw[this,c]
  unfold xZ;simp
 ·have g:a&&& (18446744073709551615-65535)=0:=by
   have e:18446744073709551615-65535=((2^48-1)<<<16):=by decide
   rw[e,bpP];omega
  have i:b&&& 65535=b:=by rw[show (65535:Nat)=2^16-1 from rfl,bsC];omega
  have:=LP (a:=a) (b:=b) (m:=65535) d f g i (by omega) (by omega) (by omega) (by simpa using f)
  rw[show ((65535:Nat):Int)=65535 from rfl] at this
  rw[this,Nat.zero_or]
  unfold xZ;simp;omega
def aaU(x:Int):Int:=IntKind.i64.wrap ↑(BitVec.ofInt 64 (IntKind.i64.wrap (IntKind.i64.wrap ↑(BitVec.ofInt 64 x&&& BitVec.ofInt 64 1).toNat*255))|||BitVec.ofInt 64 (IntKind.i64.wrap (Int.fdiv x (2^min 1 64)*65280))).toNat
theorem arC:aaU 0=0:=by decide
theorem aqD:aaU 1=255:=by decide
theorem arO:aaU 2=65280:=by decide
theorem arA:aaU 3=65535:=by decide
structure Sam(k:Int)(s s':TSt):Prop where
 asked:s'.asked.getD k.toNat default=s.asked.getD k.toNat default
 wait: ∀n,(k,n)∈s'.wait.map key↔(k,n)∈s.wait.map key
 done: ∀n,(k,n)∈s'.done.map key↔(k,n)∈s.done.map key
theorem Sam.refl{k:Int}:Sam k s s:=⟨rfl,fun _=>.rfl,fun _=>.rfl⟩
theorem Sam.symm{k:Int}{s s':TSt}(h:Sam k s s'):Sam k s' s:=⟨h.asked.symm,fun n=>(h.wait n).symm,fun n=>(h.done n).symm⟩
theorem Sam.trans{k:Int}{s s' s2:TSt}(h:Sam k s s')(a:Sam k s' s2):Sam k s s2:=⟨a.asked.trans h.asked,fun n=>(a.wait n).trans (h.wait n),fun n=>(a.done n).trans (h.done n)⟩
def kP(q:Req):List Int:=bE q.addr q.many q.wrap
def hB(a:Nat)(who:Int)(q:Req)(h:List Int):List Int:=if a=5 then iU h (kP q) else if a=3 then h.set (who*2+q.id).toNat q.addr else h
def u9(a b:Req):Prop:=∀x∈kP a,x∉kP b
theorem u9.symm{a b:Req}(h:u9 a b):u9 b a:=fun x c d=>h x d c
def ajR(c:Cfg)(a b:Ev):Prop:=a.who≠b.who/\ ¬(a.kind=3/\b.kind=3)/\(a.kind=2->b.kind=2->u9 (bT c a.who a.n) (bT c b.who b.n))
instance {a b:Req}:Decidable (u9 a b):=by unfold u9;infer_instance
instance {c:Cfg} {a b:Ev}:Decidable (ajR c a b):=by unfold ajR;infer_instance
theorem SD: ∀{l a:List Job},kW l->kW a->(∀x,x∈l↔x∈a)->l=a
 | [],[],_,_,_=>rfl
 | [],y::a,_,_,hm=>by have:=(hm y).2 (by simp);cases this
 |x::l,[],_,_,hm=>by have:=(hm x).1 (by simp);cases this
 |x::l,y::a,h,j,hm=>by
  have b: ∀z:Job,uL z z=false:=fun z=>by simp[uL]
  obtain⟨g,k⟩:=G0.1 h;obtain⟨i,k9⟩:=G0.1 j
  have d:x=y:=by
   rcases t3.1 ((hm x).1 (by simp)) with e|e;·exact e
   ·rcases t3.1 ((hm y).2 (by simp)) with f|f;·exact f.symm
    ·have m:=i x e;have n:=g y f;rw[qL] at m n;omega
  subst d;congr 1;refine SD k k9 fun z=>⟨fun c=> ?_,fun c=> ?_⟩
  ·rcases t3.1 ((hm z).1 (by simp[c])) with he|he;·subst he;have:=g z c;rw[b] at this;cases this
   ·exact he
  ·rcases t3.1 ((hm z).2 (by simp[c])) with he|he;·subst he;have:=i z c;rw[b] at this;cases this
   ·exact he
theorem wW{l:List Ev}:runM c s (e::l)=runM c (lS c s e) l:=rfl
theorem ZL{a b:List Ev}:runM c s (a++b)=runM c (runM c s a) b:=by simp[runM]
theorem xB{l:List Ev}:F9 c s (e::l)↔X6 c s e=0/\F9 c (lS c s e) l:=by
 constructor;·intro h;refine⟨h 0 (by simp),fun k a=> ?_⟩;have:=h (k+1) (by simpa using a);rwa [List.take_succ_cons,wW,byG] at this
 ·rintro⟨b,d⟩ k a
  match k with
  |0=>exact b
  |k+1=>rw[List.take_succ_cons,wW,byG];exact d k (by simpa using a)
theorem WS{a b:List Ev}:F9 c s (a++b)↔F9 c s a/\F9 c (runM c s a) b:=by
 induction a generalizing s with
 |nil=>simp[runM,pV]
 |cons e a d=>rw[List.cons_append,xB,xB,d,wW,and_assoc]
structure aTQ(s:TSt):Prop where
 words:s.words.length<2^21
 holds:s.holds.length<2^21
 asked:s.asked.length<2^21
 wait:s.wait.length<2^21
 done:s.done.length<2^21
 told:s.told.length<2^21
 data: ∀j∈s.wait++s.done++s.told,j.rsp.data.length<2^21
def InA(asked:List Int)(j:Job):Prop:=(0<=j.who/\j.who<=2)/\0<=j.n/\j.n<asked.getD j.who.toNat default
def as5(c:Cfg)(j:Job):Prop:=pA j.rsp/\j.rsp.id=(bT c j.who j.n).id
def aTF(c:Cfg)(asked:List Int):Prop:=∀k,k<3->0<=asked.getD k default/\asked.getD k default<=(c.cP.getD k default).length
noncomputable def stB(c:Cfg)(s:TSt):Bool:=@decide (BA c s) (Classical.propDecidable _)
theorem aXJ(h:BA c s):stB c s=true:=by simp[stB,h]
theorem aWH(h: ¬BA c s):stB c s=false:=by simp[stB,h]
noncomputable def tlB(c:Cfg)(s:TSt):Bool:=@decide (aQ c/\BA c s) (Classical.propDecidable _)
theorem aTX(a:aQ c)(h:BA c s):tlB c s=true:=by simp[tlB,h,a]
theorem aOH(h: ¬(aQ c/\BA c s)):tlB c s=false:=by simp[tlB,h]
theorem aXH(a:aQ c):tlB c s=stB c s:=by simp[tlB,stB,a]
theorem zG(h:kW l):(l.map key).Nodup:=by refine brY.2 (h.imp ?_);intro a b c he;rw[qL] at c;simp only[key,Prod.mk.injEq] at he;omega
theorem aUA(a:JS s.words s.holds)(d:s.asked.length=3)(e:aTF c s.asked)(k9:kW s.wait)(l1:kW s.done)(bOW: ∀j∈s.wait++s.done++s.told,InA s.asked j)(bO2:(keys s).Nodup)
 (bPH:(s.wait.length:Int)+s.done.length+s.told.length=s.asked.getD 0 default+s.asked.getD 1 default+s.asked.getD 2 default) (bO3: ∀j∈s.wait,j.rsp=oW) (b: ∀j∈s.done++s.told,as5 c j):BA c s:=
 ⟨⟨by have:=a.1.1;omega,a.1.2,by have:=a.2.1;omega,a.2.2⟩,d,e,k9,l1,fun p hp=>by
   obtain⟨j,f,rfl⟩:=CF.1 hp
   exact bOW j f,bO2,bPH,bO3,b⟩
theorem aS8{w d t:List Job}(hw:kW w)(h:kW d)(i:(t.map key).Nodup)(g: ∀j∈t,key j∉w.map key/\key j∉d.map key)(k: ∀j∈d,key j∉w.map key):((w++d++t).map key).Nodup:=by
 rw[bqX,bqX,brG,brG];refine⟨⟨zG hw,zG h,fun a c b f he=> ?_⟩,i,fun a c b f he=> ?_⟩;·obtain⟨j,e,rfl⟩:=CF.1 f;exact k j e (he▸c)
 ·obtain⟨j,e,rfl⟩:=CF.1 f;rcases o3.1 c with c|c;·exact(g j e).1 (he▸c)
  ·exact(g j e).2 (he▸c)
theorem ZP{n:Int}:0<=bK (iM who n) l↔(who,n)∈l.map key:=by
 rw[cH,CF];refine⟨fun⟨x,a,h⟩=>⟨x,a,?_⟩,fun⟨x,a,h⟩=>⟨x,a,?_⟩⟩;·have:=of_decide_eq_true h;simp[key,this.1,this.2]
 ·simp only[key,Prod.mk.injEq] at h;exact decide_eq_true h
theorem BA.apart(h:BA c s):(s.told.map key).Nodup/\(∀j∈s.told,key j∉s.wait.map key/\key j∉s.done.map key)/\(∀j∈s.done,key j∉s.wait.map key):=by
 have b:=h.nodup;unfold keys at b;rw[bqX,bqX,brG,brG] at b;obtain⟨⟨e,f,d⟩,k9,l1⟩:=b;refine⟨k9,fun j a=>⟨fun hm=> ?_,fun hm=> ?_⟩,fun j a hm=> ?_⟩;·exact l1 _ (brA _ hm) _ (brI a) rfl
 ·exact l1 _ (brH _ hm) _ (brI a) rfl
 ·exact d _ hm _ (brI a) rfl
structure aPN(c:Cfg)(asked:List Int)(l:List Job)(done:Bool):Prop where
 inA: ∀j∈l,InA asked j
 sorted:kW l
 rsp: ∀j∈l,if done then as5 c j else j.rsp=oW
noncomputable def aPK(c:Cfg)(asked:List Int)(l:List Job)(done:Bool):Bool:=@decide (aPN c asked l done) (Classical.propDecidable _)
theorem aQD{asked:List Int}{done:Bool}(h:aPN c asked l done):aPK c asked l done=true:=by simp[aPK,h]
theorem aSY{asked:List Int}{done:Bool}(h: ¬aPN c asked l done):aPK c asked l done=false:=by simp[aPK,h]
structure aSQ(c:Cfg)(s:TSt):Prop where
 inA: ∀j∈s.told,InA s.asked j
 once:(s.told.map key).Nodup
 rsp: ∀j∈s.told,as5 c j
noncomputable def aRF(c:Cfg)(s:TSt):Bool:=@decide (aSQ c s) (Classical.propDecidable _)
theorem aTM(h:aSQ c s):aRF c s=true:=by simp[aRF,h]
theorem aTL(h: ¬aSQ c s):aRF c s=false:=by simp[aRF,h]
theorem aTG(b:JS s.words s.holds)(d:s.asked.length=3)(e:aTF c s.asked)(k9:aPN c s.asked s.wait false)(l1:aPN c s.asked s.done true)(bOW:aSQ c s)
 (bPH:(s.wait.length:Int)+s.done.length+s.told.length=s.asked.getD 0 default+s.asked.getD 1 default+s.asked.getD 2 default) (bO2: ∀j∈s.told,key j∉s.wait.map key/\key j∉s.done.map key) (bO3: ∀j∈s.done,key j∉s.wait.map key):BA c s:=by
 refine aUA b d e k9.sorted l1.sorted (fun j a=> ?_) (aS8 k9.sorted l1.sorted bOW.once bO2 bO3) bPH (fun j a=>by simpa using k9.rsp j a) fun j a=> ?_
 ·simp only[o3] at a;rcases a with(a|a)|a;·exact k9.inA j a
  ·exact l1.inA j a
  ·exact bOW.inA j a
 ·rcases o3.1 a with a|a;·have:=l1.rsp j a;rwa [if_pos rfl] at this
  ·exact bOW.rsp j a
theorem BA.inA(h:BA c s): ∀j∈s.wait++s.done++s.told,InA s.asked j:=fun j a=>h.ab8 (key j) (brI a)
theorem BA.aUL(h:BA c s):aPN c s.asked s.wait false:=⟨fun j a=>h.inA j (by simp[a]),h.NR,fun j a=>by simpa using h.P4 j a⟩
theorem BA.aUM(h:BA c s):aPN c s.asked s.done true:=⟨fun j a=>h.inA j (by simp[a]),h.NW,fun j a=>by rw[if_pos rfl];exact h.R8 j (by simp[a])⟩
theorem BA.aUN(h:BA c s):aSQ c s:=⟨fun j a=>h.inA j (by simp[a]),h.apart.1,fun j a=>h.R8 j (by simp[a])⟩
theorem aEA{l:List Int}{lo:Int}(h: ∀i,i<l.length->lo<=l.getD i default/\l.getD i default<=up):All l lo up:=fun x a=>by obtain⟨i,hi,rfl⟩:=bqY.1 a;simpa [List.getD,hi] using h i hi
theorem aj1{l:List Int}{lo:Int}(h:All l lo up){i:Nat}(hi:i<l.length):lo<=l.getD i default/\l.getD i default<=up:=h _ (by simp[List.getD,hi])
theorem aKJ{α:Type}[Inhabited α]{l:List α}{P:α->Prop}(h: ∀i,i<l.length->P (l.getD i default)): ∀x∈l,P x:=fun x a=>by obtain⟨i,hi,rfl⟩:=bqY.1 a;simpa [List.getD,hi] using h i hi
structure fC where
 who:Int
 n:Int
 left:Int
 deriving Inhabited,DecidableEq
structure fR where
 next:Int
 queue:List Int
 out:List fC
 last:Int
 deriving Inhabited,DecidableEq
structure nY where
 pipe:List fC
 done:List Job
 last:Int
 deriving Inhabited,DecidableEq
structure CSt where
 words:List Int
 holds:List Int
 bM:List fR
 dD:List nY
 told:List Job
 deriving Inhabited,DecidableEq
structure CIn where
 ready:List Bool
 n9:List Bool
 send:List Bool
 deriving Inhabited,DecidableEq
def gZ(m:List Rng)(q:Req):Int:=if bV m (bE q.addr q.many q.wrap)<0 then 3 else (m.getD (bV m (bE q.addr q.many q.wrap)).toNat default).K5
def aF(s:CSt)(k:Nat):fR:=s.bM.getD k default
def aL(s:CSt)(k:Nat):nY:=s.dD.getD k default
def jX(l:List Job):List Job:=l.foldl BM []
def jJ(s:CSt)(k:Nat):List Job:=(aF s k).queue.map fun n=>⟨k,n,oW⟩
def hJ(s:CSt)(k:Nat):List Job:=(aL s k).pipe.map fun j=>⟨j.who,j.n,oW⟩
def qU(s:CSt):List Job:=(List.range s.bM.length).flatMap (jJ s)++(List.range s.dD.length).flatMap (hJ s)
def uQ(s:CSt):List Job:=(List.range s.dD.length).flatMap fun k=>(aL s k).done
def cX(s:CSt):TSt:=⟨s.words,s.holds,s.bM.map (·.next),jX (qU s),jX (uQ s),s.told⟩
def B3{α:Type}(l:List α)(k:Nat):List α:=l.take k++l.drop (k+1)
def isC(n:Int)(j:fC):Bool:=decide (j.n=n)
def PE(l:List fC)(n:Int):List fC:=B3 l (bK (isC n) l).toNat
inductive Mic where
 |tell (who st:Nat)
 |tick (st:Nat)
 |work (st:Nat)
 |adm (who st:Nat)
 |ask (who:Nat)
def HV(c:Cfg)(s:CSt)(who st:Nat):Prop:=0<(aF s who).queue.length/\(aF s who).out.length<4/\gZ c.map (bT c who ((aF s who).queue.getD 0 default))=st/\
 ∀j∈(aF s who).out,(bT c who j.n).id=(bT c who ((aF s who).queue.getD 0 default)).id->j.left=st
instance {c:Cfg} {s:CSt} {who st:Nat}:Decidable (HV c s who st):=by unfold HV;infer_instance
def EH(c:Cfg)(s:CSt):Mic->Prop
 | .tell who st=>who<3/\st<4/\0<(aL s st).done.length/\((aL s st).done.getD 0 default).who=who
 | .tick st=>st<4/\0<(aL s st).pipe.length/\0<((aL s st).pipe.getD 0 default).left
 | .work st=>st<4/\0<(aL s st).pipe.length/\ ¬0<((aL s st).pipe.getD 0 default).left/\(aL s st).done.length<2
 | .adm who st=>who<3/\st<4/\(aL s st).pipe.length<2/\HV c s who st
 | .ask who=>who<3/\(aF s who).queue.length<2/\(aF s who).next<(c.cP.getD who default).length
def iF(s:CSt)(st:Nat):Job:=(aL s st).done.getD 0 default
def bI(s:CSt)(st:Nat):fC:=(aL s st).pipe.getD 0 default
def jD(c:Cfg)(s:CSt)(st:Nat):(List Int×List Int)×Rsp:=doM c.map s.words s.holds (bI s st).who (bT c (bI s st).who (bI s st).n)
def aR(c:Cfg)(s:CSt):Mic->CSt
 | .tell who st=>{s with told:=s.told++[iF s st],dD:=s.dD.set st {aL s st with done:=(aL s st).done.drop 1},bM:=s.bM.set who {aF s who with out:=PE (aF s who).out (iF s st).n,last:=st}}
 | .tick st=>{s with dD:=s.dD.set st {aL s st with pipe:=(aL s st).pipe.set 0 {bI s st with left:=(bI s st).left-1}}}
 | .work st=>{s with words:=(jD c s st).1.1,holds:=(jD c s st).1.2,dD:=s.dD.set st {aL s st with pipe:=(aL s st).pipe.drop 1,done:=(aL s st).done++[⟨(bI s st).who,(bI s st).n,(jD c s st).2⟩]}}
 | .adm who st=>{s with bM:=s.bM.set who {aF s who with queue:=(aF s who).queue.drop 1,out:=(aF s who).out++[⟨who,(aF s who).queue.getD 0 default,st⟩]},dD:=s.dD.set st {aL s st with pipe:=(aL s st).pipe++[⟨who,(aF s who).queue.getD 0 default,c.lat.getD st default⟩],last:=who}}
 | .ask who=>{s with bM:=s.bM.set who {aF s who with queue:=(aF s who).queue++[(aF s who).next],next:=(aF s who).next+1}}
def y0(s:CSt):Mic->List Ev
 | .tell who st=>[⟨3,who,(iF s st).n⟩]
 | .work st=>[⟨2,(bI s st).who,(bI s st).n⟩]
 | .ask who=>[⟨1,who,(aF s who).next⟩]
 |_=>[]
theorem fH(l:List Job):(jX l).Perm l:=by
 have h: ∀(l acc:List Job),(l.foldl BM acc).Perm (acc++l):=by
  intro l
  induction l with
  |nil=>intro acc;simp
  |cons x l a=>intro acc;simp only[List.foldl_cons];refine(a _).trans ?_;refine((nE acc x).append_right l).trans ?_;simpa using brR.symm
 simpa [jX] using h l []
theorem J9(a:(l.map key).Nodup):kW (jX l):=by
 have h: ∀(l acc:List Job),kW acc->((acc++l).map key).Nodup->kW (l.foldl BM acc):=by
  intro l
  induction l with
  |nil=>intro acc hs _;exact hs
  |cons x l b=>intro acc hs a;simp only[List.foldl_cons];have hp:(BM acc x++l).Perm (acc++x::l):=((nE acc x).append_right l).trans (by simpa using brR.symm);refine b _ (FW hs fun hm=> ?_) ((hp.map key).nodup_iff.2 a);rw[bqX,brG] at a;exact a.2.2 _ hm (key x) (by simp) rfl
 exact h l [] List.Pairwise.nil (by simpa using a)
theorem GN{a:List Job}(hs:kW a)(hp:l.Perm a):jX l=a:=SD (J9 ((hp.map key).nodup_iff.2 (zG hs))) hs fun x=>((fH l).trans hp).mem_iff
theorem aoD{β:Type}{n:Nat}(e:k<n): ∃a b:List Nat,List.range n=a++k::b/\ ∀f g:Nat->List β,(∀i,i≠k->f i=g i)->a.flatMap f=a.flatMap g/\b.flatMap f=b.flatMap g:=by
 obtain⟨a,b,h⟩:=List.append_of_mem (C2.2 e);have d:(List.range n).Nodup:=List.nodup_range;rw[h,brG] at d;obtain⟨m,j,l⟩:=d;refine⟨a,b,h,fun f g c=>⟨?_,?_⟩⟩;·simp only[List.flatMap_def];congr 1;exact brC fun i hi=>c i fun he=>l i hi k (by simp) he
 ·simp only[List.flatMap_def];congr 1;exact brC fun i hi=>c i fun he=>(bq8.1 j).1 (he▸hi)
theorem tE{β:Type}[DecidableEq β]{n:Nat}(d:k<n){f g:Nat->List β}(c: ∀i,i≠k->f i=g i)(z:β):((List.range n).flatMap f).count z+(g k).count z=((List.range n).flatMap g).count z+(f k).count z:=by obtain⟨a,b,e,h⟩:=aoD (β:=β) d;obtain⟨j,k9⟩:=h f g c;rw[e];simp only[List.flatMap_append,br4,brS];rw[j,k9];omega
theorem pY{α:Type}[Inhabited α]{l:List α}{i:Nat}{x:α}(a:k<l.length):(l.set k x).getD i default=if i=k then x else l.getD i default:=by
 simp only[List.getD,D0];by_cases h:k=i;·subst h;simp[a]
 ·simp[h,Ne.symm h,eq_comm]
structure mD(c:Cfg)(who:Nat)(p:fR):Prop where
 next:0<=p.next/\p.next<=(c.cP.getD who default).length
 ql:p.queue.length<=2/\(p.queue.length:Int)<=p.next
 ol:p.out.length<=4
 last:0<=p.last/\p.last<=3
 queue: ∀i,i<p.queue.length->p.queue.getD i default=p.next-p.queue.length+i
 out: ∀j∈p.out,j.who=who/\(0<=j.n/\j.n<p.next-p.queue.length)/\j.left=gZ c.map (bT c who j.n)
 acX:p.out.Pairwise fun a b=>a.n<b.n
 akF: ∀a∈p.out,∀b∈p.out,(bT c who a.n).id=(bT c who b.n).id->a.left=b.left
def cS(v:nY):List (Int×Int):=v.done.map key++v.pipe.map fun j=>(j.who,j.n)
structure Z0(c:Cfg)(s:CSt)(st:Nat):Prop where
 pl:(aL s st).pipe.length<=2
 dl:(aL s st).done.length<=2
 last:0<=(aL s st).last/\(aL s st).last<=2
 inc:(cS (aL s st)).Pairwise fun a b=>a.1=b.1->a.2<b.2
 out: ∀x∈cS (aL s st),(0<=x.1/\x.1<=2)/\ ∃j∈(aF s x.1.toNat).out,j.n=x.2/\j.left=st
 rsp: ∀j∈(aL s st).done,as5 c j
 left: ∀i,i<(aL s st).pipe.length->(0<=((aL s st).pipe.getD i default).left/\((aL s st).pipe.getD i default).left<=c.lat.getD st default)/\(0<i->((aL s st).pipe.getD i default).left=c.lat.getD st default)
def hU(s:CSt)(k:Nat):Nat:=(aL s k).pipe.length+(aL s k).done.length
structure COk(c:Cfg)(s:CSt):Prop where
 atm:WK s.words s.holds
 pl:s.bM.length=3
 sl:s.dD.length=4
 port: ∀k,k<3->mD c k (aF s k)
 slv: ∀k,k<4->Z0 c s k
 count:(aF s 0).out.length+(aF s 1).out.length+(aF s 2).out.length=hU s 0+hU s 1+hU s 2+hU s 3
 st:BA c (cX s)
theorem wU{s:CSt}:j∈qU s↔(∃k,k<s.bM.length/\ ∃m∈(aF s k).queue,j=⟨k,m,oW⟩)\/(∃st,st<s.dD.length/\ ∃x∈(aL s st).pipe,j=⟨x.who,x.n,oW⟩):=by
 unfold qU jJ hJ;simp only[o3,Y8,C2,CF];constructor
 ·rintro(⟨k,a,m,hm,rfl⟩|⟨st,hs,x,b,rfl⟩);·exact .inl ⟨k,a,m,hm,rfl⟩
  ·exact .inr ⟨st,hs,x,b,rfl⟩
 ·rintro(⟨k,a,m,hm,rfl⟩|⟨st,hs,x,b,rfl⟩);·exact .inl ⟨k,a,m,hm,rfl⟩
  ·exact .inr ⟨st,hs,x,b,rfl⟩
theorem BU{s:CSt}:j∈uQ s↔∃st,st<s.dD.length/\j∈(aL s st).done:=by unfold uQ;simp only[Y8,C2]
theorem mD.asks{who:Nat}{p:fR}(h:mD c who p)(hw:who<3){n:Int}(a:0<=n)(b:n<p.next):oA c who n:=by have:=h.next;refine⟨by omega,a,?_⟩;rw[Int.toNat_natCast];omega
theorem mD.qIn{who:Nat}{p:fR}(h:mD c who p){m:Int}(hm:m∈p.queue):p.next-p.queue.length<=m/\m<p.next:=by obtain⟨i,hi,rfl⟩:=bqY.1 hm;have:=h.queue i hi;simp only[List.getD,hi,n1,Option.getD_some] at this;omega
theorem COk.vIn{s:CSt}(h:COk c s){st:Nat}(hs:st<4){x:Int×Int}(a:x∈cS (aL s st)):(0<=x.1/\x.1<=2)/\0<=x.2/\x.2<(aF s x.1.toNat).next-(aF s x.1.toNat).queue.length:=by obtain⟨b,j,d,e,f⟩:=(h.slv st hs).out x a;have:=(h.port x.1.toNat (by omega)).out j d;exact⟨b,by omega,by omega⟩
theorem COk.same{s:CSt}(h:COk c s){st a:Nat}(hs:st<4)(d:a<4){x y:Int×Int}(e:x∈cS (aL s st))(f:y∈cS (aL s a))(he:x.1=y.1)(hi:(bT c x.1 x.2).id=(bT c y.1 y.2).id):st=a:=by
 obtain⟨m,j,g,i,n⟩:=(h.slv st hs).out x e;obtain⟨k9,k,b,l1,bOW⟩:=(h.slv a d).out y f;have hp:=h.port x.1.toNat (by omega);rw[<-he] at b
 have:=hp.akF j g k b (by
  have l:((x.1.toNat:Nat):Int)=x.1:=by omega
  rw[l,i,l1,hi,he])
 omega
theorem JB{v:nY}{x:fC}(h:x∈v.pipe):(x.who,x.n)∈cS v:=brH _ (CF.2 ⟨x,h,rfl⟩)
theorem M9{v:nY}{x:Job}(h:x∈v.done):key x∈cS v:=brA _ (brI h)
theorem gT{α:Type}[Inhabited α]{l:List α}(h:0<l.length):l=l.getD 0 default::l.drop 1:=by
 cases l with
 |nil=>simp at h
 |cons x l=>simp
theorem BF:j∈jX l↔j∈l:=(fH l).mem_iff
theorem R6{s:CSt}(a:k<s.bM.length):(cX s).asked.getD k default=(aF s k).next:=by simp[cX,aF,List.getD,a]
theorem XZ{s:CSt}(h:COk c s){m:Mic}(E:EH c s m): ∀e∈y0 s m,X6 c (cX s) e=0:=by
 intro e he;have J:=h.pl;have K:=h.sl
 cases m with
 |tick st=>simp[y0] at he
 |adm who st=>simp[y0] at he
 |ask who=>
  simp only[y0,CJ] at he;subst he;obtain⟨u,v,F⟩:=E;have hp:=h.port who u;have i:oA c (who:Int) (aF s who).next:=by refine⟨by omega,hp.next.1,?_⟩;rw[Int.toNat_natCast];omega
  unfold X6;dsimp only;rw[if_neg (by exact fun C=>C ⟨i,by omega,by omega⟩),if_pos rfl,if_neg];rw[Int.toNat_natCast,R6 (by omega)];simp
 |work st=>
  simp only[y0,CJ] at he;subst he;obtain⟨u,v,F,k9⟩:=E;have j:bI s st∈(aL s st).pipe:=cC v;have B:=JB j;obtain⟨z,p,q⟩:=h.vIn u B;dsimp only at z p q;have hp:=h.port (bI s st).who.toNat (by omega);have L:(((bI s st).who.toNat:Nat):Int)=(bI s st).who:=by omega
  have i:oA c (bI s st).who (bI s st).n:=by have:=hp.asks (n:=(bI s st).n) (by omega) p (by have:=hp.ql;omega);rwa [L] at this
  have A: ¬bK (iM (bI s st).who (bI s st).n) (cX s).wait<0:=by have:0<=bK (iM (bI s st).who (bI s st).n) (cX s).wait:=ZP.2 (CF.2 ⟨⟨(bI s st).who,(bI s st).n,oW⟩,BF.2 (wU.2 (.inr ⟨st,by omega,bI s st,j,rfl⟩)),rfl⟩);omega
  unfold X6;dsimp only;rw[if_neg (by exact fun C=>C ⟨i,by omega,by omega⟩),if_neg (by omega),if_pos rfl,if_neg A,if_neg];rw[cH];rintro⟨x,D,r⟩;obtain⟨⟨a,d⟩,b⟩:=of_decide_eq_true r;dsimp only at a d b;rcases wU.1 (BF.1 D) with⟨k,G,m,hm,rfl⟩|⟨g,w,y,o,rfl⟩
  ·dsimp only at a d b;have M:=(h.port k (by omega)).qIn hm;have:(bI s st).who.toNat=k:=(by omega);rw[this] at q;omega
  ·dsimp only at a d b;have t:=h.same (by omega) u (JB o) B a b;subst t;have f:=(brM.1 (h.slv g u).inc).2.1;rw[gT v,n3,G0] at f;rw[gT v] at o;rcases t3.1 o with rfl|o;·unfold bI at d;omega
   ·have:=f.1 (y.who,y.n) (CF.2 ⟨y,o,rfl⟩);dsimp only at this;unfold bI at a d;have:=this a.symm;omega
 |tell who st=>
  simp only[y0,CJ] at he;subst he;obtain⟨H,u,v,F⟩:=E;have j:iF s st∈(aL s st).done:=cC v;have B:=M9 j;have l:(iF s st).who=who:=F;obtain⟨z,p,q⟩:=h.vIn u B;simp only[key] at z p q;rw[l,Int.toNat_natCast] at q;have hp:=h.port who H;have i:oA c (who:Int) (iF s st).n:=hp.asks H p (by have:=hp.ql;omega);have A: ¬bK (iM who (iF s st).n) (cX s).done<0:=by have:0<=bK (iM who (iF s st).n) (cX s).done:=ZP.2 (CF.2 ⟨iF s st,BF.2 (BU.2 ⟨st,by omega,j⟩),by simp[key,l]⟩);omega
  have f:=(h.slv st u).inc;unfold cS at f;rw[gT v,n3,List.cons_append,G0] at f;unfold X6;dsimp only;rw[if_neg (by exact fun C=>C ⟨i,by omega,by omega⟩),if_neg (by omega),if_neg (by omega),if_neg A,if_neg];rw[cH,cH];rintro(⟨x,D,r⟩|⟨x,D,r⟩)
  ·obtain⟨⟨a,d⟩,b⟩:=of_decide_eq_true r;dsimp only at a d b;rcases wU.1 (BF.1 D) with⟨k,G,m,hm,rfl⟩|⟨g,w,y,o,rfl⟩
   ·dsimp only at a d b;have M:=(h.port k (by omega)).qIn hm;have:who=k:=(by omega);subst this;omega
   ·dsimp only at a d b;have t:=h.same (by omega) u (JB o) B (by simp only[key];rw[l];exact a) (by simp only[key];rw[l];exact b);subst t;have:=f.1 (y.who,y.n) (brH _ (CF.2 ⟨y,o,rfl⟩));have:=this (by show (iF s g).who=y.who;rw[l,a]);have I:(key ((aL s g).done.getD 0 default)).2=(iF s g).n:=rfl;dsimp only at this;omega
  ·obtain⟨⟨a,d⟩,b⟩:=of_decide_eq_true r;dsimp only at a d b;obtain⟨g,w,o⟩:=BU.1 (BF.1 D);have t:=h.same (by omega) u (M9 o) B (by simp only[key];rw[l];exact a) (by simp only[key];rw[l];rw[a] at b;rw[a];exact b);subst t;rw[gT v] at o;rcases t3.1 o with rfl|o;·unfold iF at d;omega
   ·have:=f.1 (key x) (brA _ (brI o));have:=this (by show (iF s g).who=x.who;rw[l,a]);have I:(key ((aL s g).done.getD 0 default)).2=(iF s g).n:=rfl;simp only[key] at this I;omega
theorem TW(h:(l.map key).Nodup){a b:Job}(e:a∈l)(f:b∈l)(he:key a=key b):a=b:=by
 induction l with
 |nil=>simp at e
 |cons x l j=>
  rw[n3,bq8] at h;rcases t3.1 e with g|i
  ·rcases t3.1 f with c|d;·rw[g,c]
   ·exact absurd (CF.2 ⟨b,d,by rw[<-he,g]⟩) h.1
  ·rcases t3.1 f with c|d;·exact absurd (CF.2 ⟨a,i,by rw[he,c]⟩) h.1
   ·exact j h.2 i d
theorem bL{s s':CSt}{who:Nat}{p:fR}(h:s'.bM=s.bM.set who p)(hw:who<s.bM.length)(k:Nat):aF s' k=if k=who then p else aF s k:=by unfold aF;rw[h,pY hw]
theorem bO{s s':CSt}{st:Nat}{v:nY}(h:s'.dD=s.dD.set st v)(hw:st<s.dD.length)(k:Nat):aL s' k=if k=st then v else aL s k:=by unfold aL;rw[h,pY hw]
theorem af6{s:CSt}(E:aQ c)(h:COk c s){m:Mic}(B:EH c s m):cX (aR c s m)=runM c (cX s) (y0 s m):=by
 have L:=h.pl;have M:=h.sl;have t:=XZ h B
 cases m with
 |tick st=>
  obtain⟨D,v,C⟩:=B;have p:=fun k=>bO (s:=s) (s':=aR c s (.tick st)) rfl (by omega:st<s.dD.length) k;have boS: ∀k,aF (aR c s (.tick st)) k=aF s k:=fun k=>rfl
  have N: ∀k,hJ (aR c s (.tick st)) k=hJ s k:=fun k=>by
   unfold hJ;rw[p];split;·rename_i b;subst b;rw[gT v];simp[bI]
   ·rfl
  have F: ∀k,(aL (aR c s (.tick st)) k).done=(aL s k).done:=fun k=>by
   rw[p];split;·rename_i b;subst b;rfl
   ·rfl
  have hl:(aR c s (.tick st)).dD.length=s.dD.length:=by simp[aR]
  simp only[y0,runM,List.foldl_nil,cX,TSt.mk.injEq];refine⟨rfl,rfl,rfl,?_,?_,rfl⟩;·congr 1;unfold qU;rw[hl];simp only[List.flatMap_def];congr 2;exact brC fun k _=>N k
  ·congr 1;unfold uQ;rw[hl];simp only[List.flatMap_def];congr 1;exact brC fun k _=>F k
 |adm who st=>
  obtain⟨K,D,v,C⟩:=B;have p:=fun k=>bO (s:=s) (s':=aR c s (.adm who st)) rfl (by omega:st<s.dD.length) k;have boS:=fun k=>bL (s:=s) (s':=aR c s (.adm who st)) rfl (by omega:who<s.bM.length) k;have hl:(aR c s (.adm who st)).dD.length=s.dD.length:=by simp[aR]
  have u:(aR c s (.adm who st)).bM.length=s.bM.length:=by simp[aR]
  have F: ∀k,(aL (aR c s (.adm who st)) k).done=(aL s k).done:=fun k=>by
   rw[p];split;·rename_i b;subst b;rfl
   ·rfl
  simp only[y0,runM,List.foldl_nil,cX,TSt.mk.injEq];refine⟨rfl,rfl,?_,?_,?_,rfl⟩
  ·apply br2 (by simp[aR]);intro i d j;simp only[aR,bqW,Y5] at d;simp only[aR,bsD,List.getElem_set];split;·rename_i b;subst b;simp[aF,List.getD,d]
   ·rfl
  ·apply GN h.st.NR;refine List.Perm.trans ?_ (fH _).symm;rw[brV];intro z;have G:=tE (k:=who) (n:=s.bM.length) (by omega) (f:=jJ (aR c s (.adm who st))) (g:=jJ s) (fun i hi=>by unfold jJ;rw[boS,if_neg hi]) z;have w:=tE (k:=st) (n:=s.dD.length) (by omega) (f:=hJ (aR c s (.adm who st))) (g:=hJ s) (fun i hi=>by unfold hJ;rw[p,if_neg hi]) z;have H:jJ (aR c s (.adm who st)) who=((aF s who).queue.drop 1).map fun n=>⟨who,n,oW⟩:=by unfold jJ;rw[boS,if_pos rfl]
   have O:jJ s who=⟨who,(aF s who).queue.getD 0 default,oW⟩::((aF s who).queue.drop 1).map fun n=>⟨who,n,oW⟩:=by
    unfold jJ;conv=>lhs;rw[gT C.1]
    rfl
   have y:hJ (aR c s (.adm who st)) st=hJ s st++[⟨who,(aF s who).queue.getD 0 default,oW⟩]:=(by unfold hJ;rw[p,if_pos rfl];simp);rw[H,O] at G;rw[y] at w;unfold qU;rw[hl,u];simp only[brS,brW,List.count_nil] at*;omega
  ·congr 1;unfold uQ;rw[hl];simp only[List.flatMap_def];congr 1;exact brC fun k _=>F k
 |ask who=>
  obtain⟨K,D,v⟩:=B;have boS:=fun k=>bL (s:=s) (s':=aR c s (.ask who)) rfl (by omega:who<s.bM.length) k;have u:(aR c s (.ask who)).bM.length=s.bM.length:=by simp[aR]
  have r:=G9 E h.st (t ⟨1,who,(aF s who).next⟩ (CJ.2 rfl));have boU:lS c (cX s) ⟨1,who,(aF s who).next⟩= {cX s with asked:=(cX s).asked.set who ((aF s who).next+1),wait:=BM (cX s).wait ⟨who,(aF s who).next,oW⟩}:=by simp[lS]
  have l:=r.NR;rw[boU] at l;simp only[y0];rw[wW,boU];simp only[runM,List.foldl_nil,cX,TSt.mk.injEq];refine⟨rfl,rfl,?_,?_,rfl,rfl⟩;·simp[aR,brD]
  ·apply GN l;refine List.Perm.trans ?_ ((nE _ _).trans ((fH _).cons _)).symm;rw[brV];intro z;have G:=tE (k:=who) (n:=s.bM.length) (by omega) (f:=jJ (aR c s (.ask who))) (g:=jJ s) (fun i hi=>by unfold jJ;rw[boS,if_neg hi]) z;have H:jJ (aR c s (.ask who)) who=jJ s who++[⟨who,(aF s who).next,oW⟩]:=(by unfold jJ;rw[boS,if_pos rfl];simp);have bOZ:(List.range (aR c s (.ask who)).dD.length).flatMap (hJ (aR c s (.ask who)))=(List.range s.dD.length).flatMap (hJ s):=rfl;rw[H] at G;unfold qU;rw[u,bOZ];simp only[brS,brW,List.count_nil] at*;omega
 |work st=>
  obtain⟨D,v,C,k9⟩:=B;have p:=fun k=>bO (s:=s) (s':=aR c s (.work st)) rfl (by omega:st<s.dD.length) k;have hl:(aR c s (.work st)).dD.length=s.dD.length:=by simp[aR]
  have hw:=t ⟨2,(bI s st).who,(bI s st).n⟩ (CJ.2 rfl);have r:=G9 E h.st hw;have I:=(M8 hw).2
  have A: ¬bK (iM (bI s st).who (bI s st).n) (cX s).wait<0:=by
   rcases I with⟨b,_⟩|⟨b,hi⟩|⟨b,_⟩
   ·exact absurd b (by dsimp only;decide)
   ·exact hi
   ·exact absurd b (by dsimp only;decide)
  obtain⟨d,j⟩:=pW A;have boU:lS c (cX s) ⟨2,(bI s st).who,(bI s st).n⟩= {cX s with words:=(jD c s st).1.1,holds:=(jD c s st).1.2,wait:=MT (cX s).wait (bK (iM (bI s st).who (bI s st).n) (cX s).wait).toNat,done:=BM (cX s).done ⟨(bI s st).who,(bI s st).n,(jD c s st).2⟩}:=by simp only[lS,jD,cX,if_true,if_false,Int.reduceEq]
  have l:=r.NR;have o:=r.NW;rw[boU] at l o;simp only[y0];rw[wW,boU];simp only[runM,List.foldl_nil];have q:(cX s).wait.getD (bK (iM (bI s st).who (bI s st).n) (cX s).wait).toNat default=⟨(bI s st).who,(bI s st).n,oW⟩:=by have hm:=cC d;have hr:=h.st.P4 _ hm;generalize (cX s).wait.getD (bK (iM (bI s st).who (bI s st).n) (cX s).wait).toNat default=x at j hr;obtain⟨Q,bpZ,aYM⟩:=x;simp only[key,Prod.mk.injEq] at j;dsimp only at hr;rw[j.1,j.2,hr]
  have e:=A4 d;rw[q] at e
  have aYL:jX (qU (aR c s (.work st)))=MT (cX s).wait (bK (iM (bI s st).who (bI s st).n) (cX s).wait).toNat:=by
   apply GN l;refine List.Perm.cons_inv (a:=⟨(bI s st).who,(bI s st).n,oW⟩) ?_;refine List.Perm.trans ?_ ((fH _).symm.trans e);rw[brV];intro z;have w:=tE (k:=st) (n:=s.dD.length) (by omega) (f:=hJ (aR c s (.work st))) (g:=hJ s) (fun i hi=>by unfold hJ;rw[p,if_neg hi]) z
   have y:hJ s st=⟨(bI s st).who,(bI s st).n,oW⟩::hJ (aR c s (.work st)) st:=by
    unfold hJ;rw[p,if_pos rfl];conv=>lhs;rw[gT v]
    rfl
   have bOZ:(List.range (aR c s (.work st)).bM.length).flatMap (jJ (aR c s (.work st)))=(List.range s.bM.length).flatMap (jJ s):=rfl;rw[y] at w;unfold qU;rw[hl,bOZ];simp only[brS,brW,List.count_nil] at*;omega
  have bqA:jX (uQ (aR c s (.work st)))=BM (cX s).done ⟨(bI s st).who,(bI s st).n,(jD c s st).2⟩:=by apply GN o;refine List.Perm.trans ?_ ((nE _ _).trans ((fH _).cons _)).symm;rw[brV];intro z;have w:=tE (k:=st) (n:=s.dD.length) (by omega) (f:=fun k=>(aL (aR c s (.work st)) k).done) (g:=fun k=>(aL s k).done) (fun i hi=>by rw[p,if_neg hi]) z;have y:(aL (aR c s (.work st)) st).done=(aL s st).done++[⟨(bI s st).who,(bI s st).n,(jD c s st).2⟩]:=(by rw[p,if_pos rfl]);rw[y] at w;unfold uQ;rw[hl];simp only[brS,brW,List.count_nil] at*;omega
  show TSt.mk _ _ _ (jX (qU (aR c s (.work st)))) (jX (uQ (aR c s (.work st)))) _=_;rw[aYL,bqA];rfl
 |tell who st=>
  obtain⟨K,D,v,C⟩:=B;have J:(iF s st).who=who:=C;have p:=fun k=>bO (s:=s) (s':=aR c s (.tell who st)) rfl (by omega:st<s.dD.length) k;have boS:=fun k=>bL (s:=s) (s':=aR c s (.tell who st)) rfl (by omega:who<s.bM.length) k;have hl:(aR c s (.tell who st)).dD.length=s.dD.length:=by simp[aR]
  have u:(aR c s (.tell who st)).bM.length=s.bM.length:=by simp[aR]
  have hw:=t ⟨3,who,(iF s st).n⟩ (CJ.2 rfl);have r:=G9 E h.st hw;have I:=(M8 hw).2
  have A: ¬bK (iM who (iF s st).n) (cX s).done<0:=by
   rcases I with⟨b,_⟩|⟨b,hi⟩|⟨b,hi⟩
   ·exact absurd b (by dsimp only;decide)
   ·exact absurd b (by dsimp only;decide)
   ·exact hi
  obtain⟨d,j⟩:=pW A;have boU:lS c (cX s) ⟨3,who,(iF s st).n⟩= {cX s with told:=(cX s).told++[(cX s).done.getD (bK (iM who (iF s st).n) (cX s).done).toNat default],done:=MT (cX s).done (bK (iM who (iF s st).n) (cX s).done).toNat}:=by simp only[lS,if_false,Int.reduceEq]
  have o:=r.NW;rw[boU] at o;simp only[y0];rw[wW,boU];simp only[runM,List.foldl_nil];have q:(cX s).done.getD (bK (iM who (iF s st).n) (cX s).done).toNat default=iF s st:=by refine TW (zG h.st.NW) (cC d) (BF.2 (BU.2 ⟨st,by omega,cC v⟩)) ?_;rw[j];simp[key,J]
  have e:=A4 d;rw[q] at e
  have aYL:jX (qU (aR c s (.tell who st)))=(cX s).wait:=by
   show jX _=jX _;congr 1;unfold qU;rw[hl,u];simp only[List.flatMap_def];congr 2
   ·exact brC fun k _=>by
     unfold jJ;rw[boS];split;·rename_i b;subst b;rfl
     ·rfl
   ·exact brC fun k _=>by
     unfold hJ;rw[p];split;·rename_i b;subst b;rfl
     ·rfl
  have bqA:jX (uQ (aR c s (.tell who st)))=MT (cX s).done (bK (iM who (iF s st).n) (cX s).done).toNat:=by apply GN o;apply List.Perm.cons_inv (a:=iF s st);refine List.Perm.trans ?_ ((fH _).symm.trans e);rw[brV];intro z;have w:=tE (k:=st) (n:=s.dD.length) (by omega) (f:=fun k=>(aL (aR c s (.tell who st)) k).done) (g:=fun k=>(aL s k).done) (fun i hi=>by rw[p,if_neg hi]) z;have y:(aL s st).done=iF s st::(aL (aR c s (.tell who st)) st).done:=(by rw[p,if_pos rfl];exact gT v);rw[y] at w;unfold uQ;rw[hl];simp only[brS,brW,List.count_nil] at*;omega
  have P:(aR c s (.tell who st)).bM.map (·.next)=s.bM.map (·.next):=by
   apply br2 (by simp[aR]);intro i d j;simp only[aR,bqW,Y5] at d;simp only[aR,bsD,List.getElem_set];split;·rename_i b;subst b;simp[aF,List.getD,d]
   ·rfl
  show TSt.mk _ _ ((aR c s (.tell who st)).bM.map (·.next)) (jX (qU (aR c s (.tell who st)))) (jX (uQ (aR c s (.tell who st)))) (s.told++[iF s st])=_;rw[aYL,bqA,P,q];rfl
end Go.AM
namespace Go.AM
open Go.RowKit
end Go.AM
