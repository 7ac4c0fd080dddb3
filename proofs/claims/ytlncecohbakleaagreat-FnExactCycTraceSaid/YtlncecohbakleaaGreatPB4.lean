/- Texts laid together by a program: rules, contracts and the walk that leads to the law. -/
import Derived.Test.YtlncecohbakleaaGreatPB3
import Derived.OpenShut
set_option linter.unusedVariables false
set_option linter.unusedSimpArgs false
set_option linter.unusedSectionVars false
set_option maxRecDepth 100000
set_option maxHeartbeats 8000000
namespace Go.AM
structure Rng where
 lo:Int
 hi:Int
 ZU:Int
 only:Bool
 deriving Inhabited,DecidableEq
structure Req where
 id:Int
 kind:Int
 addr:Int
 many:Int
 wrap:Bool
 data:List Int
 lanes:List Int
 deriving Inhabited,DecidableEq
structure Rsp where
 id:Int
 code:Int
 data:List Int
 deriving Inhabited,DecidableEq
structure Job where
 who:Int
 n:Int
 rsp:Rsp
 deriving Inhabited,DecidableEq
structure Ev where
 kind:Int
 who:Int
 n:Int
 deriving Inhabited,DecidableEq
structure Cfg where
 map:List Rng
 lat:List Int
 b7:List (List Req)
 deriving Inhabited,DecidableEq
theorem bG(x:Int):(aG x).length=1/\(aG x).all D1.fV=true:=⟨rfl,rfl⟩
def c7(r:Rng):List D1:=[cI r.lo,cI r.hi,cI r.ZU,cB r.only]
variable{r:Rng}
theorem Xk:(c7 r).length=4:=rfl
theorem Lh:(c7 r).take 1=[cI r.lo]:=rfl
theorem Lr:(c7 r).drop 1=[cI r.hi,cI r.ZU,cB r.only]:=rfl
theorem Pb:(c7 r).take 2=[cI r.lo,cI r.hi]:=rfl
theorem Oo:(c7 r).drop 2=[cI r.ZU,cB r.only]:=rfl
theorem Nu:(c7 r).take 3=[cI r.lo,cI r.hi,cI r.ZU]:=rfl
theorem Oj:(c7 r).drop 3=[cB r.only]:=rfl
theorem Mw:(c7 r).take 4=c7 r:=rfl
theorem Mj:(c7 r).drop 4=[]:=rfl
variable{cs:List D1}{k:Nat}
theorem Sk:kK cs (k+1) (c7 r)=kK cs (k+1) [cI r.lo,cI r.hi,cI r.ZU,cB r.only]:=rfl
attribute [go_sem] Xk Lh Lr Pb Oo Nu Oj Mw Mj Sk
def dK(q:Req):List D1:=[cI q.id,cI q.kind,cI q.addr,cI q.many,cB q.wrap,.isl (q.data.map aG),.isl (q.lanes.map aG)]
variable{q:Req}
theorem aa0:(dK q).length=7:=rfl
theorem My:(dK q).take 1=[cI q.id]:=rfl
theorem Oq:(dK q).drop 1=[cI q.kind,cI q.addr,cI q.many,cB q.wrap,.isl (q.data.map aG),.isl (q.lanes.map aG)]:=rfl
theorem On:(dK q).take 2=[cI q.id,cI q.kind]:=rfl
theorem Mv:(dK q).drop 2=[cI q.addr,cI q.many,cB q.wrap,.isl (q.data.map aG),.isl (q.lanes.map aG)]:=rfl
theorem Ob:(dK q).take 3=[cI q.id,cI q.kind,cI q.addr]:=rfl
theorem Mh:(dK q).drop 3=[cI q.many,cB q.wrap,.isl (q.data.map aG),.isl (q.lanes.map aG)]:=rfl
theorem Kw:(dK q).take 4=[cI q.id,cI q.kind,cI q.addr,cI q.many]:=rfl
theorem Na:(dK q).drop 4=[cB q.wrap,.isl (q.data.map aG),.isl (q.lanes.map aG)]:=rfl
theorem Ng:(dK q).take 5=[cI q.id,cI q.kind,cI q.addr,cI q.many,cB q.wrap]:=rfl
theorem Oc:(dK q).drop 5=[.isl (q.data.map aG),.isl (q.lanes.map aG)]:=rfl
theorem Ki:(dK q).take 6=[cI q.id,cI q.kind,cI q.addr,cI q.many,cB q.wrap,.isl (q.data.map aG)]:=rfl
theorem Me:(dK q).drop 6=[.isl (q.lanes.map aG)]:=rfl
theorem Mx:(dK q).take 7=dK q:=rfl
theorem Nh:(dK q).drop 7=[]:=rfl
theorem Vf:kK cs (k+1) (dK q)=kK cs (k+1) [cI q.id,cI q.kind,cI q.addr,cI q.many,cB q.wrap,.isl (q.data.map aG),.isl (q.lanes.map aG)]:=rfl
attribute [go_sem] aa0 My Oq On Mv Ob Mh Kw Na Ng Oc Ki Me Mx Nh Vf
def nS(r:Rsp):List D1:=[cI r.id,cI r.code,.isl (r.data.map aG)]
theorem abE{r:Rsp}:(nS r).length=3:=rfl
theorem Nc{r:Rsp}:(nS r).take 1=[cI r.id]:=rfl
theorem Kc{r:Rsp}:(nS r).drop 1=[cI r.code,.isl (r.data.map aG)]:=rfl
theorem Ln{r:Rsp}:(nS r).take 2=[cI r.id,cI r.code]:=rfl
theorem Pa{r:Rsp}:(nS r).drop 2=[.isl (r.data.map aG)]:=rfl
theorem Ky{r:Rsp}:(nS r).take 3=nS r:=rfl
theorem Og{r:Rsp}:(nS r).drop 3=[]:=rfl
theorem Tx{r:Rsp}:kK cs (k+1) (nS r)=kK cs (k+1) [cI r.id,cI r.code,.isl (r.data.map aG)]:=rfl
attribute [go_sem] abE Nc Kc Ln Pa Ky Og Tx
def aP(j:Job):List D1:=[cI j.who,cI j.n,cI j.rsp.id,cI j.rsp.code,.isl (j.rsp.data.map aG)]
variable{j:Job}
theorem Xg:(aP j).length=5:=rfl
theorem Mg:(aP j).take 1=[cI j.who]:=rfl
theorem Lt:(aP j).drop 1=[cI j.n,cI j.rsp.id,cI j.rsp.code,.isl (j.rsp.data.map aG)]:=rfl
theorem Ou:(aP j).take 2=[cI j.who,cI j.n]:=rfl
theorem Lw:(aP j).drop 2=[cI j.rsp.id,cI j.rsp.code,.isl (j.rsp.data.map aG)]:=rfl
theorem Nv:(aP j).take 3=[cI j.who,cI j.n,cI j.rsp.id]:=rfl
theorem Lz:(aP j).drop 3=[cI j.rsp.code,.isl (j.rsp.data.map aG)]:=rfl
theorem Mo:(aP j).take 4=[cI j.who,cI j.n,cI j.rsp.id,cI j.rsp.code]:=rfl
theorem Ox:(aP j).drop 4=[.isl (j.rsp.data.map aG)]:=rfl
theorem Lb:(aP j).take 5=aP j:=rfl
theorem Ok:(aP j).drop 5=[]:=rfl
theorem Tu:kK cs (k+1) (aP j)=kK cs (k+1) [cI j.who,cI j.n,cI j.rsp.id,cI j.rsp.code,.isl (j.rsp.data.map aG)]:=rfl
theorem dE(j:Job):(aP j).length=5/\(aP j).all D1.fV=true:=⟨rfl,rfl⟩
attribute [go_sem] Xg Mg Lt Ou Lw Nv Lz Mo Ox Lb Ok Tu
def eEv(v:Ev):List D1:=[cI v.kind,cI v.who,cI v.n]
variable{v:Ev}
theorem ad3:(eEv v).length=3:=rfl
theorem Tm:(eEv v).take 1=[cI v.kind]:=rfl
theorem Up:(eEv v).drop 1=[cI v.who,cI v.n]:=rfl
theorem Vo:(eEv v).take 2=[cI v.kind,cI v.who]:=rfl
theorem Ta:(eEv v).drop 2=[cI v.n]:=rfl
theorem Se:(eEv v).take 3=eEv v:=rfl
theorem Sh:(eEv v).drop 3=[]:=rfl
theorem Xa:kK cs (k+1) (eEv v)=kK cs (k+1) [cI v.kind,cI v.who,cI v.n]:=rfl
theorem Ms(v:Ev):(eEv v).length=3/\(eEv v).all D1.fV=true:=⟨rfl,rfl⟩
attribute [go_sem] ad3 Tm Up Vo Ta Se Sh Xa
abbrev Prog:=List Req
def mW(p:Prog):List D1:=[.isl (p.map dK)]
theorem Sp{p:Prog}:(mW p).length=1:=rfl
theorem Gt{p:Prog}:(mW p).take 1=[.isl (p.map dK)]:=rfl
theorem Hb{p:Prog}:(mW p).drop 1=[]:=rfl
theorem Ll{p:Prog}:kK cs (k+1) (mW p)=kK cs (k+1) [.isl (p.map dK)]:=rfl
attribute [go_sem] Sp Gt Hb Ll
def cD(c:Cfg):List D1:=[.isl (c.map.map c7),.isl (c.lat.map aG),.isl (c.b7.map mW)]
variable{c:Cfg}
theorem Zy:(cD c).length=3:=rfl
theorem Nr:(cD c).take 1=[.isl (c.map.map c7)]:=rfl
theorem Ny:(cD c).drop 1=[.isl (c.lat.map aG),.isl (c.b7.map mW)]:=rfl
theorem Kf:(cD c).take 2=[.isl (c.map.map c7),.isl (c.lat.map aG)]:=rfl
theorem Oy:(cD c).drop 2=[.isl (c.b7.map mW)]:=rfl
theorem Mt:(cD c).take 3=cD c:=rfl
theorem Nq:(cD c).drop 3=[]:=rfl
theorem Uy:kK cs (k+1) (cD c)=kK cs (k+1) [.isl (c.map.map c7),.isl (c.lat.map aG),.isl (c.b7.map mW)]:=rfl
attribute [go_sem] Zy Nr Ny Kf Oy Mt Nq Uy
def t9(addr many:Int)(wrap:Bool):Prop:=(many=1\/many=2\/many=4)/\(0<=addr/\addr<=63)/\(wrap=true\/addr+many-1<=63)
instance {addr many:Int} {wrap:Bool}:Decidable (t9 addr many wrap):=by unfold t9;infer_instance
def inR(r:Rng)(a:Int):Bool:=decide (r.lo<=a/\a<=r.hi)
def bR{α:Type}(p:α->Bool)(l:List α):Int:=match l.findIdx? p with
 |some k=>k
 |none=>-1
theorem F8{α:Type}[Inhabited α]{p:α->Bool}{l:List α}(b:k<l.length)(h:p (l.getD k default)=true)(hinv: ∀i,i<k->p (l.getD i default)=false):bR p l=k:=by
 have:l.findIdx? p=some k:=by
  rw[amO];refine⟨b,by simpa [List.getD,b] using h,fun j c=> ?_⟩;have:=hinv j c;have a:j<l.length:=by omega
  simpa [List.getD,a] using this
 simp[bR,this]
theorem s8{α:Type}[Inhabited α]{p:α->Bool}{l:List α}(hinv: ∀i,i<l.length->p (l.getD i default)=false):bR p l= -1:=by
 have:l.findIdx? p=none:=by rw[anW];intro x a;obtain⟨i,hi,rfl⟩:=akX.1 a;have:=hinv i hi;simpa [List.getD,hi] using this
 simp[bR,this]
theorem ZY{α:Type}{p:α->Bool}{l:List α}:bR p l<l.length:=by
 unfold bR;split;·rename_i k h;have:=(amO.1 h).1;omega
 ·omega
theorem ab9{α:Type}{p:α->Bool}{l:List α}: -1<=bR p l:=by unfold bR;split<;>omega
theorem bT{P:Nat->Prop}(h: ∀i,i<k->P i)(a:P k): ∀i,i<k+1->P i:=fun i hi=>by
 rcases anF.1 hi with hi|rfl;·exact h i hi
 ·exact a
def eD(l:List Rng)(all:List Int):Int:=if all.length=0 then-1 else if all.all (fun a=>decide (bR (inR · a) l=bR (inR · (all.getD 0 default)) l)) then bR (inR · (all.getD 0 default)) l else-1
variable{all:List Int}
theorem sq{l:List Rng}(h:all.length=0):eD l all= -1:=by simp[eD,h]
theorem YN{l:List Rng}(h: ¬all.length=0)(hinv: ∀i,i<all.length->1<=i->bR (inR · (all.getD i default)) l=bR (inR · (all.getD 0 default)) l):eD l all=bR (inR · (all.getD 0 default)) l:=by
 unfold eD;rw[if_neg h,if_pos];rw[akR];intro a b;obtain⟨i,hi,rfl⟩:=akX.1 b;rcases alV i with rfl|hp;·simp[List.getD,hi]
 ·have:=hinv i hi hp;simp only[List.getD,hi,akD,Option.getD_some] at this;exact decide_eq_true this
theorem TC{l:List Rng}{i:Nat}(h:i<all.length)(b: ¬bR (inR · (all.getD i default)) l=bR (inR · (all.getD 0 default)) l):eD l all= -1:=by unfold eD;rw[if_neg (by omega),if_neg];rw[akR];intro a;have:=a (all.getD i default) (by simp[List.getD,h]);exact b (of_decide_eq_true this)
def wrM(q:Req):Bool:=decide (q.kind=2\/q.kind=4)
def bAt(addr many:Int)(wrap:Bool)(k:Nat):Int:=if wrap then addr-addr%many+(addr+k)%many else addr+k
def bN(addr many:Int)(wrap:Bool):List Int:=if t9 addr many wrap then (List.range many.toNat).map (bAt addr many wrap) else []
variable{addr many:Int}{wrap:Bool}
theorem lv(h:t9 addr many wrap): ¬many=0/\0<many/\many<=4/\0<=addr/\addr<=63/\addr.tmod many=addr%many/\0<=addr%many/\addr%many<=addr:=by obtain⟨a,b,c⟩:=h;rw[alQ (by omega)];rcases a with rfl|rfl|rfl<;>omega
theorem Dm(h:t9 addr many wrap)(k:Nat)(b:k<many.toNat):0<=(addr-(addr-addr%many)+k).tmod many/\(addr-(addr-addr%many)+k).tmod many<4/\addr-addr%many+(addr-(addr-addr%many)+k).tmod many=addr-addr%many+(addr+k)%many:=by obtain⟨a,c,d⟩:=h;rw[alQ (by rcases a with rfl|rfl|rfl<;>omega)];rcases a with rfl|rfl|rfl<;>omega
variable{x:Int}
theorem wb(h:x=bAt addr many wrap k):(List.range (k+1)).map (bAt addr many wrap)=(List.range k).map (bAt addr many wrap)++[x]:=by rw[amZ,akQ,h];rfl
theorem ag7(h:t9 addr many wrap)(c:k<many.toNat):0<=bAt addr many wrap k/\bAt addr many wrap k<=63:=by
 obtain⟨a,d,b⟩:=h;unfold bAt;split;·rcases a with rfl|rfl|rfl<;>omega
 ·rename_i hw;simp[hw] at b;omega
theorem Cl: ∀a∈bN addr many wrap,0<=a/\a<=63:=by
 intro a b;unfold bN at b;split at b;·rename_i h;obtain⟨k,c,rfl⟩:=akJ.1 b;exact ag7 h (alP.1 c)
 ·simp at b
theorem BJ(h:t9 addr many wrap):(bN addr many wrap).length=many.toNat:=by simp[bN,h]
theorem G4:(bN addr many wrap).length<=4:=by
 unfold bN;split;·rename_i h;obtain⟨a,_⟩:=h;simp;rcases a with rfl|rfl|rfl<;>omega
 ·simp
theorem eA{α:Type}{p:α->Bool}{l:List α}:0<=bR p l↔∃x∈l,p x=true:=by
 unfold bR;split;·rename_i k h;obtain⟨a,b,_⟩:=amO.1 h;exact⟨fun _=>⟨_,amN a,b⟩,fun _=>by omega⟩
 ·rename_i h;rw[anW] at h;exact⟨fun h=>by omega,fun⟨x,c,hp⟩=>by rw[h x c] at hp;cases hp⟩
structure TSt where
 words:List Int
 holds:List Int
 asked:List Int
 wait:List Job
 done:List Job
 told:List Job
 deriving Inhabited,DecidableEq
def eSt(s:TSt):List D1:=[.isl (s.words.map aG),.isl (s.holds.map aG),.isl (s.asked.map aG),.isl (s.wait.map aP),.isl (s.done.map aP),.isl (s.told.map aP)]
variable{s:TSt}
theorem ac4:(eSt s).length=6:=rfl
theorem Rd:(eSt s).take 1=[.isl (s.words.map aG)]:=rfl
theorem Tc:(eSt s).drop 1=[.isl (s.holds.map aG),.isl (s.asked.map aG),.isl (s.wait.map aP),.isl (s.done.map aP),.isl (s.told.map aP)]:=rfl
theorem Tl:(eSt s).take 2=[.isl (s.words.map aG),.isl (s.holds.map aG)]:=rfl
theorem Rp:(eSt s).drop 2=[.isl (s.asked.map aG),.isl (s.wait.map aP),.isl (s.done.map aP),.isl (s.told.map aP)]:=rfl
theorem Vg:(eSt s).take 3=[.isl (s.words.map aG),.isl (s.holds.map aG),.isl (s.asked.map aG)]:=rfl
theorem Sg:(eSt s).drop 3=[.isl (s.wait.map aP),.isl (s.done.map aP),.isl (s.told.map aP)]:=rfl
theorem Va:(eSt s).take 4=[.isl (s.words.map aG),.isl (s.holds.map aG),.isl (s.asked.map aG),.isl (s.wait.map aP)]:=rfl
theorem To:(eSt s).drop 4=[.isl (s.done.map aP),.isl (s.told.map aP)]:=rfl
theorem Sj:(eSt s).take 5=[.isl (s.words.map aG),.isl (s.holds.map aG),.isl (s.asked.map aG),.isl (s.wait.map aP),.isl (s.done.map aP)]:=rfl
theorem Uv:(eSt s).drop 5=[.isl (s.told.map aP)]:=rfl
theorem Sw:(eSt s).take 6=eSt s:=rfl
theorem Ue:(eSt s).drop 6=[]:=rfl
theorem Yb:kK cs (k+1) (eSt s)=kK cs (k+1) [.isl (s.words.map aG),.isl (s.holds.map aG),.isl (s.asked.map aG),.isl (s.wait.map aP),.isl (s.done.map aP),.isl (s.told.map aP)]:=rfl
attribute [go_sem] ac4 Rd Tc Tl Rp Vg Sg Va To Sj Uv Sw Ue Yb
def All(l:List Int)(lo up:Int):Prop:=∀x∈l,lo<=x/\x<=up
instance {l:List Int} {lo up:Int}:Decidable (All l lo up):=by unfold All;infer_instance
theorem aw{l:List Int}{lo up:Int}:All l lo up↔¬0<=bR (fun x=>decide (¬(lo<=x/\x<=up))) l:=by
 rw[eA];unfold All;refine⟨fun h ⟨x,a,hp⟩=>of_decide_eq_true hp (h x a),fun h x a=> ?_⟩;by_cases hc:lo<=x/\x<=up;·exact hc
 ·exact absurd ⟨x,a,decide_eq_true hc⟩ h
def HH(q:Req):Int:=if q.kind=2\/q.kind=4 then q.many else 0
def fZ(q:Req):Prop:=(0<=q.id/\q.id<=1)/\(1<=q.kind/\q.kind<=4)/\t9 q.addr q.many q.wrap/\(q.data.length:Int)=HH q/\(q.lanes.length:Int)=HH q/\All q.data 0 65535/\All q.lanes 0 3/\(q.kind=1\/q.kind=2\/q.many=1)
instance {q:Req}:Decidable (fZ q):=by unfold fZ;infer_instance
def Cb(q r:Rng):Bool:=decide (q.lo<=r.hi/\r.lo<=q.hi)
def HD(r:Rng):Prop:=(0<=r.lo/\r.lo<=63)/\(r.lo<=r.hi/\r.hi<=63)/\(0<=r.ZU/\r.ZU<=2)
instance {r:Rng}:Decidable (HD r):=by unfold HD;infer_instance
def vj(l:List Rng)(i:Nat):Prop:=HD (l.getD i default)/\ ¬0<=bR (fun q=>Cb q (l.getD i default)) (l.take i)
instance {l:List Rng} {i:Nat}:Decidable (vj l i):=by unfold vj;infer_instance
def B1(l:List Rng):Prop:=(l.length:Int)<=4/\ ∀i,i<l.length->vj l i
instance {l:List Rng}:Decidable (B1 l):=by unfold B1;infer_instance
def vA(p:List Req):Prop:=(p.length:Int)<=12/\ ¬0<=bR (fun q=>decide (¬fZ q)) p
instance {p:List Req}:Decidable (vA p):=by unfold vA;infer_instance
def bI(c:Cfg):Prop:=B1 c.map/\(c.lat.length:Int)=4/\All c.lat 0 3/\(c.b7.length:Int)=3/\ ¬0<=bR (fun p=>decide (¬vA p)) c.b7
instance {c:Cfg}:Decidable (bI c):=by unfold bI;infer_instance
def rH(w h:List Int):Prop:=((w.length:Int)=64/\All w 0 65535)/\(h.length:Int)=6/\All h (-1) 63
instance {w h:List Int}:Decidable (rH w h):=by unfold rH;infer_instance
structure OJ(c:Cfg):Prop where
 map:c.map.length<2^40
 lat:c.lat.length<2^40
 b7:c.b7.length<2^40
 prog: ∀p∈c.b7,p.length<2^40
 req: ∀p∈c.b7,∀q∈p,q.data.length<2^40/\q.lanes.length<2^40
def bO(c:Cfg)(who n:Int):Req:=(c.b7.getD who.toNat default).getD n.toNat default
def rI(c:Cfg)(who n:Int):Prop:=(0<=who/\who<=2)/\0<=n/\n<=(c.b7.getD who.toNat default).length-1
instance {c:Cfg} {who n:Int}:Decidable (rI c who n):=by unfold rI;infer_instance
def iI(who n:Int)(j:Job):Bool:=decide (j.who=who/\j.n=n)
def Mm(c:Cfg)(e:Ev)(j:Job):Bool:=decide ((j.who=e.who/\j.n<e.n)/\(bO c j.who j.n).id=(bO c e.who e.n).id)
theorem OJ.at(h:OJ c)(k:Nat):(c.b7.getD k default).length<2^40:=by
 by_cases a:k<c.b7.length;·exact h.prog _ (by simp[List.getD,a])
 ·have:c.b7.getD k default=[]:=by simp[List.getD,a];rfl
  rw[this];decide
def Fg(c:Cfg)(s:TSt)(e:Ev):Int:=
 if ¬(rI c e.who e.n/\1<=e.kind/\e.kind<=3) then 1 else
 if e.kind=1 then (if ¬e.n=s.asked.getD e.who.toNat default then 2 else 0) else
 if e.kind=2 then (if bR (iI e.who e.n) s.wait<0 then 3 else if 0<=bR (Mm c e) s.wait then 4 else 0) else
 if bR (iI e.who e.n) s.done<0 then 5 else if 0<=bR (Mm c e) s.wait\/0<=bR (Mm c e) s.done then 6 else 0
structure ai5(c:Cfg)(s:TSt):Prop where
 words:s.words.length=64
 holds:s.holds.length=6
 asked:s.asked.length=3
 pN:s.wait.length<2^21
 tP:s.done.length<2^21
 aj6:s.told.length<2^21
 wait: ∀j∈s.wait,rI c j.who j.n
 done: ∀j∈s.done,rI c j.who j.n
 told: ∀j∈s.told,rI c j.who j.n
theorem Ul:[cI j.who,cI j.n,cI j.rsp.id,cI j.rsp.code,.isl (j.rsp.data.map aG)]=aP j:=rfl
theorem Sr{r:Rsp}:[cI r.id,cI r.code,.isl (r.data.map aG)]=nS r:=rfl
def fP(a b:Job):Bool:=decide (a.who<b.who\/(a.who=b.who/\a.n<b.n))
def wP(l:List Job)(j:Job):List Job:=l.take (l.findIdx (fP j))++j::l.drop (l.findIdx (fP j))
def kl(l:List Job)(at_:Nat):List Job:=l.take at_++l.drop (at_+1)
def KU(l:List Job)(j:Job)(f k:Nat):List Job:=if k<=f then l.take k else l.take f++j::(l.take k).drop f
theorem eY{α:Type}[Inhabited α]{l:List α}(h:k<l.length):l.take (k+1)=l.take k++[l.getD k default]:=by rw[amF h];simp[List.getD,h]
variable{l:List Job}
theorem aeM{f:Nat}(h:k<l.length)(a:k<f):KU l j f (k+1)=KU l j f k++[l.getD k default]:=by unfold KU;rw[if_pos (by omega),if_pos (by omega),eY h]
theorem ab2{f:Nat}(h:k<l.length)(a:k=f):KU l j f (k+1)=(KU l j f k++[j])++[l.getD k default]:=by subst a;unfold KU;rw[if_neg (by omega),if_pos (akA _),eY h,anX (by simp;omega)];rw[amP (by simp;omega)];simp
theorem adU{f:Nat}(h:k<l.length)(a:f<k):KU l j f (k+1)=KU l j f k++[l.getD k default]:=by unfold KU;rw[if_neg (by omega),if_neg (by omega),eY h,anX (by simp;omega)];simp
theorem Wk{f:Nat}(h:k<=l.length):(KU l j f k).length<=k+1:=by unfold KU;split<;>simp<;>omega
theorem abA(a:l.findIdx (fP j)<l.length):KU l j (l.findIdx (fP j)) l.length=wP l j:=by unfold KU wP;rw[if_neg (by omega)];simp
theorem Tt(a: ¬l.findIdx (fP j)<l.length):KU l j (l.findIdx (fP j)) l.length++[j]=wP l j:=by
 have:l.findIdx (fP j)=l.length:=by have:=List.findIdx_le_length (p:=fP j) (xs:=l);omega
 unfold KU wP;rw[this];simp
theorem ad4(h:k<l.length)(d:k<=l.findIdx (fP j)):fP j (l.getD k default)=true↔k=l.findIdx (fP j):=by
 have b:l.getD k default=l[k]:=by simp[List.getD,h]
 rw[b];constructor
 ·intro c;have: ¬k<l.findIdx (fP j):=fun a=>by have:=anG a;simp[c] at this
  omega
 ·intro he;have a:l.findIdx (fP j)<l.length:=by omega
  have:=anH (w:=a);subst he;simpa using this
def eU8(x:Int):List D1:=[.v (.int .u8 x)]
attribute [go_sem] eU8
def rdO(l:List Int)(p:Nat):bQ:=⟨2,1,[[.isl (l.map eU8),cI p]]⟩
structure Zk(l:List Int):Prop where
 len:l.length<2^40
 byte: ∀x∈l,0<=x/\x<256
theorem Zk.at{l:List Int}(h:Zk l)(k:Nat):0<=l.getD k default/\l.getD k default<256:=by
 by_cases a:k<l.length;·exact h.byte _ (by simp[List.getD,a])
 ·have:l.getD k default=0:=by simp[List.getD,a]
  omega
theorem bL{α:Type}[Inhabited α]{l:List α}(h:k<l.length):l.getD k default∈l:=by simp[List.getD,h]
def kL:Rsp:=⟨0,0,[]⟩
def zW(old new lanes:Int):Int:=(if lanes/2=1 then new/256 else old/256)*256+(if lanes%2=1 then new%256 else old%256)
theorem Rj{old new lanes:Int}(a:0<=old/\old<=65535)(b:0<=new/\new<=65535):0<=zW old new lanes/\zW old new lanes<=65535:=by unfold zW;split<;>split<;>omega
def WT(w all data lanes:List Int):Nat->List Int
 |0=>w
 |k+1=>(WT w all data lanes k).set (all.getD k default).toNat (zW ((WT w all data lanes k).getD (all.getD k default).toNat default) (data.getD k default) (lanes.getD k default))
variable{up:Int}
theorem wG{l:List Int}{lo:Int}(h:All l lo up)(a:k<l.length):lo<=l.getD k default/\l.getD k default<=up:=h _ (by simp[List.getD,a])
theorem tp{l:List Int}(h:All l 0 up)(hu:0<=up)(k:Nat):0<=l.getD k default/\l.getD k default<=up:=by
 by_cases a:k<l.length;·exact wG h a
 ·have:l.getD k default=0:=by simp[List.getD,a]
  omega
theorem Qh{l:List Int}{lo:Int}{i:Nat}(h:All l lo up)(b:lo<=x/\x<=up):All (l.set i x) lo up:=by
 intro y c;rcases List.mem_or_eq_of_mem_set c with a|a;·exact h y a
 ·subst a;exact b
variable{w:List Int}
theorem sm{data lanes:List Int}(k:Nat):(WT w all data lanes k).length=w.length:=by
 induction k with
 |zero=>rfl
 |succ k a=>simp only[WT,akI,a]
theorem Ff{data lanes:List Int}(hw:All w 0 65535)(b:All data 0 65535)(k:Nat):All (WT w all data lanes k) 0 65535:=by
 induction k with
 |zero=>exact hw
 |succ k a=>exact Qh a (Rj (tp a (by decide) _) (tp b (by decide) _))
def tR(h all:List Int):List Int:=h.map fun x=>if x∈all then-1 else x
variable{h:List Int}
theorem Yd(a:All h (-1) 63):All (tR h all) (-1) 63:=by intro x b;obtain⟨y,c,rfl⟩:=akJ.1 b;have:=a y c;split<;>omega
def doM(m:List Rng)(w h:List Int)(who:Int)(q:Req):(List Int×List Int)×Rsp:=
 if eD m (bN q.addr q.many q.wrap)<0 then ((w,h),⟨q.id,4,[]⟩) else
 if wrM q=true/\(m.getD (eD m (bN q.addr q.many q.wrap)).toNat default).only=true then ((w,h),⟨q.id,3,[]⟩) else
 if q.kind=1 then ((w,h),⟨q.id,1,(bN q.addr q.many q.wrap).map fun a=>w.getD a.toNat default⟩) else
 if q.kind=3 then ((w,h.set (who*2+q.id).toNat q.addr),⟨q.id,2,(bN q.addr q.many q.wrap).map fun a=>w.getD a.toNat default⟩) else
 if q.kind=4/\ ¬h.getD (who*2+q.id).toNat default=q.addr then ((w,h),⟨q.id,1,[]⟩) else
 ((WT w (bN q.addr q.many q.wrap) q.data q.lanes (bN q.addr q.many q.wrap).length,tR h (bN q.addr q.many q.wrap)),⟨q.id,if q.kind=4 then 2 else 1,[]⟩)
theorem rz:wrM q=true↔(q.kind=2\/q.kind=4):=by simp[wrM]
variable{m:List Rng}{who:Int}
theorem Hq(a:eD m (bN q.addr q.many q.wrap)<0):doM m w h who q=((w,h),⟨q.id,4,[]⟩):=by unfold doM;rw[if_pos a]
theorem Hs(a: ¬eD m (bN q.addr q.many q.wrap)<0)(b:wrM q=true)(c:(m.getD (eD m (bN q.addr q.many q.wrap)).toNat default).only=true):doM m w h who q=((w,h),⟨q.id,3,[]⟩):=by unfold doM;rw[if_neg a,if_pos ⟨b,c⟩]
theorem Jl(b: ¬eD m (bN q.addr q.many q.wrap)<0)(c:q.kind=1):doM m w h who q=((w,h),⟨q.id,1,(bN q.addr q.many q.wrap).map fun a=>w.getD a.toNat default⟩):=by unfold doM;rw[if_neg b,if_neg (fun hc=>by have:=rz.1 hc.1;omega),if_pos c]
theorem Ht(b: ¬eD m (bN q.addr q.many q.wrap)<0)(c:q.kind=3):doM m w h who q=((w,h.set (who*2+q.id).toNat q.addr),⟨q.id,2,(bN q.addr q.many q.wrap).map fun a=>w.getD a.toNat default⟩):=by unfold doM;rw[if_neg b,if_neg (fun hc=>by have:=rz.1 hc.1;omega),if_neg (by omega),if_pos c]
theorem Xp(a: ¬eD m (bN q.addr q.many q.wrap)<0)(b: ¬(m.getD (eD m (bN q.addr q.many q.wrap)).toNat default).only=true)(c:q.kind=4)(d: ¬h.getD (who*2+q.id).toNat default=q.addr):doM m w h who q=((w,h),⟨q.id,1,[]⟩):=by unfold doM;rw[if_neg a,if_neg (fun hc=>b hc.2),if_neg (by omega),if_neg (by omega),if_pos ⟨c,d⟩]
theorem Pn(a: ¬eD m (bN q.addr q.many q.wrap)<0)(b: ¬(m.getD (eD m (bN q.addr q.many q.wrap)).toNat default).only=true)(c:q.kind=4)(d:h.getD (who*2+q.id).toNat default=q.addr):doM m w h who q=((WT w (bN q.addr q.many q.wrap) q.data q.lanes (bN q.addr q.many q.wrap).length,tR h (bN q.addr q.many q.wrap)),⟨q.id,2,[]⟩):=by unfold doM;rw[if_neg a,if_neg (fun hc=>b hc.2),if_neg (by omega),if_neg (by omega),if_neg (fun hc=>hc.2 d),if_pos c]
theorem Qd(a: ¬eD m (bN q.addr q.many q.wrap)<0)(b: ¬(m.getD (eD m (bN q.addr q.many q.wrap)).toNat default).only=true)(c:q.kind=2):doM m w h who q=((WT w (bN q.addr q.many q.wrap) q.data q.lanes (bN q.addr q.many q.wrap).length,tR h (bN q.addr q.many q.wrap)),⟨q.id,1,[]⟩):=by unfold doM;rw[if_neg a,if_neg (fun hc=>b hc.2),if_neg (by omega),if_neg (by omega),if_neg (fun hc=>by omega),if_neg (by omega)]
structure mg(w h:List Int):Prop where
 wl:w.length=64
 wr:All w 0 65535
 hl:h.length=6
 hr:All h (-1) 63
theorem acF(e:mg w h)(f:fZ q):mg (doM m w h who q).1.1 (doM m w h who q).1.2:=by
 obtain⟨a,b,c,d⟩:=e;obtain⟨_,_,g,_,_,i,_,_⟩:=f;unfold doM;split;·exact⟨a,b,c,d⟩
 split;·exact⟨a,b,c,d⟩
 split;·exact⟨a,b,c,d⟩
 split;·exact⟨a,b,by simpa using c,Qh d (by have:=g.2.1;omega)⟩
 split;·exact⟨a,b,c,d⟩
 ·exact⟨by rw[sm];exact a,Ff b i _,by simpa [tR] using c,Yd d⟩
def jZ(r:Rsp):Prop:=(0<=r.id/\r.id<=1)/\(1<=r.code/\r.code<=4)/\(r.data.length:Int)<=4/\All r.data 0 65535
instance {r:Rsp}:Decidable (jZ r):=by unfold jZ;infer_instance
theorem Qk(hw:All w 0 65535)(f:fZ q):jZ (doM m w h who q).2/\(doM m w h who q).2.id=q.id:=by
 obtain⟨c,_⟩:=f;have b:All ([]:List Int) 0 65535:=fun x e=>by simp at e
 have g:=G4 (addr:=q.addr) (many:=q.many) (wrap:=q.wrap);have d:All ((bN q.addr q.many q.wrap).map fun a=>w.getD a.toNat default) 0 65535:=by intro x e;obtain⟨a,_,rfl⟩:=akJ.1 e;exact tp hw (by decide) _
 unfold doM;split;·exact⟨⟨c,by dsimp only;omega,by simp,b⟩,rfl⟩
 split;·exact⟨⟨c,by dsimp only;omega,by simp,b⟩,rfl⟩
 split;·exact⟨⟨c,by dsimp only;omega,by simp;omega,d⟩,rfl⟩
 split;·exact⟨⟨c,by dsimp only;omega,by simp;omega,d⟩,rfl⟩
 split;·exact⟨⟨c,by dsimp only;omega,by simp,b⟩,rfl⟩
 ·refine⟨⟨c,?_,by simp,b⟩,rfl⟩;dsimp only;split<;>omega
def qF(c:Cfg)(s:TSt)(e:Ev):TSt:=
 if e.kind=1 then {s with asked:=s.asked.set e.who.toNat (e.n+1),wait:=wP s.wait ⟨e.who,e.n,kL⟩} else
 if e.kind=2 then {s with words:=(doM c.map s.words s.holds e.who (bO c e.who e.n)).1.1,holds:=(doM c.map s.words s.holds e.who (bO c e.who e.n)).1.2,wait:=kl s.wait (bR (iI e.who e.n) s.wait).toNat,done:=wP s.done ⟨e.who,e.n,(doM c.map s.words s.holds e.who (bO c e.who e.n)).2⟩} else
 {s with told:=s.told++[s.done.getD (bR (iI e.who e.n) s.done).toNat default],done:=kl s.done (bR (iI e.who e.n) s.done).toNat}
def key(j:Job):Int×Int:=(j.who,j.n)
def keys(s:TSt):List (Int×Int):=(s.wait++s.done++s.told).map key
abbrev jF(l:List Job):Prop:=l.Pairwise fun a b=>fP a b=true
structure rU(c:Cfg)(s:TSt):Prop where
 atm:mg s.words s.holds
 QH:s.asked.length=3
 OE: ∀k,k<3->0<=s.asked.getD k default/\s.asked.getD k default<=(c.b7.getD k default).length
 lx:jF s.wait
 lz:jF s.done
 Ua: ∀p∈keys s,(0<=p.1/\p.1<=2)/\0<=p.2/\p.2<s.asked.getD p.1.toNat default
 nodup:(keys s).Nodup
 count:(s.wait.length:Int)+s.done.length+s.told.length=s.asked.getD 0 default+s.asked.getD 1 default+s.asked.getD 2 default
 Dj: ∀j∈s.wait,j.rsp=kL
 vq: ∀j∈s.done++s.told,jZ j.rsp/\j.rsp.id=(bO c j.who j.n).id
theorem uU{a b:Job}:fP a b=true↔a.who<b.who\/(a.who=b.who/\a.n<b.n):=by simp[fP]
theorem sB(l:List Job)(j:Job):(wP l j).Perm (j::l):=by unfold wP;apply amG.trans;rw[alR]
theorem LV(h:k<l.length):l.Perm (l.getD k default::kl l k):=by
 have e:l=l.take k++l.getD k default::l.drop (k+1):=by
  have:l.getD k default=l[k]:=by simp[List.getD,h]
  rw[this,<-alF h,alR]
 conv=>lhs;rw[e]
 exact amG
theorem va:(kl l k).Sublist l:=by unfold kl;have h:=(List.Sublist.refl (l.take k)).append (anY l (Nat.le_succ k));rwa [alR] at h
theorem lj(h:jF l):jF (kl l k):=h.sublist va
theorem QC(h:jF l)(q:key j∉l.map key):jF (wP l j):=by
 unfold wP;have hs:=h;rw[jF,<-alR (l.findIdx (fP j)) l,amC] at hs;obtain⟨r,g,s⟩:=hs
 have k: ∀x∈l.take (l.findIdx (fP j)),fP x j=true:=by
  intro x c;obtain⟨i,hi,rfl⟩:=akX.1 c;simp only[ak1] at hi;have m:i<l.findIdx (fP j):=by omega
  have d:=anG m;have n:key l[i]≠key j:=fun he=>q (he▸al1 (amN _));rw[amQ];rw[uU];simp only[key,ne_eq,Prod.mk.injEq] at n;simp only[fP,decide_eq_false_iff_not] at d;omega
 have o: ∀x∈l.drop (l.findIdx (fP j)),fP j x=true:=by
  intro x c
  cases e:l.drop (l.findIdx (fP j)) with
  |nil=>rw[e] at c;simp at c
  |cons y ys=>
   rw[e] at c g;have hlen:l.findIdx (fP j)<l.length:=(by have:=congrArg List.length e;simp at this;omega);have t:y=l[l.findIdx (fP j)]:=(by rw[alF hlen] at e;exact(List.cons.inj e).1.symm);have f:fP j y=true:=(by rw[t];exact anH (w:=hlen));rcases akK.1 c with rfl|c;·exact f
   ·have:=(alD.1 g).1 x c;rw[uU] at this f ⊢;omega
 refine amC.2 ⟨r,alD.2 ⟨o,g⟩,fun a p b d=> ?_⟩;rcases akK.1 d with rfl|d;·exact k a p
 ·exact s a p b d
theorem xF{n:Int}(h: ¬bR (iI who n) l<0):(bR (iI who n) l).toNat<l.length/\key (l.getD (bR (iI who n) l).toNat default)=(who,n):=by
 unfold bR at h ⊢;split;·rename_i k a;obtain⟨c,b,_⟩:=amO.1 a;refine⟨by simpa using c,?_⟩;simp only[iI,decide_eq_true_eq] at b;simp only[Int.toNat_natCast,key,List.getD,c,akD,Option.getD_some,b.1,b.2]
 ·rename_i a;rw[a] at h;simp at h
variable{e:Ev}
theorem ea(h:Fg c s e=0):rI c e.who e.n/\(e.kind=1/\e.n=s.asked.getD e.who.toNat default\/e.kind=2/\ ¬bR (iI e.who e.n) s.wait<0\/e.kind=3/\ ¬bR (iI e.who e.n) s.done<0):=by
 unfold Fg at h;split at h;·exact absurd h (by decide)
 rename_i b;have b:=Classical.not_not.1 b;refine⟨b.1,?_⟩;split at h
 ·rename_i d;split at h;·exact absurd h (by decide)
  ·rename_i a;exact .inl ⟨d,Classical.not_not.1 a⟩
 split at h
 ·rename_i d;split at h;·exact absurd h (by decide)
  ·rename_i a;exact .inr (.inl ⟨d,a⟩)
 split at h;·exact absurd h (by decide)
 ·rename_i a;exact .inr (.inr ⟨by omega,a⟩)
theorem Zt(a:e.kind=1):(keys (qF c s e)).Perm ((e.who,e.n)::keys s):=by simp only[keys,qF,a,if_true,akQ];have:=(sB s.wait ⟨e.who,e.n,kL⟩).map key;exact(this.append_right _).append_right _
theorem aeO(b:e.kind=2)(hi: ¬bR (iI e.who e.n) s.wait<0):(keys (qF c s e)).Perm (keys s):=by obtain⟨d,f⟩:=xF hi;simp only[keys,qF,b,if_true,if_false,akQ,Int.reduceEq];apply List.Perm.append_right _;refine(((sB s.done _).map key).append_left _).trans ?_;simp only[akP];apply amG.trans;have a:=(LV d).map key;simp only[akP,f] at a;exact(a.symm.append_right _)
theorem Vt(b:e.kind=3)(hi: ¬bR (iI e.who e.n) s.done<0):(keys (qF c s e)).Perm (keys s):=by obtain⟨d,g⟩:=xF hi;simp only[keys,qF,b,if_false,akQ,Int.reduceEq,akO];apply List.Perm.append_left _;have a:=(LV d).map key;simp only[akP] at a;have f:=a.append_right (s.told.map key);refine List.Perm.trans ?_ f.symm;simp only[akP,ak2,List.cons_append];rw[<-akO];exact(List.perm_append_singleton _ _)
theorem ajL{l:List Int}(hl:l.length=3)(e:k<3)(d:x=l.getD k default+1):(l.set k x).getD 0 default+(l.set k x).getD 1 default+(l.set k x).getD 2 default=l.getD 0 default+l.getD 1 default+l.getD 2 default+1:=by
 match l,hl with
 | [a,b,c],_=>subst d;have:k=0\/k=1\/k=2:=(by omega);rcases this with rfl|rfl|rfl<;>simp[List.getD]<;>omega
theorem TJ{l:List Int}{i:Nat}(a:k<l.length):(l.set k x).getD i default=if i=k then x else l.getD i default:=by
 simp only[List.getD,al5];by_cases h:k=i;·subst h;simp[a]
 ·simp[h,Ne.symm h,eq_comm]
theorem Jr(h:k<l.length):(kl l k).length+1=l.length:=by have:=(LV h).length_eq;simpa using this.symm
theorem Hd:(wP l j).length=l.length+1:=by simpa using (sB l j).length_eq
theorem Pd(h:(keys s).Nodup): ∀p∈s.wait.map key,p∉s.done.map key:=by simp only[keys,akQ] at h;rw[akO,alS] at h;intro p hp a;exact h.2.2 p hp p (alI _ a) rfl
theorem MQ{n:Int}(d:bI c)(h:rI c who n):fZ (bO c who n):=by
 obtain⟨_,_,_,i,a⟩:=d;obtain⟨j,k,l⟩:=h;rw[eA] at a;have e:who.toNat<c.b7.length:=by omega
 have f:vA (c.b7.getD who.toNat default):=Classical.byContradiction fun hc=>a ⟨c.b7.getD who.toNat default,by simp[List.getD,e],decide_eq_true hc⟩;have b:=f.2;rw[eA] at b;have g:n.toNat<(c.b7.getD who.toNat default).length:=by omega
 exact Classical.byContradiction fun hc=>b ⟨(c.b7.getD who.toNat default).getD n.toNat default,bL g,decide_eq_true hc⟩
theorem TV(B:bI c)(hs:rU c s)(h:Fg c s e=0):rU c (qF c s e):=by
 obtain⟨u,r⟩:=ea h;obtain⟨hw,C⟩:=u;have z:fZ (bO c e.who e.n):=MQ B ⟨hw,C⟩;have v:e.who.toNat<3:=by omega
 have f:e.who.toNat<s.asked.length:=by rw[hs.QH];exact v
 rcases r with⟨o,hi⟩|⟨o,hi⟩|⟨o,hi⟩
 ·have hp:=Zt (c:=c) (s:=s) o;have q:(e.who,e.n)∉keys s:=fun hm=>by have:=(hs.Ua _ hm).2.2;dsimp only at this;omega
  have d:qF c s e= {s with asked:=s.asked.set e.who.toNat (e.n+1),wait:=wP s.wait ⟨e.who,e.n,kL⟩}:=by simp only[qF,o,if_true]
  refine⟨by rw[d];exact hs.atm,by rw[d];simpa using hs.QH,fun k D=> ?_,?_,by rw[d];exact hs.lz,fun p g=> ?_,hp.nodup_iff.2 (alG.2 ⟨q,hs.nodup⟩),?_,?_,?_⟩
  ·have:=hs.OE k D;rw[d];dsimp only;rw[TJ f];split;·rename_i t;subst t;omega
   ·exact this
  ·rw[d];refine QC hs.lx fun hm=>q ?_;simp only[keys,akQ];exact alI _ (alI _ hm)
  ·rcases akK.1 (hp.mem_iff.1 g) with rfl|hm;·rw[d];dsimp only;rw[TJ f,if_pos rfl];omega
   ·have:=hs.Ua p hm;rw[d];dsimp only;rw[TJ f];split;·rename_i t;rw[t] at this;omega
    ·exact this
  ·have:=hs.count;rw[d];dsimp only;rw[Hd,ajL hs.QH v (by omega)];omega
  ·rw[d];intro j a;rcases akK.1 ((sB _ _).mem_iff.1 a) with rfl|a;·rfl
   ·exact hs.Dj j a
  ·rw[d];exact hs.vq
 ·have hp:=aeO (c:=c) o hi;obtain⟨w,A⟩:=xF hi;have i: ∀p,p∈keys (qF c s e)↔p∈keys s:=fun p=>hp.mem_iff;have hlen:=Jr w;have x:(e.who,e.n)∉s.done.map key:=Pd hs.nodup _ (akJ.2 ⟨_,bL w,A⟩);have y:=acF (m:=c.map) (who:=e.who) hs.atm z;have d:qF c s e= {s with words:=(doM c.map s.words s.holds e.who (bO c e.who e.n)).1.1,holds:=(doM c.map s.words s.holds e.who (bO c e.who e.n)).1.2,wait:=kl s.wait (bR (iI e.who e.n) s.wait).toNat,done:=wP s.done ⟨e.who,e.n,(doM c.map s.words s.holds e.who (bO c e.who e.n)).2⟩}:=by simp[qF,o]
  have b:=hp.nodup_iff.2 hs.nodup;rw[d] at i b ⊢
  exact⟨y,hs.QH,hs.OE,lj hs.lx,QC hs.lz x,fun p g=>hs.Ua p ((i p).1 g),b,by have:=hs.count;have:=Hd (l:=s.done) (j:=⟨e.who,e.n,(doM c.map s.words s.holds e.who (bO c e.who e.n)).2⟩);dsimp only;omega,fun j a=>hs.Dj j (va.mem a),fun j a=>by
   rcases akL.1 a with a|a
   ·rcases akK.1 ((sB _ _).mem_iff.1 a) with rfl|a;·exact Qk hs.atm.wr z
    ·exact hs.vq j (alI _ a)
   ·exact hs.vq j (alT _ a)⟩
 ·have hp:=Vt (c:=c) o hi;obtain⟨w,A⟩:=xF hi;have i: ∀p,p∈keys (qF c s e)↔p∈keys s:=fun p=>hp.mem_iff;have hlen:=Jr w;have d:qF c s e= {s with told:=s.told++[s.done.getD (bR (iI e.who e.n) s.done).toNat default],done:=kl s.done (bR (iI e.who e.n) s.done).toNat}:=by simp[qF,o]
  have b:=hp.nodup_iff.2 hs.nodup;rw[d] at i b ⊢
  exact⟨hs.atm,hs.QH,hs.OE,hs.lx,lj hs.lz,fun p g=>hs.Ua p ((i p).1 g),b,by have:=hs.count;simp only[akG,List.length_cons,List.length_nil];omega,hs.Dj,fun j a=>by
   rcases akL.1 a with a|a
   ·exact hs.vq j (alI _ (va.mem a))
   ·rcases akL.1 a with a|a;·exact hs.vq j (alT _ a)
    ·simp only[akT] at a;subst a;exact hs.vq _ (alI _ (bL w))⟩
theorem eN(d:bI c):c.b7.length=3/\ ∀k,(c.b7.getD k default).length<=12:=by
 obtain⟨_,_,_,f,a⟩:=d;refine⟨by omega,fun k=> ?_⟩;rw[eA] at a;by_cases b:k<c.b7.length;·have e:vA (c.b7.getD k default):=Classical.byContradiction fun hc=>a ⟨c.b7.getD k default,by simp[List.getD,b],decide_eq_true hc⟩;have:=e.1;omega
 ·have:c.b7.getD k default=[]:=by simp[List.getD,b];rfl
  rw[this];simp
theorem rU.lens(b:bI c)(hs:rU c s):s.wait.length+s.done.length+s.told.length<=36:=by have a:=(eN b).2;have d:=hs.OE 0 (by decide);have e:=hs.OE 1 (by decide);have f:=hs.OE 2 (by decide);have g:=hs.count;have:=a 0;have:=a 1;have:=a 2;omega
theorem rU.mem(hs:rU c s)(a:j∈s.wait++s.done++s.told):rI c j.who j.n:=by have h:=hs.Ua (key j) (akJ.2 ⟨j,a,rfl⟩);simp only[key] at h;have:=hs.OE j.who.toNat (by omega);exact⟨h.1,by omega⟩
def runM(c:Cfg)(s:TSt)(l:List Ev):TSt:=l.foldl (qF c) s
def QR(c:Cfg)(s:TSt)(l:List Ev):Prop:=∀k,k<l.length->Fg c (runM c s (l.take k)) (l.getD k default)=0
theorem xI:QR c s []:=fun k a=>by simp at a
theorem rU.fit(b:bI c)(hs:rU c s):ai5 c s:=by have:=hs.lens b;exact⟨hs.atm.wl,hs.atm.hl,hs.QH,by omega,by omega,by omega,fun j a=>hs.mem (by simp[a]),fun j a=>hs.mem (by simp[a]),fun j a=>hs.mem (by simp[a])⟩
theorem Li{l:List Int}(h:k<l.length):l.take (k+1)=l.take k++[l.getD k default]:=eY h
def xE(h all:List Int)(k:Nat):List Int:=tR (h.take k) all++h.drop k
theorem By(a:k<=h.length):(xE h all k).length=h.length:=by simp[xE,tR];omega
theorem Js(a:k<h.length):(xE h all k).getD k default=h.getD k default:=by
 have e:(tR (h.take k) all).length=k:=by simp[tR];omega
 simp only[xE,List.getD,ak0,e,anC,if_false,al9,akY,Nat.add_zero]
theorem drop_cons{l:List Int}(h:k<l.length):l.drop k=l.getD k default::l.drop (k+1):=by rw[alF h];simp[List.getD,h]
theorem Nf{l:List Int}:tR (l++[x]) all=tR l all++[if x∈all then-1 else x]:=by simp[tR]
theorem Ci(a:k<h.length)(b:x=if h.getD k default∈all then-1 else h.getD k default):(xE h all k).set k x=xE h all (k+1):=by
 have e:(tR (h.take k) all).length=k:=by simp[tR];omega
 unfold xE;rw[anI,e,if_neg (by omega),al9,Li a,drop_cons a,Nf,List.set_cons_zero,b,akO];rfl
theorem vy(a:k<h.length):(xE h all k).set k (h.getD k default)=xE h all k:=by
 have e:(tR (h.take k) all).length=k:=by simp[tR];omega
 unfold xE;rw[anI,e,if_neg (by omega),al9,drop_cons a,List.set_cons_zero]
theorem tg:xE h all 0=h:=by simp[xE,tR]
theorem Cz:xE h all h.length=tR h all:=by simp[xE]
theorem Dr(h:t9 addr many wrap):0<(bN addr many wrap).length:=by rw[BJ h];obtain⟨a,_⟩:=h;omega
theorem ta{a m:Nat}(h:a<2^(m+k)):a&&& ((2^m-1)<<<k)=a/2^k*2^k:=by
 apply Nat.eq_of_testBit_eq;intro i;have e:a/2^k*2^k=(a>>>k)<<<k:=by rw[Nat.shiftRight_eq_div_pow,Nat.shiftLeft_eq]
 rw[e,Nat.testBit_and,anZ,anZ,Nat.testBit_two_pow_sub_one,Nat.testBit_shiftRight];by_cases c:k<=i
 ·have d:k+(i-k)=i:=by omega
  by_cases b:i<m+k;·simp[c,d];omega
  ·have:a.testBit i=false:=Nat.testBit_lt_two_pow (Nat.lt_of_lt_of_le h (Nat.pow_le_pow_right (anB 1) (Nat.le_of_not_lt b)));simp[d,this]
 ·simp[c]
theorem Wu{a:Nat}:a&&& 255=a%256:=anJ a 8
theorem Yu{a b:Nat}(h:b<256):a*256|||b=a*256+b:=by have:=Nat.two_pow_add_eq_or_of_lt (i:=8) (b:=b) h a;rw[show (2:Nat)^8*a=a*256 from alN _ _] at this;exact this.symm
def Kz(old new m:Int):Int:=IntKind.i64.wrap ↑(BitVec.ofInt 64 (IntKind.i64.wrap ↑(BitVec.ofInt 64 old&&& ~~~BitVec.ofInt 64 m).toNat)|||BitVec.ofInt 64 (IntKind.i64.wrap ↑(BitVec.ofInt 64 new&&& BitVec.ofInt 64 m).toNat)).toNat
theorem Ck{a:Nat}(h:a<65536):(BitVec.ofNat 64 a).toNat=a:=by rw[BitVec.toNat_ofNat];omega
theorem ZG{a b m x y:Nat}(e:a<65536)(f:b<65536)(g:a&&& (18446744073709551615-m)=x)(h:b&&& m=y)(hm:m<65536)(c:x<65536)(d:y<65536)(k:x|||y<65536):Kz a b m=((x|||y:Nat):Int):=by
 have i:(BitVec.ofInt 64 (a:Int)&&& ~~~BitVec.ofInt 64 (m:Int)).toNat=x:=by rw[BitVec.ofInt_natCast,BitVec.ofInt_natCast,BitVec.toNat_and,BitVec.toNat_not,Ck e,Ck hm];exact g
 have j:(BitVec.ofInt 64 (b:Int)&&& BitVec.ofInt 64 (m:Int)).toNat=y:=by rw[BitVec.ofInt_natCast,BitVec.ofInt_natCast,BitVec.toNat_and,Ck f,Ck hm];exact h
 unfold Kz;rw[i,j,IntWalk.i64_in (x:Int) (by omega),IntWalk.i64_in (y:Int) (by omega),BitVec.ofInt_natCast,BitVec.ofInt_natCast,BitVec.toNat_or,Ck c,Ck d,IntWalk.i64_in _ (by omega)]
theorem rb{old new lanes m:Int}(o:0<=old/\old<=65535)(p:0<=new/\new<=65535)(h:lanes=0/\m=0\/lanes=1/\m=255\/lanes=2/\m=65280\/lanes=3/\m=65535):Kz old new m=zW old new lanes:=by
 obtain⟨a,rfl⟩: ∃a:Nat,old=a:=⟨old.toNat,by omega⟩
 obtain⟨b,rfl⟩: ∃b:Nat,new=b:=⟨new.toNat,by omega⟩
 have d:a<65536:=by omega
 have f:b<65536:=by omega
 have l:=ta (a:=a) (m:=56) (k:=8) (by omega);have n:=ta (a:=b) (m:=8) (k:=8) (by omega);have j:=ta (a:=a) (m:=48) (k:=16) (by omega);rcases h with⟨rfl,rfl⟩|⟨rfl,rfl⟩|⟨rfl,rfl⟩|⟨rfl,rfl⟩
 ·have:=ZG (a:=a) (b:=b) (m:=0) (x:=a) (y:=0) d f (by rw[show 18446744073709551615-0=2^64-1 from rfl,anJ];omega) (Nat.and_zero b) (by omega) d (by omega) (by simpa using d);rw[show ((0:Nat):Int)=0 from rfl] at this;rw[this,Nat.or_zero];unfold zW;simp;omega
 ·have g:a&&& (18446744073709551615-255)=a/256*256:=l;have c:a/256*256|||b%256=a/256*256+b%256:=Yu (by omega);have:=ZG (a:=a) (b:=b) (m:=255) d f g Wu (by omega) (by omega) (by omega) (by omega);rw[show ((255:Nat):Int)=255 from rfl] at this;rw[this,c];unfold zW;simp
 ·have g:a&&& (18446744073709551615-65280)=a%256:=by
   have e:18446744073709551615-65280=((2^48-1)<<<16)|||255:=by decide
   rw[e,Nat.and_or_distrib_left,j,Wu]
   have:a/2^16=0:=by omega
   rw[this];simp
  have i:b&&& 65280=b/256*256:=n
  have c:a%256|||b/256*256=b/256*256+a%256:=by rw[Nat.or_comm];exact Yu (by omega)
  have:=ZG (a:=a) (b:=b) (m:=65280) d f g i (by omega) (by omega) (by omega) (by omega)
  rw[show ((65280:Nat):Int)=65280 from rfl] at this
  rw[this,c]
  unfold zW;simp
 ·have g:a&&& (18446744073709551615-65535)=0:=by
   have e:18446744073709551615-65535=((2^48-1)<<<16):=by decide
   rw[e,j];omega
  have i:b&&& 65535=b:=by rw[show (65535:Nat)=2^16-1 from rfl,anJ];omega
  have:=ZG (a:=a) (b:=b) (m:=65535) d f g i (by omega) (by omega) (by omega) (by simpa using f)
  rw[show ((65535:Nat):Int)=65535 from rfl] at this
  rw[this,Nat.zero_or]
  unfold zW;simp;omega
def Hj(x:Int):Int:=IntKind.i64.wrap ↑(BitVec.ofInt 64 (IntKind.i64.wrap (IntKind.i64.wrap ↑(BitVec.ofInt 64 x&&& BitVec.ofInt 64 1).toNat*255))|||BitVec.ofInt 64 (IntKind.i64.wrap (Int.fdiv x (2^min 1 64)*65280))).toNat
theorem ahA:Hj 0=0:=by decide
theorem ahB:Hj 1=255:=by decide
theorem agH:Hj 2=65280:=by decide
theorem af1:Hj 3=65535:=by decide
structure Sam(k:Int)(s s':TSt):Prop where
 asked:s'.asked.getD k.toNat default=s.asked.getD k.toNat default
 wait: ∀n,(k,n)∈s'.wait.map key↔(k,n)∈s.wait.map key
 done: ∀n,(k,n)∈s'.done.map key↔(k,n)∈s.done.map key
theorem Sam.refl{k:Int}:Sam k s s:=⟨rfl,fun _=>.rfl,fun _=>.rfl⟩
theorem Sam.symm{k:Int}{s s':TSt}(h:Sam k s s'):Sam k s' s:=⟨h.asked.symm,fun n=>(h.wait n).symm,fun n=>(h.done n).symm⟩
theorem Sam.trans{k:Int}{s s' s2:TSt}(h:Sam k s s')(a:Sam k s' s2):Sam k s s2:=⟨a.asked.trans h.asked,fun n=>(a.wait n).trans (h.wait n),fun n=>(a.done n).trans (h.done n)⟩
def af6(q:Req):List Int:=bN q.addr q.many q.wrap
def hB(a:Nat)(who:Int)(q:Req)(h:List Int):List Int:=if a=5 then tR h (af6 q) else if a=3 then h.set (who*2+q.id).toNat q.addr else h
def gw(a b:Req):Prop:=∀x∈af6 a,x∉af6 b
theorem gw.symm{a b:Req}(h:gw a b):gw b a:=fun x c d=>h x d c
def Zv(c:Cfg)(a b:Ev):Prop:=a.who≠b.who/\ ¬(a.kind=3/\b.kind=3)/\(a.kind=2->b.kind=2->gw (bO c a.who a.n) (bO c b.who b.n))
instance {a b:Req}:Decidable (gw a b):=by unfold gw;infer_instance
instance {c:Cfg} {a b:Ev}:Decidable (Zv c a b):=by unfold Zv;infer_instance
theorem xa: ∀{l a:List Job},jF l->jF a->(∀x,x∈l↔x∈a)->l=a
 | [],[],_,_,_=>rfl
 | [],y::a,_,_,hm=>by have:=(hm y).2 (by simp);cases this
 |x::l,[],_,_,hm=>by have:=(hm x).1 (by simp);cases this
 |x::l,y::a,h,j,hm=>by
  have b: ∀z:Job,fP z z=false:=fun z=>by simp[fP]
  obtain⟨g,k⟩:=alD.1 h;obtain⟨i,m⟩:=alD.1 j
  have d:x=y:=by
   rcases akK.1 ((hm x).1 (by simp)) with e|e;·exact e
   ·rcases akK.1 ((hm y).2 (by simp)) with f|f;·exact f.symm
    ·have n:=i x e;have o:=g y f;rw[uU] at n o;omega
  subst d;congr 1;refine xa k m fun z=>⟨fun c=> ?_,fun c=> ?_⟩
  ·rcases akK.1 ((hm z).1 (by simp[c])) with he|he;·subst he;have:=g z c;rw[b] at this;cases this
   ·exact he
  ·rcases akK.1 ((hm z).2 (by simp[c])) with he|he;·subst he;have:=i z c;rw[b] at this;cases this
   ·exact he
theorem G3{l:List Ev}:runM c s (e::l)=runM c (qF c s e) l:=rfl
theorem Hc{a b:List Ev}:runM c s (a++b)=runM c (runM c s a) b:=by simp[runM]
theorem HG{l:List Ev}:QR c s (e::l)↔Fg c s e=0/\QR c (qF c s e) l:=by
 constructor;·intro h;refine⟨h 0 (by simp),fun k a=> ?_⟩;have:=h (k+1) (by simpa using a);rwa [List.take_succ_cons,G3,anE] at this
 ·rintro⟨b,d⟩ k a
  match k with
  |0=>exact b
  |k+1=>rw[List.take_succ_cons,G3,anE];exact d k (by simpa using a)
theorem Da{a b:List Ev}:QR c s (a++b)↔QR c s a/\QR c (runM c s a) b:=by
 induction a generalizing s with
 |nil=>simp[runM,xI]
 |cons e a d=>rw[List.cons_append,HG,HG,d,G3,and_assoc]
structure Fu(s:TSt):Prop where
 words:s.words.length<2^21
 holds:s.holds.length<2^21
 asked:s.asked.length<2^21
 wait:s.wait.length<2^21
 done:s.done.length<2^21
 told:s.told.length<2^21
 data: ∀j∈s.wait++s.done++s.told,j.rsp.data.length<2^21
def InA(asked:List Int)(j:Job):Prop:=(0<=j.who/\j.who<=2)/\0<=j.n/\j.n<asked.getD j.who.toNat default
def y4(c:Cfg)(j:Job):Prop:=jZ j.rsp/\j.rsp.id=(bO c j.who j.n).id
def Tk(c:Cfg)(asked:List Int):Prop:=∀k,k<3->0<=asked.getD k default/\asked.getD k default<=(c.b7.getD k default).length
noncomputable def stB(c:Cfg)(s:TSt):Bool:=@decide (rU c s) (Classical.propDecidable _)
theorem Wy(h:rU c s):stB c s=true:=by simp[stB,h]
theorem U0(h: ¬rU c s):stB c s=false:=by simp[stB,h]
noncomputable def tlB(c:Cfg)(s:TSt):Bool:=@decide (bI c/\rU c s) (Classical.propDecidable _)
theorem ah2(a:bI c)(h:rU c s):tlB c s=true:=by simp[tlB,h,a]
theorem SY(h: ¬(bI c/\rU c s)):tlB c s=false:=by simp[tlB,h]
theorem agD(a:bI c):tlB c s=stB c s:=by simp[tlB,stB,a]
theorem JN(h:jF l):(l.map key).Nodup:=by refine amY.2 (h.imp ?_);intro a b c he;rw[uU] at c;simp only[key,Prod.mk.injEq] at he;omega
theorem Qy(a:rH s.words s.holds)(d:s.asked.length=3)(e:Tk c s.asked)(f:jF s.wait)(g:jF s.done)(h: ∀j∈s.wait++s.done++s.told,InA s.asked j)(i:(keys s).Nodup)
 (k:(s.wait.length:Int)+s.done.length+s.told.length=s.asked.getD 0 default+s.asked.getD 1 default+s.asked.getD 2 default) (l: ∀j∈s.wait,j.rsp=kL) (b: ∀j∈s.done++s.told,y4 c j):rU c s:=
 ⟨⟨by have:=a.1.1;omega,a.1.2,by have:=a.2.1;omega,a.2.2⟩,d,e,f,g,fun p hp=>by
   obtain⟨j,m,rfl⟩:=akJ.1 hp
   exact h j m,i,k,l,b⟩
theorem Jn{w d t:List Job}(hw:jF w)(h:jF d)(i:(t.map key).Nodup)(g: ∀j∈t,key j∉w.map key/\key j∉d.map key)(k: ∀j∈d,key j∉w.map key):((w++d++t).map key).Nodup:=by
 rw[akQ,akQ,alS,alS];refine⟨⟨JN hw,JN h,fun a c b f he=> ?_⟩,i,fun a c b f he=> ?_⟩;·obtain⟨j,e,rfl⟩:=akJ.1 f;exact k j e (he▸c)
 ·obtain⟨j,e,rfl⟩:=akJ.1 f;rcases akL.1 c with c|c;·exact(g j e).1 (he▸c)
  ·exact(g j e).2 (he▸c)
theorem uJ{n:Int}:0<=bR (iI who n) l↔(who,n)∈l.map key:=by
 rw[eA,akJ];refine⟨fun⟨x,a,h⟩=>⟨x,a,?_⟩,fun⟨x,a,h⟩=>⟨x,a,?_⟩⟩;·have:=of_decide_eq_true h;simp[key,this.1,this.2]
 ·simp only[key,Prod.mk.injEq] at h;exact decide_eq_true h
theorem rU.apart(h:rU c s):(s.told.map key).Nodup/\(∀j∈s.told,key j∉s.wait.map key/\key j∉s.done.map key)/\(∀j∈s.done,key j∉s.wait.map key):=by
 have b:=h.nodup;unfold keys at b;rw[akQ,akQ,alS,alS] at b;obtain⟨⟨g,i,e⟩,f,d⟩:=b;refine⟨f,fun j a=>⟨fun hm=> ?_,fun hm=> ?_⟩,fun j a hm=> ?_⟩;·exact d _ (alI _ hm) _ (al1 a) rfl
 ·exact d _ (alT _ hm) _ (al1 a) rfl
 ·exact e _ hm _ (al1 a) rfl
structure Z0(c:Cfg)(asked:List Int)(l:List Job)(done:Bool):Prop where
 inA: ∀j∈l,InA asked j
 sorted:jF l
 rsp: ∀j∈l,if done then y4 c j else j.rsp=kL
noncomputable def aq(c:Cfg)(asked:List Int)(l:List Job)(done:Bool):Bool:=@decide (Z0 c asked l done) (Classical.propDecidable _)
theorem sa{asked:List Int}{done:Bool}(h:Z0 c asked l done):aq c asked l done=true:=by simp[aq,h]
theorem Er{asked:List Int}{done:Bool}(h: ¬Z0 c asked l done):aq c asked l done=false:=by simp[aq,h]
structure Co(c:Cfg)(s:TSt):Prop where
 inA: ∀j∈s.told,InA s.asked j
 once:(s.told.map key).Nodup
 rsp: ∀j∈s.told,y4 c j
noncomputable def wi(c:Cfg)(s:TSt):Bool:=@decide (Co c s) (Classical.propDecidable _)
theorem Po(h:Co c s):wi c s=true:=by simp[wi,h]
theorem Qe(h: ¬Co c s):wi c s=false:=by simp[wi,h]
theorem Lp(f:rH s.words s.holds)(g:s.asked.length=3)(h:Tk c s.asked)(b:Z0 c s.asked s.wait false)(d:Z0 c s.asked s.done true)(e:Co c s)
 (i:(s.wait.length:Int)+s.done.length+s.told.length=s.asked.getD 0 default+s.asked.getD 1 default+s.asked.getD 2 default) (k: ∀j∈s.told,key j∉s.wait.map key/\key j∉s.done.map key) (l: ∀j∈s.done,key j∉s.wait.map key):rU c s:=by
 refine Qy f g h b.sorted d.sorted (fun j a=> ?_) (Jn b.sorted d.sorted e.once k l) i (fun j a=>by simpa using b.rsp j a) fun j a=> ?_
 ·simp only[akL] at a;rcases a with(a|a)|a;·exact b.inA j a
  ·exact d.inA j a
  ·exact e.inA j a
 ·rcases akL.1 a with a|a;·have:=d.rsp j a;rwa [if_pos rfl] at this
  ·exact e.rsp j a
theorem rU.inA(h:rU c s): ∀j∈s.wait++s.done++s.told,InA s.asked j:=fun j a=>h.Ua (key j) (al1 a)
theorem rU.aiF(h:rU c s):Z0 c s.asked s.wait false:=⟨fun j a=>h.inA j (by simp[a]),h.lx,fun j a=>by simpa using h.Dj j a⟩
theorem rU.ai3(h:rU c s):Z0 c s.asked s.done true:=⟨fun j a=>h.inA j (by simp[a]),h.lz,fun j a=>by rw[if_pos rfl];exact h.vq j (by simp[a])⟩
theorem rU.ai1(h:rU c s):Co c s:=⟨fun j a=>h.inA j (by simp[a]),h.apart.1,fun j a=>h.vq j (by simp[a])⟩
theorem lh{l:List Int}{lo:Int}(h: ∀i,i<l.length->lo<=l.getD i default/\l.getD i default<=up):All l lo up:=fun x a=>by obtain⟨i,hi,rfl⟩:=akX.1 a;simpa [List.getD,hi] using h i hi
theorem wg{l:List Int}{lo:Int}(h:All l lo up){i:Nat}(hi:i<l.length):lo<=l.getD i default/\l.getD i default<=up:=h _ (by simp[List.getD,hi])
theorem iE{α:Type}[Inhabited α]{l:List α}{P:α->Prop}(h: ∀i,i<l.length->P (l.getD i default)): ∀x∈l,P x:=fun x a=>by obtain⟨i,hi,rfl⟩:=akX.1 a;simpa [List.getD,hi] using h i hi
structure eZ where
 who:Int
 n:Int
 left:Int
 deriving Inhabited,DecidableEq
structure cJ where
 next:Int
 queue:List Int
 out:List eZ
 last:Int
 deriving Inhabited,DecidableEq
structure lR where
 pipe:List eZ
 done:List Job
 last:Int
 deriving Inhabited,DecidableEq
structure CSt where
 words:List Int
 holds:List Int
 bE:List cJ
 bM:List lR
 told:List Job
 deriving Inhabited,DecidableEq
structure CIn where
 ready:List Bool
 iP:List Bool
 send:List Bool
 deriving Inhabited,DecidableEq
def iR(m:List Rng)(q:Req):Int:=if eD m (bN q.addr q.many q.wrap)<0 then 3 else (m.getD (eD m (bN q.addr q.many q.wrap)).toNat default).ZU
def aL(s:CSt)(k:Nat):cJ:=s.bE.getD k default
def aU(s:CSt)(k:Nat):lR:=s.bM.getD k default
def cR(l:List Job):List Job:=l.foldl wP []
def gI(s:CSt)(k:Nat):List Job:=(aL s k).queue.map fun n=>⟨k,n,kL⟩
def eX(s:CSt)(k:Nat):List Job:=(aU s k).pipe.map fun j=>⟨j.who,j.n,kL⟩
def pN(s:CSt):List Job:=(List.range s.bE.length).flatMap (gI s)++(List.range s.bM.length).flatMap (eX s)
def tP(s:CSt):List Job:=(List.range s.bM.length).flatMap fun k=>(aU s k).done
def dH(s:CSt):TSt:=⟨s.words,s.holds,s.bE.map (·.next),cR (pN s),cR (tP s),s.told⟩
def K9{α:Type}(l:List α)(k:Nat):List α:=l.take k++l.drop (k+1)
def isC(n:Int)(j:eZ):Bool:=decide (j.n=n)
def W1(l:List eZ)(n:Int):List eZ:=K9 l (bR (isC n) l).toNat
inductive Mic where
 |tell (who st:Nat)
 |tick (st:Nat)
 |work (st:Nat)
 |adm (who st:Nat)
 |ask (who:Nat)
def SF(c:Cfg)(s:CSt)(who st:Nat):Prop:=0<(aL s who).queue.length/\(aL s who).out.length<4/\iR c.map (bO c who ((aL s who).queue.getD 0 default))=st/\
 ∀j∈(aL s who).out,(bO c who j.n).id=(bO c who ((aL s who).queue.getD 0 default)).id->j.left=st
instance {c:Cfg} {s:CSt} {who st:Nat}:Decidable (SF c s who st):=by unfold SF;infer_instance
def ck(c:Cfg)(s:CSt):Mic->Prop
 | .tell who st=>who<3/\st<4/\0<(aU s st).done.length/\((aU s st).done.getD 0 default).who=who
 | .tick st=>st<4/\0<(aU s st).pipe.length/\0<((aU s st).pipe.getD 0 default).left
 | .work st=>st<4/\0<(aU s st).pipe.length/\ ¬0<((aU s st).pipe.getD 0 default).left/\(aU s st).done.length<2
 | .adm who st=>who<3/\st<4/\(aU s st).pipe.length<2/\SF c s who st
 | .ask who=>who<3/\(aL s who).queue.length<2/\(aL s who).next<(c.b7.getD who default).length
def o8(s:CSt)(st:Nat):Job:=(aU s st).done.getD 0 default
def dZ(s:CSt)(st:Nat):eZ:=(aU s st).pipe.getD 0 default
def O6(c:Cfg)(s:CSt)(st:Nat):(List Int×List Int)×Rsp:=doM c.map s.words s.holds (dZ s st).who (bO c (dZ s st).who (dZ s st).n)
def bS(c:Cfg)(s:CSt):Mic->CSt
 | .tell who st=>{s with told:=s.told++[o8 s st],bM:=s.bM.set st {aU s st with done:=(aU s st).done.drop 1},bE:=s.bE.set who {aL s who with out:=W1 (aL s who).out (o8 s st).n,last:=st}}
 | .tick st=>{s with bM:=s.bM.set st {aU s st with pipe:=(aU s st).pipe.set 0 {dZ s st with left:=(dZ s st).left-1}}}
 | .work st=>{s with words:=(O6 c s st).1.1,holds:=(O6 c s st).1.2,bM:=s.bM.set st {aU s st with pipe:=(aU s st).pipe.drop 1,done:=(aU s st).done++[⟨(dZ s st).who,(dZ s st).n,(O6 c s st).2⟩]}}
 | .adm who st=>{s with bE:=s.bE.set who {aL s who with queue:=(aL s who).queue.drop 1,out:=(aL s who).out++[⟨who,(aL s who).queue.getD 0 default,st⟩]},bM:=s.bM.set st {aU s st with pipe:=(aU s st).pipe++[⟨who,(aL s who).queue.getD 0 default,c.lat.getD st default⟩],last:=who}}
 | .ask who=>{s with bE:=s.bE.set who {aL s who with queue:=(aL s who).queue++[(aL s who).next],next:=(aL s who).next+1}}
def JE(s:CSt):Mic->List Ev
 | .tell who st=>[⟨3,who,(o8 s st).n⟩]
 | .work st=>[⟨2,(dZ s st).who,(dZ s st).n⟩]
 | .ask who=>[⟨1,who,(aL s who).next⟩]
 |_=>[]
theorem iT(l:List Job):(cR l).Perm l:=by
 have h: ∀(l acc:List Job),(l.foldl wP acc).Perm (acc++l):=by
  intro l
  induction l with
  |nil=>intro acc;simp
  |cons x l a=>intro acc;simp only[List.foldl_cons];refine(a _).trans ?_;refine((sB acc x).append_right l).trans ?_;simpa using amG.symm
 simpa [cR] using h l []
theorem Ea(a:(l.map key).Nodup):jF (cR l):=by
 have h: ∀(l acc:List Job),jF acc->((acc++l).map key).Nodup->jF (l.foldl wP acc):=by
  intro l
  induction l with
  |nil=>intro acc hs _;exact hs
  |cons x l b=>intro acc hs a;simp only[List.foldl_cons];have hp:(wP acc x++l).Perm (acc++x::l):=((sB acc x).append_right l).trans (by simpa using amG.symm);refine b _ (QC hs fun hm=> ?_) ((hp.map key).nodup_iff.2 a);rw[akQ,alS] at a;exact a.2.2 _ hm (key x) (by simp) rfl
 exact h l [] List.Pairwise.nil (by simpa using a)
theorem SH{a:List Job}(hs:jF a)(hp:l.Perm a):cR l=a:=xa (Ea ((hp.map key).nodup_iff.2 (JN hs))) hs fun x=>((iT l).trans hp).mem_iff
theorem abY{β:Type}{n:Nat}(e:k<n): ∃a b:List Nat,List.range n=a++k::b/\ ∀f g:Nat->List β,(∀i,i≠k->f i=g i)->a.flatMap f=a.flatMap g/\b.flatMap f=b.flatMap g:=by
 obtain⟨a,b,h⟩:=List.append_of_mem (alP.2 e);have d:(List.range n).Nodup:=List.nodup_range;rw[h,alS] at d;obtain⟨m,j,l⟩:=d;refine⟨a,b,h,fun f g c=>⟨?_,?_⟩⟩;·simp only[List.flatMap_def];congr 1;exact alH fun i hi=>c i fun he=>l i hi k (by simp) he
 ·simp only[List.flatMap_def];congr 1;exact alH fun i hi=>c i fun he=>(alG.1 j).1 (he▸hi)
theorem BD{β:Type}[DecidableEq β]{n:Nat}(d:k<n){f g:Nat->List β}(c: ∀i,i≠k->f i=g i)(z:β):((List.range n).flatMap f).count z+(g k).count z=((List.range n).flatMap g).count z+(f k).count z:=by obtain⟨a,b,e,h⟩:=abY (β:=β) d;obtain⟨j,l⟩:=h f g c;rw[e];simp only[List.flatMap_append,am5,amH];rw[j,l];omega
theorem G5{α:Type}[Inhabited α]{l:List α}{i:Nat}{x:α}(a:k<l.length):(l.set k x).getD i default=if i=k then x else l.getD i default:=by
 simp only[List.getD,al5];by_cases h:k=i;·subst h;simp[a]
 ·simp[h,Ne.symm h,eq_comm]
structure gV(c:Cfg)(who:Nat)(p:cJ):Prop where
 next:0<=p.next/\p.next<=(c.b7.getD who default).length
 ql:p.queue.length<=2/\(p.queue.length:Int)<=p.next
 ol:p.out.length<=4
 last:0<=p.last/\p.last<=3
 queue: ∀i,i<p.queue.length->p.queue.getD i default=p.next-p.queue.length+i
 out: ∀j∈p.out,j.who=who/\(0<=j.n/\j.n<p.next-p.queue.length)/\j.left=iR c.map (bO c who j.n)
 Gq:p.out.Pairwise fun a b=>a.n<b.n
 Rs: ∀a∈p.out,∀b∈p.out,(bO c who a.n).id=(bO c who b.n).id->a.left=b.left
def gL(v:lR):List (Int×Int):=v.done.map key++v.pipe.map fun j=>(j.who,j.n)
structure rP(c:Cfg)(s:CSt)(st:Nat):Prop where
 pl:(aU s st).pipe.length<=2
 dl:(aU s st).done.length<=2
 last:0<=(aU s st).last/\(aU s st).last<=2
 inc:(gL (aU s st)).Pairwise fun a b=>a.1=b.1->a.2<b.2
 out: ∀x∈gL (aU s st),(0<=x.1/\x.1<=2)/\ ∃j∈(aL s x.1.toNat).out,j.n=x.2/\j.left=st
 rsp: ∀j∈(aU s st).done,y4 c j
 left: ∀i,i<(aU s st).pipe.length->(0<=((aU s st).pipe.getD i default).left/\((aU s st).pipe.getD i default).left<=c.lat.getD st default)/\(0<i->((aU s st).pipe.getD i default).left=c.lat.getD st default)
def lO(s:CSt)(k:Nat):Nat:=(aU s k).pipe.length+(aU s k).done.length
structure COk(c:Cfg)(s:CSt):Prop where
 atm:mg s.words s.holds
 pl:s.bE.length=3
 sl:s.bM.length=4
 port: ∀k,k<3->gV c k (aL s k)
 slv: ∀k,k<4->rP c s k
 count:(aL s 0).out.length+(aL s 1).out.length+(aL s 2).out.length=lO s 0+lO s 1+lO s 2+lO s 3
 st:rU c (dH s)
theorem TI{s:CSt}:j∈pN s↔(∃k,k<s.bE.length/\ ∃m∈(aL s k).queue,j=⟨k,m,kL⟩)\/(∃st,st<s.bM.length/\ ∃x∈(aU s st).pipe,j=⟨x.who,x.n,kL⟩):=by
 unfold pN gI eX;simp only[akL,amL,alP,akJ];constructor
 ·rintro(⟨k,a,m,hm,rfl⟩|⟨st,hs,x,b,rfl⟩);·exact .inl ⟨k,a,m,hm,rfl⟩
  ·exact .inr ⟨st,hs,x,b,rfl⟩
 ·rintro(⟨k,a,m,hm,rfl⟩|⟨st,hs,x,b,rfl⟩);·exact .inl ⟨k,a,m,hm,rfl⟩
  ·exact .inr ⟨st,hs,x,b,rfl⟩
theorem TM{s:CSt}:j∈tP s↔∃st,st<s.bM.length/\j∈(aU s st).done:=by unfold tP;simp only[amL,alP]
theorem gV.asks{who:Nat}{p:cJ}(h:gV c who p)(hw:who<3){n:Int}(a:0<=n)(b:n<p.next):rI c who n:=by have:=h.next;refine⟨by omega,a,?_⟩;rw[Int.toNat_natCast];omega
theorem gV.qIn{who:Nat}{p:cJ}(h:gV c who p){m:Int}(hm:m∈p.queue):p.next-p.queue.length<=m/\m<p.next:=by obtain⟨i,hi,rfl⟩:=akX.1 hm;have:=h.queue i hi;simp only[List.getD,hi,akD,Option.getD_some] at this;omega
theorem COk.vIn{s:CSt}(h:COk c s){st:Nat}(hs:st<4){x:Int×Int}(a:x∈gL (aU s st)):(0<=x.1/\x.1<=2)/\0<=x.2/\x.2<(aL s x.1.toNat).next-(aL s x.1.toNat).queue.length:=by obtain⟨b,j,d,e,f⟩:=(h.slv st hs).out x a;have:=(h.port x.1.toNat (by omega)).out j d;exact⟨b,by omega,by omega⟩
theorem COk.same{s:CSt}(h:COk c s){st a:Nat}(hs:st<4)(d:a<4){x y:Int×Int}(e:x∈gL (aU s st))(f:y∈gL (aU s a))(he:x.1=y.1)(hi:(bO c x.1 x.2).id=(bO c y.1 y.2).id):st=a:=by
 obtain⟨n,j,g,i,o⟩:=(h.slv st hs).out x e;obtain⟨p,k,b,l,q⟩:=(h.slv a d).out y f;have hp:=h.port x.1.toNat (by omega);rw[<-he] at b
 have:=hp.Rs j g k b (by
  have m:((x.1.toNat:Nat):Int)=x.1:=by omega
  rw[m,i,l,hi,he])
 omega
theorem km{v:lR}{x:eZ}(h:x∈v.pipe):(x.who,x.n)∈gL v:=alT _ (akJ.2 ⟨x,h,rfl⟩)
theorem sx{v:lR}{x:Job}(h:x∈v.done):key x∈gL v:=alI _ (al1 h)
theorem lV{α:Type}[Inhabited α]{l:List α}(h:0<l.length):l=l.getD 0 default::l.drop 1:=by
 cases l with
 |nil=>simp at h
 |cons x l=>simp
theorem IH:j∈cR l↔j∈l:=(iT l).mem_iff
theorem Wh{s:CSt}(a:k<s.bE.length):(dH s).asked.getD k default=(aL s k).next:=by simp[dH,aL,List.getD,a]
theorem Fh{s:CSt}(h:COk c s){m:Mic}(E:ck c s m): ∀e∈JE s m,Fg c (dH s) e=0:=by
 intro e he;have J:=h.pl;have K:=h.sl
 cases m with
 |tick st=>simp[JE] at he
 |adm who st=>simp[JE] at he
 |ask who=>
  simp only[JE,akT] at he;subst he;obtain⟨u,v,F⟩:=E;have hp:=h.port who u;have i:rI c (who:Int) (aL s who).next:=by refine⟨by omega,hp.next.1,?_⟩;rw[Int.toNat_natCast];omega
  unfold Fg;dsimp only;rw[if_neg (by exact fun C=>C ⟨i,by omega,by omega⟩),if_pos rfl,if_neg];rw[Int.toNat_natCast,Wh (by omega)];simp
 |work st=>
  simp only[JE,akT] at he;subst he;obtain⟨u,v,F,N⟩:=E;have j:dZ s st∈(aU s st).pipe:=bL v;have B:=km j;obtain⟨z,p,q⟩:=h.vIn u B;dsimp only at z p q;have hp:=h.port (dZ s st).who.toNat (by omega);have L:(((dZ s st).who.toNat:Nat):Int)=(dZ s st).who:=by omega
  have i:rI c (dZ s st).who (dZ s st).n:=by have:=hp.asks (n:=(dZ s st).n) (by omega) p (by have:=hp.ql;omega);rwa [L] at this
  have A: ¬bR (iI (dZ s st).who (dZ s st).n) (dH s).wait<0:=by have:0<=bR (iI (dZ s st).who (dZ s st).n) (dH s).wait:=uJ.2 (akJ.2 ⟨⟨(dZ s st).who,(dZ s st).n,kL⟩,IH.2 (TI.2 (.inr ⟨st,by omega,dZ s st,j,rfl⟩)),rfl⟩);omega
  unfold Fg;dsimp only;rw[if_neg (by exact fun C=>C ⟨i,by omega,by omega⟩),if_neg (by omega),if_pos rfl,if_neg A,if_neg];rw[eA];rintro⟨x,D,r⟩;obtain⟨⟨a,d⟩,b⟩:=of_decide_eq_true r;dsimp only at a d b;rcases TI.1 (IH.1 D) with⟨k,G,m,hm,rfl⟩|⟨g,w,y,o,rfl⟩
  ·dsimp only at a d b;have M:=(h.port k (by omega)).qIn hm;have:(dZ s st).who.toNat=k:=(by omega);rw[this] at q;omega
  ·dsimp only at a d b;have t:=h.same (by omega) u (km o) B a b;subst t;have f:=(amC.1 (h.slv g u).inc).2.1;rw[lV v,akP,alD] at f;rw[lV v] at o;rcases akK.1 o with rfl|o;·unfold dZ at d;omega
   ·have:=f.1 (y.who,y.n) (akJ.2 ⟨y,o,rfl⟩);dsimp only at this;unfold dZ at a d;have:=this a.symm;omega
 |tell who st=>
  simp only[JE,akT] at he;subst he;obtain⟨H,u,v,F⟩:=E;have j:o8 s st∈(aU s st).done:=bL v;have B:=sx j;have l:(o8 s st).who=who:=F;obtain⟨z,p,q⟩:=h.vIn u B;simp only[key] at z p q;rw[l,Int.toNat_natCast] at q;have hp:=h.port who H;have i:rI c (who:Int) (o8 s st).n:=hp.asks H p (by have:=hp.ql;omega);have A: ¬bR (iI who (o8 s st).n) (dH s).done<0:=by have:0<=bR (iI who (o8 s st).n) (dH s).done:=uJ.2 (akJ.2 ⟨o8 s st,IH.2 (TM.2 ⟨st,by omega,j⟩),by simp[key,l]⟩);omega
  have f:=(h.slv st u).inc;unfold gL at f;rw[lV v,akP,List.cons_append,alD] at f;unfold Fg;dsimp only;rw[if_neg (by exact fun C=>C ⟨i,by omega,by omega⟩),if_neg (by omega),if_neg (by omega),if_neg A,if_neg];rw[eA,eA];rintro(⟨x,D,r⟩|⟨x,D,r⟩)
  ·obtain⟨⟨a,d⟩,b⟩:=of_decide_eq_true r;dsimp only at a d b;rcases TI.1 (IH.1 D) with⟨k,G,m,hm,rfl⟩|⟨g,w,y,o,rfl⟩
   ·dsimp only at a d b;have M:=(h.port k (by omega)).qIn hm;have:who=k:=(by omega);subst this;omega
   ·dsimp only at a d b;have t:=h.same (by omega) u (km o) B (by simp only[key];rw[l];exact a) (by simp only[key];rw[l];exact b);subst t;have:=f.1 (y.who,y.n) (alT _ (akJ.2 ⟨y,o,rfl⟩));have:=this (by show (o8 s g).who=y.who;rw[l,a]);have I:(key ((aU s g).done.getD 0 default)).2=(o8 s g).n:=rfl;dsimp only at this;omega
  ·obtain⟨⟨a,d⟩,b⟩:=of_decide_eq_true r;dsimp only at a d b;obtain⟨g,w,o⟩:=TM.1 (IH.1 D);have t:=h.same (by omega) u (sx o) B (by simp only[key];rw[l];exact a) (by simp only[key];rw[l];rw[a] at b;rw[a];exact b);subst t;rw[lV v] at o;rcases akK.1 o with rfl|o;·unfold o8 at d;omega
   ·have:=f.1 (key x) (alI _ (al1 o));have:=this (by show (o8 s g).who=x.who;rw[l,a]);have I:(key ((aU s g).done.getD 0 default)).2=(o8 s g).n:=rfl;simp only[key] at this I;omega
theorem zk(h:(l.map key).Nodup){a b:Job}(e:a∈l)(f:b∈l)(he:key a=key b):a=b:=by
 induction l with
 |nil=>simp at e
 |cons x l j=>
  rw[akP,alG] at h;rcases akK.1 e with g|i
  ·rcases akK.1 f with c|d;·rw[g,c]
   ·exact absurd (akJ.2 ⟨b,d,by rw[<-he,g]⟩) h.1
  ·rcases akK.1 f with c|d;·exact absurd (akJ.2 ⟨a,i,by rw[he,c]⟩) h.1
   ·exact j h.2 i d
theorem cH{s s':CSt}{who:Nat}{p:cJ}(h:s'.bE=s.bE.set who p)(hw:who<s.bE.length)(k:Nat):aL s' k=if k=who then p else aL s k:=by unfold aL;rw[h,G5 hw]
theorem dF{s s':CSt}{st:Nat}{v:lR}(h:s'.bM=s.bM.set st v)(hw:st<s.bM.length)(k:Nat):aU s' k=if k=st then v else aU s k:=by unfold aU;rw[h,G5 hw]
theorem Pj{s:CSt}(G:bI c)(h:COk c s){m:Mic}(D:ck c s m):dH (bS c s m)=runM c (dH s) (JE s m):=by
 have Q:=h.pl;have R:=h.sl;have t:=Fh h D
 cases m with
 |tick st=>
  obtain⟨F,v,E⟩:=D;have p:=fun k=>dF (s:=s) (s':=bS c s (.tick st)) rfl (by omega:st<s.bM.length) k;have w: ∀k,aL (bS c s (.tick st)) k=aL s k:=fun k=>rfl
  have S: ∀k,eX (bS c s (.tick st)) k=eX s k:=fun k=>by
   unfold eX;rw[p];split;·rename_i b;subst b;rw[lV v];simp[dZ]
   ·rfl
  have H: ∀k,(aU (bS c s (.tick st)) k).done=(aU s k).done:=fun k=>by
   rw[p];split;·rename_i b;subst b;rfl
   ·rfl
  have hl:(bS c s (.tick st)).bM.length=s.bM.length:=by simp[bS]
  simp only[JE,runM,List.foldl_nil,dH,TSt.mk.injEq];refine⟨rfl,rfl,rfl,?_,?_,rfl⟩;·congr 1;unfold pN;rw[hl];simp only[List.flatMap_def];congr 2;exact alH fun k _=>S k
  ·congr 1;unfold tP;rw[hl];simp only[List.flatMap_def];congr 1;exact alH fun k _=>H k
 |adm who st=>
  obtain⟨P,F,v,E⟩:=D;have p:=fun k=>dF (s:=s) (s':=bS c s (.adm who st)) rfl (by omega:st<s.bM.length) k;have w:=fun k=>cH (s:=s) (s':=bS c s (.adm who st)) rfl (by omega:who<s.bE.length) k;have hl:(bS c s (.adm who st)).bM.length=s.bM.length:=by simp[bS]
  have u:(bS c s (.adm who st)).bE.length=s.bE.length:=by simp[bS]
  have H: ∀k,(aU (bS c s (.adm who st)) k).done=(aU s k).done:=fun k=>by
   rw[p];split;·rename_i b;subst b;rfl
   ·rfl
  simp only[JE,runM,List.foldl_nil,dH,TSt.mk.injEq];refine⟨rfl,rfl,?_,?_,?_,rfl⟩
  ·apply anK (by simp[bS]);intro i d j;simp only[bS,akU,akI] at d;simp only[bS,anL,List.getElem_set];split;·rename_i b;subst b;simp[aL,List.getD,d]
   ·rfl
  ·apply SH h.st.lx;refine List.Perm.trans ?_ (iT _).symm;rw[amR];intro z;have I:=BD (k:=who) (n:=s.bE.length) (by omega) (f:=gI (bS c s (.adm who st))) (g:=gI s) (fun i hi=>by unfold gI;rw[w,if_neg hi]) z;have A:=BD (k:=st) (n:=s.bM.length) (by omega) (f:=eX (bS c s (.adm who st))) (g:=eX s) (fun i hi=>by unfold eX;rw[p,if_neg hi]) z;have J:gI (bS c s (.adm who st)) who=((aL s who).queue.drop 1).map fun n=>⟨who,n,kL⟩:=by unfold gI;rw[w,if_pos rfl]
   have T:gI s who=⟨who,(aL s who).queue.getD 0 default,kL⟩::((aL s who).queue.drop 1).map fun n=>⟨who,n,kL⟩:=by
    unfold gI;conv=>lhs;rw[lV E.1]
    rfl
   have B:eX (bS c s (.adm who st)) st=eX s st++[⟨who,(aL s who).queue.getD 0 default,kL⟩]:=(by unfold eX;rw[p,if_pos rfl];simp);rw[J,T] at I;rw[B] at A;unfold pN;rw[hl,u];simp only[amH,amS,List.count_nil] at*;omega
  ·congr 1;unfold tP;rw[hl];simp only[List.flatMap_def];congr 1;exact alH fun k _=>H k
 |ask who=>
  obtain⟨P,F,v⟩:=D;have w:=fun k=>cH (s:=s) (s':=bS c s (.ask who)) rfl (by omega:who<s.bE.length) k;have u:(bS c s (.ask who)).bE.length=s.bE.length:=by simp[bS]
  have r:=TV G h.st (t ⟨1,who,(aL s who).next⟩ (akT.2 rfl));have y:qF c (dH s) ⟨1,who,(aL s who).next⟩= {dH s with asked:=(dH s).asked.set who ((aL s who).next+1),wait:=wP (dH s).wait ⟨who,(aL s who).next,kL⟩}:=by simp[qF]
  have l:=r.lx;rw[y] at l;simp only[JE];rw[G3,y];simp only[runM,List.foldl_nil,dH,TSt.mk.injEq];refine⟨rfl,rfl,?_,?_,rfl,rfl⟩;·simp[bS,al8]
  ·apply SH l;refine List.Perm.trans ?_ ((sB _ _).trans ((iT _).cons _)).symm;rw[amR];intro z;have I:=BD (k:=who) (n:=s.bE.length) (by omega) (f:=gI (bS c s (.ask who))) (g:=gI s) (fun i hi=>by unfold gI;rw[w,if_neg hi]) z;have J:gI (bS c s (.ask who)) who=gI s who++[⟨who,(aL s who).next,kL⟩]:=(by unfold gI;rw[w,if_pos rfl];simp);have K:(List.range (bS c s (.ask who)).bM.length).flatMap (eX (bS c s (.ask who)))=(List.range s.bM.length).flatMap (eX s):=rfl;rw[J] at I;unfold pN;rw[u,K];simp only[amH,amS,List.count_nil] at*;omega
 |work st=>
  obtain⟨F,v,E,V⟩:=D;have p:=fun k=>dF (s:=s) (s':=bS c s (.work st)) rfl (by omega:st<s.bM.length) k;have hl:(bS c s (.work st)).bM.length=s.bM.length:=by simp[bS]
  have hw:=t ⟨2,(dZ s st).who,(dZ s st).n⟩ (akT.2 rfl);have r:=TV G h.st hw;have L:=(ea hw).2
  have C: ¬bR (iI (dZ s st).who (dZ s st).n) (dH s).wait<0:=by
   rcases L with⟨b,_⟩|⟨b,hi⟩|⟨b,_⟩
   ·exact absurd b (by dsimp only;decide)
   ·exact hi
   ·exact absurd b (by dsimp only;decide)
  obtain⟨d,j⟩:=xF C;have y:qF c (dH s) ⟨2,(dZ s st).who,(dZ s st).n⟩= {dH s with words:=(O6 c s st).1.1,holds:=(O6 c s st).1.2,wait:=kl (dH s).wait (bR (iI (dZ s st).who (dZ s st).n) (dH s).wait).toNat,done:=wP (dH s).done ⟨(dZ s st).who,(dZ s st).n,(O6 c s st).2⟩}:=by simp only[qF,O6,dH,if_true,if_false,Int.reduceEq]
  have l:=r.lx;have o:=r.lz;rw[y] at l o;simp only[JE];rw[G3,y];simp only[runM,List.foldl_nil];have q:(dH s).wait.getD (bR (iI (dZ s st).who (dZ s st).n) (dH s).wait).toNat default=⟨(dZ s st).who,(dZ s st).n,kL⟩:=by have hm:=bL d;have hr:=h.st.Dj _ hm;generalize (dH s).wait.getD (bR (iI (dZ s st).who (dZ s st).n) (dH s).wait).toNat default=x at j hr;obtain⟨W,x2,X⟩:=x;simp only[key,Prod.mk.injEq] at j;dsimp only at hr;rw[j.1,j.2,hr]
  have e:=LV d;rw[q] at e
  have M:cR (pN (bS c s (.work st)))=kl (dH s).wait (bR (iI (dZ s st).who (dZ s st).n) (dH s).wait).toNat:=by
   apply SH l;refine List.Perm.cons_inv (a:=⟨(dZ s st).who,(dZ s st).n,kL⟩) ?_;refine List.Perm.trans ?_ ((iT _).symm.trans e);rw[amR];intro z;have A:=BD (k:=st) (n:=s.bM.length) (by omega) (f:=eX (bS c s (.work st))) (g:=eX s) (fun i hi=>by unfold eX;rw[p,if_neg hi]) z
   have B:eX s st=⟨(dZ s st).who,(dZ s st).n,kL⟩::eX (bS c s (.work st)) st:=by
    unfold eX;rw[p,if_pos rfl];conv=>lhs;rw[lV v]
    rfl
   have K:(List.range (bS c s (.work st)).bE.length).flatMap (gI (bS c s (.work st)))=(List.range s.bE.length).flatMap (gI s):=rfl;rw[B] at A;unfold pN;rw[hl,K];simp only[amH,amS,List.count_nil] at*;omega
  have N:cR (tP (bS c s (.work st)))=wP (dH s).done ⟨(dZ s st).who,(dZ s st).n,(O6 c s st).2⟩:=by apply SH o;refine List.Perm.trans ?_ ((sB _ _).trans ((iT _).cons _)).symm;rw[amR];intro z;have A:=BD (k:=st) (n:=s.bM.length) (by omega) (f:=fun k=>(aU (bS c s (.work st)) k).done) (g:=fun k=>(aU s k).done) (fun i hi=>by rw[p,if_neg hi]) z;have B:(aU (bS c s (.work st)) st).done=(aU s st).done++[⟨(dZ s st).who,(dZ s st).n,(O6 c s st).2⟩]:=(by rw[p,if_pos rfl]);rw[B] at A;unfold tP;rw[hl];simp only[amH,amS,List.count_nil] at*;omega
  show TSt.mk _ _ _ (cR (pN (bS c s (.work st)))) (cR (tP (bS c s (.work st)))) _=_;rw[M,N];rfl
 |tell who st=>
  obtain⟨P,F,v,E⟩:=D;have O:(o8 s st).who=who:=E;have p:=fun k=>dF (s:=s) (s':=bS c s (.tell who st)) rfl (by omega:st<s.bM.length) k;have w:=fun k=>cH (s:=s) (s':=bS c s (.tell who st)) rfl (by omega:who<s.bE.length) k;have hl:(bS c s (.tell who st)).bM.length=s.bM.length:=by simp[bS]
  have u:(bS c s (.tell who st)).bE.length=s.bE.length:=by simp[bS]
  have hw:=t ⟨3,who,(o8 s st).n⟩ (akT.2 rfl);have r:=TV G h.st hw;have L:=(ea hw).2
  have C: ¬bR (iI who (o8 s st).n) (dH s).done<0:=by
   rcases L with⟨b,_⟩|⟨b,hi⟩|⟨b,hi⟩
   ·exact absurd b (by dsimp only;decide)
   ·exact absurd b (by dsimp only;decide)
   ·exact hi
  obtain⟨d,j⟩:=xF C;have y:qF c (dH s) ⟨3,who,(o8 s st).n⟩= {dH s with told:=(dH s).told++[(dH s).done.getD (bR (iI who (o8 s st).n) (dH s).done).toNat default],done:=kl (dH s).done (bR (iI who (o8 s st).n) (dH s).done).toNat}:=by simp only[qF,if_false,Int.reduceEq]
  have o:=r.lz;rw[y] at o;simp only[JE];rw[G3,y];simp only[runM,List.foldl_nil];have q:(dH s).done.getD (bR (iI who (o8 s st).n) (dH s).done).toNat default=o8 s st:=by refine zk (JN h.st.lz) (bL d) (IH.2 (TM.2 ⟨st,by omega,bL v⟩)) ?_;rw[j];simp[key,O]
  have e:=LV d;rw[q] at e
  have M:cR (pN (bS c s (.tell who st)))=(dH s).wait:=by
   show cR _=cR _;congr 1;unfold pN;rw[hl,u];simp only[List.flatMap_def];congr 2
   ·exact alH fun k _=>by
     unfold gI;rw[w];split;·rename_i b;subst b;rfl
     ·rfl
   ·exact alH fun k _=>by
     unfold eX;rw[p];split;·rename_i b;subst b;rfl
     ·rfl
  have N:cR (tP (bS c s (.tell who st)))=kl (dH s).done (bR (iI who (o8 s st).n) (dH s).done).toNat:=by apply SH o;apply List.Perm.cons_inv (a:=o8 s st);refine List.Perm.trans ?_ ((iT _).symm.trans e);rw[amR];intro z;have A:=BD (k:=st) (n:=s.bM.length) (by omega) (f:=fun k=>(aU (bS c s (.tell who st)) k).done) (g:=fun k=>(aU s k).done) (fun i hi=>by rw[p,if_neg hi]) z;have B:(aU s st).done=o8 s st::(aU (bS c s (.tell who st)) st).done:=(by rw[p,if_pos rfl];exact lV v);rw[B] at A;unfold tP;rw[hl];simp only[amH,amS,List.count_nil] at*;omega
  have U:(bS c s (.tell who st)).bE.map (·.next)=s.bE.map (·.next):=by
   apply anK (by simp[bS]);intro i d j;simp only[bS,akU,akI] at d;simp only[bS,anL,List.getElem_set];split;·rename_i b;subst b;simp[aL,List.getD,d]
   ·rfl
  show TSt.mk _ _ ((bS c s (.tell who st)).bE.map (·.next)) (cR (pN (bS c s (.tell who st)))) (cR (tP (bS c s (.tell who st)))) (s.told++[o8 s st])=_;rw[M,N,U,q];rfl
end Go.AM
namespace Go.AM
open Go.RowKit
end Go.AM
