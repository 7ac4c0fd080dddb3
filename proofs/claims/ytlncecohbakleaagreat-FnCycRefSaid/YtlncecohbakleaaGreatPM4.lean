/- Rules and contracts. -/
import Derived.Test.YtlncecohbakleaaGreatPM3
import Derived.OpenShut
set_option linter.unusedVariables false
set_option linter.unusedSimpArgs false
set_option maxRecDepth 100000
set_option maxHeartbeats 8000000
namespace Go.AM
structure Rng where
 lo:Int
 hi:Int
 W5:Int
 only:Bool
 deriving Inhabited,DecidableEq
structure Req where
 id:Int
 kind:Int
 addr:Int
 many:Int
 wrap:Bool
 data:List Int
 lanes:List Int
 deriving Inhabited,DecidableEq
structure Rsp where
 id:Int
 code:Int
 data:List Int
 deriving Inhabited,DecidableEq
structure Job where
 who:Int
 n:Int
 rsp:Rsp
 deriving Inhabited,DecidableEq
structure Ev where
 kind:Int
 who:Int
 n:Int
 deriving Inhabited,DecidableEq
structure Cfg where
 map:List Rng
 lat:List Int
 cH:List (List Req)
 deriving Inhabited,DecidableEq
theorem aP(x:Int):(aF x).length=1/\(aF x).all D1.eW=true:=⟨rfl,rfl⟩
def cY(r:Rng):List D1:=[cI r.lo,cI r.hi,cI r.W5,cB r.only]
variable{r:Rng}
theorem Qn:(cY r).length=4:=rfl
theorem Cy:(cY r).take 1=[cI r.lo]:=rfl
theorem Ck:(cY r).drop 1=[cI r.hi,cI r.W5,cB r.only]:=rfl
theorem Ep:(cY r).take 2=[cI r.lo,cI r.hi]:=rfl
theorem Ci:(cY r).drop 2=[cI r.W5,cB r.only]:=rfl
theorem Gn:(cY r).take 3=[cI r.lo,cI r.hi,cI r.W5]:=rfl
theorem Er:(cY r).drop 3=[cB r.only]:=rfl
theorem Ce:(cY r).take 4=cY r:=rfl
theorem Cs:(cY r).drop 4=[]:=rfl
variable{cs:List D1}{k:Nat}
theorem Jr:kD cs (k+1) (cY r)=kD cs (k+1) [cI r.lo,cI r.hi,cI r.W5,cB r.only]:=rfl
theorem PB(r:Rng):(cY r).length=4/\(cY r).all D1.eW=true:=⟨rfl,rfl⟩
attribute [go_sem] Qn Cy Ck Ep Ci Gn Er Ce Cs Jr
def dT(q:Req):List D1:=[cI q.id,cI q.kind,cI q.addr,cI q.many,cB q.wrap,.isl (q.data.map aF),.isl (q.lanes.map aF)]
variable{q:Req}
theorem Rw:(dT q).length=7:=rfl
theorem Gy:(dT q).take 1=[cI q.id]:=rfl
theorem Gb:(dT q).drop 1=[cI q.kind,cI q.addr,cI q.many,cB q.wrap,.isl (q.data.map aF),.isl (q.lanes.map aF)]:=rfl
theorem Gr:(dT q).take 2=[cI q.id,cI q.kind]:=rfl
theorem Ez:(dT q).drop 2=[cI q.addr,cI q.many,cB q.wrap,.isl (q.data.map aF),.isl (q.lanes.map aF)]:=rfl
theorem Em:(dT q).take 3=[cI q.id,cI q.kind,cI q.addr]:=rfl
theorem Ef:(dT q).drop 3=[cI q.many,cB q.wrap,.isl (q.data.map aF),.isl (q.lanes.map aF)]:=rfl
theorem Fq:(dT q).take 4=[cI q.id,cI q.kind,cI q.addr,cI q.many]:=rfl
theorem Ha:(dT q).drop 4=[cB q.wrap,.isl (q.data.map aF),.isl (q.lanes.map aF)]:=rfl
theorem Fw:(dT q).take 5=[cI q.id,cI q.kind,cI q.addr,cI q.many,cB q.wrap]:=rfl
theorem Hj:(dT q).drop 5=[.isl (q.data.map aF),.isl (q.lanes.map aF)]:=rfl
theorem Cr:(dT q).take 6=[cI q.id,cI q.kind,cI q.addr,cI q.many,cB q.wrap,.isl (q.data.map aF)]:=rfl
theorem Gx:(dT q).drop 6=[.isl (q.lanes.map aF)]:=rfl
theorem Fc:(dT q).take 7=dT q:=rfl
theorem Hh:(dT q).drop 7=[]:=rfl
theorem Mz:kD cs (k+1) (dT q)=kD cs (k+1) [cI q.id,cI q.kind,cI q.addr,cI q.many,cB q.wrap,.isl (q.data.map aF),.isl (q.lanes.map aF)]:=rfl
theorem wb(q:Req):(dT q).length=7/\(dT q).all D1.eW=true:=⟨rfl,rfl⟩
attribute [go_sem] Rw Gy Gb Gr Ez Em Ef Fq Ha Fw Hj Cr Gx Fc Hh Mz
def lP(r:Rsp):List D1:=[cI r.id,cI r.code,.isl (r.data.map aF)]
theorem Pa{r:Rsp}:(lP r).length=3:=rfl
theorem Ej{r:Rsp}:(lP r).take 1=[cI r.id]:=rfl
theorem Fj{r:Rsp}:(lP r).drop 1=[cI r.code,.isl (r.data.map aF)]:=rfl
theorem Gi{r:Rsp}:(lP r).take 2=[cI r.id,cI r.code]:=rfl
theorem Fz{r:Rsp}:(lP r).drop 2=[.isl (r.data.map aF)]:=rfl
theorem Da{r:Rsp}:(lP r).take 3=lP r:=rfl
theorem Ed{r:Rsp}:(lP r).drop 3=[]:=rfl
theorem Lm{r:Rsp}:kD cs (k+1) (lP r)=kD cs (k+1) [cI r.id,cI r.code,.isl (r.data.map aF)]:=rfl
attribute [go_sem] Pa Ej Fj Gi Fz Da Ed Lm
def aL(j:Job):List D1:=[cI j.who,cI j.n,cI j.rsp.id,cI j.rsp.code,.isl (j.rsp.data.map aF)]
variable{j:Job}
theorem Ta:(aL j).length=5:=rfl
theorem Dy:(aL j).take 1=[cI j.who]:=rfl
theorem Et:(aL j).drop 1=[cI j.n,cI j.rsp.id,cI j.rsp.code,.isl (j.rsp.data.map aF)]:=rfl
theorem En:(aL j).take 2=[cI j.who,cI j.n]:=rfl
theorem Dx:(aL j).drop 2=[cI j.rsp.id,cI j.rsp.code,.isl (j.rsp.data.map aF)]:=rfl
theorem Cd:(aL j).take 3=[cI j.who,cI j.n,cI j.rsp.id]:=rfl
theorem Co:(aL j).drop 3=[cI j.rsp.code,.isl (j.rsp.data.map aF)]:=rfl
theorem Eu:(aL j).take 4=[cI j.who,cI j.n,cI j.rsp.id,cI j.rsp.code]:=rfl
theorem Cu:(aL j).drop 4=[.isl (j.rsp.data.map aF)]:=rfl
theorem Gm:(aL j).take 5=aL j:=rfl
theorem Ft:(aL j).drop 5=[]:=rfl
theorem Kd:kD cs (k+1) (aL j)=kD cs (k+1) [cI j.who,cI j.n,cI j.rsp.id,cI j.rsp.code,.isl (j.rsp.data.map aF)]:=rfl
theorem bC(j:Job):(aL j).length=5/\(aL j).all D1.eW=true:=⟨rfl,rfl⟩
attribute [go_sem] Ta Dy Et En Dx Cd Co Eu Cu Gm Ft Kd
def eEv(v:Ev):List D1:=[cI v.kind,cI v.who,cI v.n]
variable{v:Ev}
theorem Uc:(eEv v).length=3:=rfl
theorem Ni:(eEv v).take 1=[cI v.kind]:=rfl
theorem Js:(eEv v).drop 1=[cI v.who,cI v.n]:=rfl
theorem Kw:(eEv v).take 2=[cI v.kind,cI v.who]:=rfl
theorem Lc:(eEv v).drop 2=[cI v.n]:=rfl
theorem Ls:(eEv v).take 3=eEv v:=rfl
theorem Ke:(eEv v).drop 3=[]:=rfl
theorem Ov:kD cs (k+1) (eEv v)=kD cs (k+1) [cI v.kind,cI v.who,cI v.n]:=rfl
theorem MV(v:Ev):(eEv v).length=3/\(eEv v).all D1.eW=true:=⟨rfl,rfl⟩
attribute [go_sem] Uc Ni Js Kw Lc Ls Ke Ov
abbrev Prog:=List Req
def kX(p:Prog):List D1:=[.isl (p.map dT)]
theorem Iz{p:Prog}:(kX p).length=1:=rfl
theorem zb{p:Prog}:(kX p).take 1=[.isl (p.map dT)]:=rfl
theorem Bj{p:Prog}:(kX p).drop 1=[]:=rfl
theorem Gg{p:Prog}:kD cs (k+1) (kX p)=kD cs (k+1) [.isl (p.map dT)]:=rfl
theorem dt(p:Prog):(kX p).length=1/\(kX p).all D1.eW=true:=⟨rfl,rfl⟩
attribute [go_sem] Iz zb Bj Gg
def bO(c:Cfg):List D1:=[.isl (c.map.map cY),.isl (c.lat.map aF),.isl (c.cH.map kX)]
variable{c:Cfg}
theorem Oo:(bO c).length=3:=rfl
theorem Ff:(bO c).take 1=[.isl (c.map.map cY)]:=rfl
theorem Gv:(bO c).drop 1=[.isl (c.lat.map aF),.isl (c.cH.map kX)]:=rfl
theorem Ei:(bO c).take 2=[.isl (c.map.map cY),.isl (c.lat.map aF)]:=rfl
theorem Cw:(bO c).drop 2=[.isl (c.cH.map kX)]:=rfl
theorem Ec:(bO c).take 3=bO c:=rfl
theorem Gp:(bO c).drop 3=[]:=rfl
theorem Kt:kD cs (k+1) (bO c)=kD cs (k+1) [.isl (c.map.map cY),.isl (c.lat.map aF),.isl (c.cH.map kX)]:=rfl
theorem xv(c:Cfg):(bO c).length=3/\(bO c).all D1.eW=true:=⟨rfl,rfl⟩
attribute [go_sem] Oo Ff Gv Ei Cw Ec Gp Kt
def qG(addr many:Int)(wrap:Bool):Prop:=(many=1\/many=2\/many=4)/\(0<=addr/\addr<=63)/\(wrap=true\/addr+many-1<=63)
instance {addr many:Int} {wrap:Bool}:Decidable (qG addr many wrap):=by unfold qG;infer_instance
def inR(r:Rng)(a:Int):Bool:=decide (r.lo<=a/\a<=r.hi)
def bK{α:Type}(p:α->Bool)(l:List α):Int:=match l.findIdx? p with
 |some k=>k
 |none=>-1
theorem EE{α:Type}[Inhabited α]{p:α->Bool}{l:List α}(b:k<l.length)(h:p (l.getD k default)=true)(hinv: ∀i,i<k->p (l.getD i default)=false):bK p l=k:=by
 have:l.findIdx? p=some k:=by
  rw[afH];refine⟨b,by simpa [List.getD,b] using h,fun j c=> ?_⟩;have:=hinv j c;have a:j<l.length:=by omega
  simpa [List.getD,a] using this
 simp[bK,this]
theorem rU{α:Type}[Inhabited α]{p:α->Bool}{l:List α}(hinv: ∀i,i<l.length->p (l.getD i default)=false):bK p l= -1:=by
 have:l.findIdx? p=none:=by rw[agW];intro x a;obtain⟨i,hi,rfl⟩:=adS.1 a;have:=hinv i hi;simpa [List.getD,hi] using this
 simp[bK,this]
theorem S9{α:Type}{p:α->Bool}{l:List α}:bK p l<l.length:=by
 unfold bK;split;·rename_i k h;have:=(afH.1 h).1;omega
 ·omega
theorem Wn{α:Type}{p:α->Bool}{l:List α}: -1<=bK p l:=by unfold bK;split<;>omega
theorem bT{P:Nat->Prop}(h: ∀i,i<k->P i)(a:P k): ∀i,i<k+1->P i:=fun i hi=>by
 rcases agC.1 hi with hi|rfl;·exact h i hi
 ·exact a
def eT(l:List Rng)(all:List Int):Int:=if all.length=0 then-1 else if all.all (fun a=>decide (bK (inR · a) l=bK (inR · (all.getD 0 default)) l)) then bK (inR · (all.getD 0 default)) l else-1
variable{all:List Int}
theorem az{l:List Rng}(h:all.length=0):eT l all= -1:=by simp[eT,h]
theorem SN{l:List Rng}(h: ¬all.length=0)(hinv: ∀i,i<all.length->1<=i->bK (inR · (all.getD i default)) l=bK (inR · (all.getD 0 default)) l):eT l all=bK (inR · (all.getD 0 default)) l:=by
 unfold eT;rw[if_neg h,if_pos];rw[adK];intro a b;obtain⟨i,hi,rfl⟩:=adS.1 b;rcases aeO i with rfl|hp;·simp[List.getD,hi]
 ·have:=hinv i hi hp;simp only[List.getD,hi,ac8,Option.getD_some] at this;exact decide_eq_true this
theorem O0{l:List Rng}{i:Nat}(h:i<all.length)(b: ¬bK (inR · (all.getD i default)) l=bK (inR · (all.getD 0 default)) l):eT l all= -1:=by unfold eT;rw[if_neg (by omega),if_neg];rw[adK];intro a;have:=a (all.getD i default) (by simp[List.getD,h]);exact b (of_decide_eq_true this)
def wrM(q:Req):Bool:=decide (q.kind=2\/q.kind=4)
def bAt(addr many:Int)(wrap:Bool)(k:Nat):Int:=if wrap then addr-addr%many+(addr+k)%many else addr+k
def bQ(addr many:Int)(wrap:Bool):List Int:=if qG addr many wrap then (List.range many.toNat).map (bAt addr many wrap) else []
variable{addr many:Int}{wrap:Bool}
theorem W0(h:qG addr many wrap): ¬many=0/\0<many/\many<=4/\0<=addr/\addr<=63/\addr.tmod many=addr%many/\0<=addr%many/\addr%many<=addr:=by obtain⟨a,b,c⟩:=h;rw[aeJ (by omega)];rcases a with rfl|rfl|rfl<;>omega
theorem ur(h:qG addr many wrap)(k:Nat)(b:k<many.toNat):0<=(addr-(addr-addr%many)+k).tmod many/\(addr-(addr-addr%many)+k).tmod many<4/\addr-addr%many+(addr-(addr-addr%many)+k).tmod many=addr-addr%many+(addr+k)%many:=by obtain⟨a,c,d⟩:=h;rw[aeJ (by rcases a with rfl|rfl|rfl<;>omega)];rcases a with rfl|rfl|rfl<;>omega
variable{x:Int}
theorem ZD(h:x=bAt addr many wrap k):(List.range (k+1)).map (bAt addr many wrap)=(List.range k).map (bAt addr many wrap)++[x]:=by rw[ae4,adF,h];rfl
theorem Yv(h:qG addr many wrap)(c:k<many.toNat):0<=bAt addr many wrap k/\bAt addr many wrap k<=63:=by
 obtain⟨a,d,b⟩:=h;unfold bAt;split;·rcases a with rfl|rfl|rfl<;>omega
 ·rename_i hw;simp[hw] at b;omega
theorem ve: ∀a∈bQ addr many wrap,0<=a/\a<=63:=by
 intro a b;unfold bQ at b;split at b;·rename_i h;obtain⟨k,c,rfl⟩:=ac9.1 b;exact Yv h (aeS.1 c)
 ·simp at b
theorem zT(h:qG addr many wrap):(bQ addr many wrap).length=many.toNat:=by simp[bQ,h]
theorem FA:(bQ addr many wrap).length<=4:=by
 unfold bQ;split;·rename_i h;obtain⟨a,_⟩:=h;simp;rcases a with rfl|rfl|rfl<;>omega
 ·simp
theorem dU{α:Type}{p:α->Bool}{l:List α}:0<=bK p l↔∃x∈l,p x=true:=by
 unfold bK;split;·rename_i k h;obtain⟨a,b,_⟩:=afH.1 h;exact⟨fun _=>⟨_,aeT a,b⟩,fun _=>by omega⟩
 ·rename_i h;rw[agW] at h;exact⟨fun h=>by omega,fun⟨x,c,hp⟩=>by rw[h x c] at hp;cases hp⟩
structure TSt where
 words:List Int
 holds:List Int
 asked:List Int
 wait:List Job
 done:List Job
 told:List Job
 deriving Inhabited,DecidableEq
def eSt(s:TSt):List D1:=[.isl (s.words.map aF),.isl (s.holds.map aF),.isl (s.asked.map aF),.isl (s.wait.map aL),.isl (s.done.map aL),.isl (s.told.map aL)]
variable{s:TSt}
theorem Xh:(eSt s).length=6:=rfl
theorem Jm:(eSt s).take 1=[.isl (s.words.map aF)]:=rfl
theorem Kf:(eSt s).drop 1=[.isl (s.holds.map aF),.isl (s.asked.map aF),.isl (s.wait.map aL),.isl (s.done.map aL),.isl (s.told.map aL)]:=rfl
theorem Nn:(eSt s).take 2=[.isl (s.words.map aF),.isl (s.holds.map aF)]:=rfl
theorem Kz:(eSt s).drop 2=[.isl (s.asked.map aF),.isl (s.wait.map aL),.isl (s.done.map aL),.isl (s.told.map aL)]:=rfl
theorem Mi:(eSt s).take 3=[.isl (s.words.map aF),.isl (s.holds.map aF),.isl (s.asked.map aF)]:=rfl
theorem Lr:(eSt s).drop 3=[.isl (s.wait.map aL),.isl (s.done.map aL),.isl (s.told.map aL)]:=rfl
theorem Kx:(eSt s).take 4=[.isl (s.words.map aF),.isl (s.holds.map aF),.isl (s.asked.map aF),.isl (s.wait.map aL)]:=rfl
theorem Mu:(eSt s).drop 4=[.isl (s.done.map aL),.isl (s.told.map aL)]:=rfl
theorem Jq:(eSt s).take 5=[.isl (s.words.map aF),.isl (s.holds.map aF),.isl (s.asked.map aF),.isl (s.wait.map aL),.isl (s.done.map aL)]:=rfl
theorem Lq:(eSt s).drop 5=[.isl (s.told.map aL)]:=rfl
theorem Mh:(eSt s).take 6=eSt s:=rfl
theorem Jt:(eSt s).drop 6=[]:=rfl
theorem Se:kD cs (k+1) (eSt s)=kD cs (k+1) [.isl (s.words.map aF),.isl (s.holds.map aF),.isl (s.asked.map aF),.isl (s.wait.map aL),.isl (s.done.map aL),.isl (s.told.map aL)]:=rfl
theorem Di(s:TSt):(eSt s).length=6/\(eSt s).all D1.eW=true:=⟨rfl,rfl⟩
attribute [go_sem] Xh Jm Kf Nn Kz Mi Lr Kx Mu Jq Lq Mh Jt Se
def All(l:List Int)(lo up:Int):Prop:=∀x∈l,lo<=x/\x<=up
instance {l:List Int} {lo up:Int}:Decidable (All l lo up):=by unfold All;infer_instance
theorem TK{l:List Int}{lo up:Int}:All l lo up↔¬0<=bK (fun x=>decide (¬(lo<=x/\x<=up))) l:=by
 rw[dU];unfold All;refine⟨fun h ⟨x,a,hp⟩=>of_decide_eq_true hp (h x a),fun h x a=> ?_⟩;by_cases hc:lo<=x/\x<=up;·exact hc
 ·exact absurd ⟨x,a,decide_eq_true hc⟩ h
def oE(q:Req):Int:=if q.kind=2\/q.kind=4 then q.many else 0
def cR(q:Req):Prop:=(0<=q.id/\q.id<=1)/\(1<=q.kind/\q.kind<=4)/\qG q.addr q.many q.wrap/\(q.data.length:Int)=oE q/\(q.lanes.length:Int)=oE q/\All q.data 0 65535/\All q.lanes 0 3/\(q.kind=1\/q.kind=2\/q.many=1)
instance {q:Req}:Decidable (cR q):=by unfold cR;infer_instance
def tq(q r:Rng):Bool:=decide (q.lo<=r.hi/\r.lo<=q.hi)
def F8(r:Rng):Prop:=(0<=r.lo/\r.lo<=63)/\(r.lo<=r.hi/\r.hi<=63)/\(0<=r.W5/\r.W5<=2)
instance {r:Rng}:Decidable (F8 r):=by unfold F8;infer_instance
def ba(l:List Rng)(i:Nat):Prop:=F8 (l.getD i default)/\ ¬0<=bK (fun q=>tq q (l.getD i default)) (l.take i)
instance {l:List Rng} {i:Nat}:Decidable (ba l i):=by unfold ba;infer_instance
def o9(l:List Rng):Prop:=(l.length:Int)<=4/\ ∀i,i<l.length->ba l i
instance {l:List Rng}:Decidable (o9 l):=by unfold o9;infer_instance
def qU(p:List Req):Prop:=(p.length:Int)<=12/\ ¬0<=bK (fun q=>decide (¬cR q)) p
instance {p:List Req}:Decidable (qU p):=by unfold qU;infer_instance
def bG(c:Cfg):Prop:=o9 c.map/\(c.lat.length:Int)=4/\All c.lat 0 3/\(c.cH.length:Int)=3/\ ¬0<=bK (fun p=>decide (¬qU p)) c.cH
instance {c:Cfg}:Decidable (bG c):=by unfold bG;infer_instance
def pT(w h:List Int):Prop:=((w.length:Int)=64/\All w 0 65535)/\(h.length:Int)=6/\All h (-1) 63
instance {w h:List Int}:Decidable (pT w h):=by unfold pT;infer_instance
structure jJ(c:Cfg):Prop where
 map:c.map.length<2^40
 lat:c.lat.length<2^40
 cH:c.cH.length<2^40
 prog: ∀p∈c.cH,p.length<2^40
 req: ∀p∈c.cH,∀q∈p,q.data.length<2^40/\q.lanes.length<2^40
def bF(c:Cfg)(who n:Int):Req:=(c.cH.getD who.toNat default).getD n.toNat default
def kL(c:Cfg)(who n:Int):Prop:=(0<=who/\who<=2)/\0<=n/\n<=(c.cH.getD who.toNat default).length-1
instance {c:Cfg} {who n:Int}:Decidable (kL c who n):=by unfold kL;infer_instance
def cO(who n:Int)(j:Job):Bool:=decide (j.who=who/\j.n=n)
def NX(c:Cfg)(e:Ev)(j:Job):Bool:=decide ((j.who=e.who/\j.n<e.n)/\(bF c j.who j.n).id=(bF c e.who e.n).id)
theorem jJ.at(h:jJ c)(k:Nat):(c.cH.getD k default).length<2^40:=by
 by_cases a:k<c.cH.length;·exact h.prog _ (by simp[List.getD,a])
 ·have:c.cH.getD k default=[]:=by simp[List.getD,a];rfl
  rw[this];decide
def L7(c:Cfg)(s:TSt)(e:Ev):Int:=
 if ¬(kL c e.who e.n/\1<=e.kind/\e.kind<=3) then 1 else
 if e.kind=1 then (if ¬e.n=s.asked.getD e.who.toNat default then 2 else 0) else
 if e.kind=2 then (if bK (cO e.who e.n) s.wait<0 then 3 else if 0<=bK (NX c e) s.wait then 4 else 0) else
 if bK (cO e.who e.n) s.done<0 then 5 else if 0<=bK (NX c e) s.wait\/0<=bK (NX c e) s.done then 6 else 0
structure Xp(c:Cfg)(s:TSt):Prop where
 words:s.words.length=64
 holds:s.holds.length=6
 asked:s.asked.length=3
 m7:s.wait.length<2^21
 pH:s.done.length<2^21
 acZ:s.told.length<2^21
 wait: ∀j∈s.wait,kL c j.who j.n
 done: ∀j∈s.done,kL c j.who j.n
 told: ∀j∈s.told,kL c j.who j.n
theorem Li:[cI j.who,cI j.n,cI j.rsp.id,cI j.rsp.code,.isl (j.rsp.data.map aF)]=aL j:=rfl
theorem Mt{r:Rsp}:[cI r.id,cI r.code,.isl (r.data.map aF)]=lP r:=rfl
def eV(a b:Job):Bool:=decide (a.who<b.who\/(a.who=b.who/\a.n<b.n))
def iF(l:List Job)(j:Job):List Job:=l.take (l.findIdx (eV j))++j::l.drop (l.findIdx (eV j))
def lT(l:List Job)(at_:Nat):List Job:=l.take at_++l.drop (at_+1)
def IN(l:List Job)(j:Job)(f k:Nat):List Job:=if k<=f then l.take k else l.take f++j::(l.take k).drop f
theorem gP{α:Type}[Inhabited α]{l:List α}(h:k<l.length):l.take (k+1)=l.take k++[l.getD k default]:=by rw[ae5 h];simp[List.getD,h]
variable{l:List Job}
theorem We{f:Nat}(h:k<l.length)(a:k<f):IN l j f (k+1)=IN l j f k++[l.getD k default]:=by unfold IN;rw[if_pos (by omega),if_pos (by omega),gP h]
theorem Vj{f:Nat}(h:k<l.length)(a:k=f):IN l j f (k+1)=(IN l j f k++[j])++[l.getD k default]:=by subst a;unfold IN;rw[if_neg (by omega),if_pos (ac1 _),gP h,agD (by simp;omega)];rw[aeK (by simp;omega)];simp
theorem Uh{f:Nat}(h:k<l.length)(a:f<k):IN l j f (k+1)=IN l j f k++[l.getD k default]:=by unfold IN;rw[if_neg (by omega),if_neg (by omega),gP h,agD (by simp;omega)];simp
theorem Pj{f:Nat}(h:k<=l.length):(IN l j f k).length<=k+1:=by unfold IN;split<;>simp<;>omega
theorem Qx(a:l.findIdx (eV j)<l.length):IN l j (l.findIdx (eV j)) l.length=iF l j:=by unfold IN iF;rw[if_neg (by omega)];simp
theorem Le(a: ¬l.findIdx (eV j)<l.length):IN l j (l.findIdx (eV j)) l.length++[j]=iF l j:=by
 have:l.findIdx (eV j)=l.length:=by have:=agE (p:=eV j) (xs:=l);omega
 unfold IN iF;rw[this];simp
theorem Ub(h:k<l.length)(d:k<=l.findIdx (eV j)):eV j (l.getD k default)=true↔k=l.findIdx (eV j):=by
 have b:l.getD k default=l[k]:=by simp[List.getD,h]
 rw[b];constructor
 ·intro c;have: ¬k<l.findIdx (eV j):=fun a=>by have:=afV a;simp[c] at this
  omega
 ·intro he;have a:l.findIdx (eV j)<l.length:=by omega
  have:=afW (w:=a);subst he;simpa using this
def eU8(x:Int):List D1:=[.v (.int .u8 x)]
attribute [go_sem] eU8
def rdO(l:List Int)(p:Nat):bN:=⟨2,1,[[.isl (l.map eU8),cI p]]⟩
structure gD(l:List Int):Prop where
 len:l.length<2^40
 byte: ∀x∈l,0<=x/\x<256
theorem gD.at{l:List Int}(h:gD l)(k:Nat):0<=l.getD k default/\l.getD k default<256:=by
 by_cases a:k<l.length;·exact h.byte _ (by simp[List.getD,a])
 ·have:l.getD k default=0:=by simp[List.getD,a]
  omega
theorem bU(l:List Int)(p:Nat):kC (rdO l p):=by intro r hr x a;simp only[rdO,adN] at hr;subst hr;simp at a;rcases a with rfl|rfl<;>rfl
theorem Zu{a b:Int}(c:0<=a/\a<9223372036854775808)(d:0<=b/\b<9223372036854775808):0<=IntKind.i64.wrap ((BitVec.ofInt 64 a^^^BitVec.ofInt 64 b).toNat:Nat):=by
 have h:(BitVec.ofInt 64 a^^^BitVec.ofInt 64 b).toNat<2^63:=by rw[BitVec.toNat_xor,BitVec.toNat_ofInt,BitVec.toNat_ofInt];apply Nat.xor_lt_two_pow<;>omega
 have e:(BitVec.ofInt 64 a^^^BitVec.ofInt 64 b).toNat<9223372036854775808:=h;rw[IntWalk.i64_in _ (by omega)];omega
def M5(b:Bool):List Rng:=[⟨0,15,0,false⟩,⟨16,31,1,false⟩,⟨32,47,2,b⟩]
def Qz(x:Int)(b:Bool):List Rng:=[⟨0,7,0,false⟩,⟨8,15,1,false⟩,⟨20,40,x,false⟩,⟨41,63,2,b⟩]
theorem YU(b:Bool)(k:Nat)(h:k<=3):o9 ((M5 b).take k):=by
 have:k=0\/k=1\/k=2\/k=3:=by omega
 rcases this with rfl|rfl|rfl|rfl<;>cases b<;>decide
theorem Vx(x:Int)(b:Bool)(h:0<=x/\x<=2):o9 (Qz x b):=by
 have:x=0\/x=1\/x=2:=by omega
 rcases this with rfl|rfl|rfl<;>cases b<;>decide
variable{lo up:Int}
theorem jj{l:List Int}(h:All l lo up)(b:lo<=x)(c:x<=up):All (l++[x]) lo up:=by
 intro y a;rcases adD.1 a with a|a;·exact h y a
 ·simp at a;subst a;exact⟨b,c⟩
theorem cC{α:Type}[Inhabited α]{l:List α}(h:k<l.length):l.getD k default∈l:=by simp[List.getD,h]
def iL:Rsp:=⟨0,0,[]⟩
def wN(old new lanes:Int):Int:=(if lanes/2=1 then new/256 else old/256)*256+(if lanes%2=1 then new%256 else old%256)
theorem Jg{old new lanes:Int}(a:0<=old/\old<=65535)(b:0<=new/\new<=65535):0<=wN old new lanes/\wN old new lanes<=65535:=by unfold wN;split<;>split<;>omega
def SW(w all data lanes:List Int):Nat->List Int
 |0=>w
 |k+1=>(SW w all data lanes k).set (all.getD k default).toNat (wN ((SW w all data lanes k).getD (all.getD k default).toNat default) (data.getD k default) (lanes.getD k default))
theorem tK{l:List Int}(h:All l lo up)(a:k<l.length):lo<=l.getD k default/\l.getD k default<=up:=h _ (by simp[List.getD,a])
theorem ZL{l:List Int}(h:All l 0 up)(hu:0<=up)(k:Nat):0<=l.getD k default/\l.getD k default<=up:=by
 by_cases a:k<l.length;·exact tK h a
 ·have:l.getD k default=0:=by simp[List.getD,a]
  omega
theorem Im{l:List Int}{i:Nat}(h:All l lo up)(b:lo<=x/\x<=up):All (l.set i x) lo up:=by
 intro y c;rcases List.mem_or_eq_of_mem_set c with a|a;·exact h y a
 ·subst a;exact b
variable{w:List Int}
theorem ZZ{data lanes:List Int}(k:Nat):(SW w all data lanes k).length=w.length:=by
 induction k with
 |zero=>rfl
 |succ k a=>simp only[SW,adM,a]
theorem yw{data lanes:List Int}(hw:All w 0 65535)(b:All data 0 65535)(k:Nat):All (SW w all data lanes k) 0 65535:=by
 induction k with
 |zero=>exact hw
 |succ k a=>exact Im a (Jg (ZL a (by decide) _) (ZL b (by decide) _))
def rX(h all:List Int):List Int:=h.map fun x=>if x∈all then-1 else x
variable{h:List Int}
theorem Tk(a:All h (-1) 63):All (rX h all) (-1) 63:=by intro x b;obtain⟨y,c,rfl⟩:=ac9.1 b;have:=a y c;split<;>omega
def doM(m:List Rng)(w h:List Int)(who:Int)(q:Req):(List Int×List Int)×Rsp:=
 if eT m (bQ q.addr q.many q.wrap)<0 then ((w,h),⟨q.id,4,[]⟩) else
 if wrM q=true/\(m.getD (eT m (bQ q.addr q.many q.wrap)).toNat default).only=true then ((w,h),⟨q.id,3,[]⟩) else
 if q.kind=1 then ((w,h),⟨q.id,1,(bQ q.addr q.many q.wrap).map fun a=>w.getD a.toNat default⟩) else
 if q.kind=3 then ((w,h.set (who*2+q.id).toNat q.addr),⟨q.id,2,(bQ q.addr q.many q.wrap).map fun a=>w.getD a.toNat default⟩) else
 if q.kind=4/\ ¬h.getD (who*2+q.id).toNat default=q.addr then ((w,h),⟨q.id,1,[]⟩) else
 ((SW w (bQ q.addr q.many q.wrap) q.data q.lanes (bQ q.addr q.many q.wrap).length,rX h (bQ q.addr q.many q.wrap)),⟨q.id,if q.kind=4 then 2 else 1,[]⟩)
theorem YQ:wrM q=true↔(q.kind=2\/q.kind=4):=by simp[wrM]
variable{m:List Rng}{who:Int}
theorem Bk(a:eT m (bQ q.addr q.many q.wrap)<0):doM m w h who q=((w,h),⟨q.id,4,[]⟩):=by unfold doM;rw[if_pos a]
theorem Au(a: ¬eT m (bQ q.addr q.many q.wrap)<0)(b:wrM q=true)(c:(m.getD (eT m (bQ q.addr q.many q.wrap)).toNat default).only=true):doM m w h who q=((w,h),⟨q.id,3,[]⟩):=by unfold doM;rw[if_neg a,if_pos ⟨b,c⟩]
theorem Av(b: ¬eT m (bQ q.addr q.many q.wrap)<0)(c:q.kind=1):doM m w h who q=((w,h),⟨q.id,1,(bQ q.addr q.many q.wrap).map fun a=>w.getD a.toNat default⟩):=by unfold doM;rw[if_neg b,if_neg (fun hc=>by have:=YQ.1 hc.1;omega),if_pos c]
theorem Bu(b: ¬eT m (bQ q.addr q.many q.wrap)<0)(c:q.kind=3):doM m w h who q=((w,h.set (who*2+q.id).toNat q.addr),⟨q.id,2,(bQ q.addr q.many q.wrap).map fun a=>w.getD a.toNat default⟩):=by unfold doM;rw[if_neg b,if_neg (fun hc=>by have:=YQ.1 hc.1;omega),if_neg (by omega),if_pos c]
theorem Pf(a: ¬eT m (bQ q.addr q.many q.wrap)<0)(b: ¬(m.getD (eT m (bQ q.addr q.many q.wrap)).toNat default).only=true)(c:q.kind=4)(d: ¬h.getD (who*2+q.id).toNat default=q.addr):doM m w h who q=((w,h),⟨q.id,1,[]⟩):=by unfold doM;rw[if_neg a,if_neg (fun hc=>b hc.2),if_neg (by omega),if_neg (by omega),if_pos ⟨c,d⟩]
theorem Hy(a: ¬eT m (bQ q.addr q.many q.wrap)<0)(b: ¬(m.getD (eT m (bQ q.addr q.many q.wrap)).toNat default).only=true)(c:q.kind=4)(d:h.getD (who*2+q.id).toNat default=q.addr):doM m w h who q=((SW w (bQ q.addr q.many q.wrap) q.data q.lanes (bQ q.addr q.many q.wrap).length,rX h (bQ q.addr q.many q.wrap)),⟨q.id,2,[]⟩):=by unfold doM;rw[if_neg a,if_neg (fun hc=>b hc.2),if_neg (by omega),if_neg (by omega),if_neg (fun hc=>hc.2 d),if_pos c]
theorem Hv(a: ¬eT m (bQ q.addr q.many q.wrap)<0)(b: ¬(m.getD (eT m (bQ q.addr q.many q.wrap)).toNat default).only=true)(c:q.kind=2):doM m w h who q=((SW w (bQ q.addr q.many q.wrap) q.data q.lanes (bQ q.addr q.many q.wrap).length,rX h (bQ q.addr q.many q.wrap)),⟨q.id,1,[]⟩):=by unfold doM;rw[if_neg a,if_neg (fun hc=>b hc.2),if_neg (by omega),if_neg (by omega),if_neg (fun hc=>by omega),if_neg (by omega)]
structure QF(w h:List Int):Prop where
 wl:w.length=64
 wr:All w 0 65535
 hl:h.length=6
 hr:All h (-1) 63
theorem vt(e:QF w h)(f:cR q):QF (doM m w h who q).1.1 (doM m w h who q).1.2:=by
 obtain⟨a,b,c,d⟩:=e;obtain⟨_,_,g,_,_,i,_,_⟩:=f;unfold doM;split;·exact⟨a,b,c,d⟩
 split;·exact⟨a,b,c,d⟩
 split;·exact⟨a,b,c,d⟩
 split;·exact⟨a,b,by simpa using c,Im d (by have:=g.2.1;omega)⟩
 split;·exact⟨a,b,c,d⟩
 ·exact⟨by rw[ZZ];exact a,yw b i _,by simpa [rX] using c,Tk d⟩
def jY(r:Rsp):Prop:=(0<=r.id/\r.id<=1)/\(1<=r.code/\r.code<=4)/\(r.data.length:Int)<=4/\All r.data 0 65535
instance {r:Rsp}:Decidable (jY r):=by unfold jY;infer_instance
theorem Hr(hw:All w 0 65535)(f:cR q):jY (doM m w h who q).2/\(doM m w h who q).2.id=q.id:=by
 obtain⟨c,_⟩:=f;have b:All ([]:List Int) 0 65535:=fun x e=>by simp at e
 have g:=FA (addr:=q.addr) (many:=q.many) (wrap:=q.wrap);have d:All ((bQ q.addr q.many q.wrap).map fun a=>w.getD a.toNat default) 0 65535:=by intro x e;obtain⟨a,_,rfl⟩:=ac9.1 e;exact ZL hw (by decide) _
 unfold doM;split;·exact⟨⟨c,by dsimp only;omega,by simp,b⟩,rfl⟩
 split;·exact⟨⟨c,by dsimp only;omega,by simp,b⟩,rfl⟩
 split;·exact⟨⟨c,by dsimp only;omega,by simp;omega,d⟩,rfl⟩
 split;·exact⟨⟨c,by dsimp only;omega,by simp;omega,d⟩,rfl⟩
 split;·exact⟨⟨c,by dsimp only;omega,by simp,b⟩,rfl⟩
 ·refine⟨⟨c,?_,by simp,b⟩,rfl⟩;dsimp only;split<;>omega
def dY(c:Cfg)(s:TSt)(e:Ev):TSt:=
 if e.kind=1 then {s with asked:=s.asked.set e.who.toNat (e.n+1),wait:=iF s.wait ⟨e.who,e.n,iL⟩} else
 if e.kind=2 then {s with words:=(doM c.map s.words s.holds e.who (bF c e.who e.n)).1.1,holds:=(doM c.map s.words s.holds e.who (bF c e.who e.n)).1.2,wait:=lT s.wait (bK (cO e.who e.n) s.wait).toNat,done:=iF s.done ⟨e.who,e.n,(doM c.map s.words s.holds e.who (bF c e.who e.n)).2⟩} else
 {s with told:=s.told++[s.done.getD (bK (cO e.who e.n) s.done).toNat default],done:=lT s.done (bK (cO e.who e.n) s.done).toNat}
def key(j:Job):Int×Int:=(j.who,j.n)
def keys(s:TSt):List (Int×Int):=(s.wait++s.done++s.told).map key
abbrev gJ(l:List Job):Prop:=l.Pairwise fun a b=>eV a b=true
def st0:TSt:=⟨List.replicate 64 0,List.replicate 6 (-1),List.replicate 3 0,[],[],[]⟩
structure kM(c:Cfg)(s:TSt):Prop where
 atm:QF s.words s.holds
 yI:s.asked.length=3
 HV: ∀k,k<3->0<=s.asked.getD k default/\s.asked.getD k default<=(c.cH.getD k default).length
 TA:gJ s.wait
 UP:gJ s.done
 Eo: ∀p∈keys s,(0<=p.1/\p.1<=2)/\0<=p.2/\p.2<s.asked.getD p.1.toNat default
 nodup:(keys s).Nodup
 count:(s.wait.length:Int)+s.done.length+s.told.length=s.asked.getD 0 default+s.asked.getD 1 default+s.asked.getD 2 default
 jw: ∀j∈s.wait,j.rsp=iL
 YF: ∀j∈s.done++s.told,jY j.rsp/\j.rsp.id=(bF c j.who j.n).id
theorem oM{a b:Job}:eV a b=true↔a.who<b.who\/(a.who=b.who/\a.n<b.n):=by simp[eV]
theorem rH(l:List Job)(j:Job):(iF l j).Perm (j::l):=by unfold iF;apply afA.trans;rw[aeL]
theorem IY(h:k<l.length):l.Perm (l.getD k default::lT l k):=by
 have e:l=l.take k++l.getD k default::l.drop (k+1):=by
  have:l.getD k default=l[k]:=by simp[List.getD,h]
  rw[this,<-aeC h,aeL]
 conv=>lhs;rw[e]
 exact afA
theorem Z8:(lT l k).Sublist l:=by unfold lT;have h:=(List.Sublist.refl (l.take k)).append (agX l (Nat.le_succ k));rwa [aeL] at h
theorem W2(h:gJ l):gJ (lT l k):=h.sublist Z8
theorem OT(h:gJ l)(q:key j∉l.map key):gJ (iF l j):=by
 unfold iF;have hs:=h;rw[gJ,<-aeL (l.findIdx (eV j)) l,ae3] at hs;obtain⟨r,g,s⟩:=hs
 have k: ∀x∈l.take (l.findIdx (eV j)),eV x j=true:=by
  intro x c;obtain⟨i,hi,rfl⟩:=adS.1 c;simp only[adP] at hi;have m:i<l.findIdx (eV j):=by omega
  have d:=afV m;have n:key l[i]≠key j:=fun he=>q (he▸aeU (aeT _));rw[afI];rw[oM];simp only[key,ne_eq,Prod.mk.injEq] at n;simp only[eV,decide_eq_false_iff_not] at d;omega
 have o: ∀x∈l.drop (l.findIdx (eV j)),eV j x=true:=by
  intro x c
  cases e:l.drop (l.findIdx (eV j)) with
  |nil=>rw[e] at c;simp at c
  |cons y ys=>
   rw[e] at c g;have hlen:l.findIdx (eV j)<l.length:=(by have:=congrArg List.length e;simp at this;omega);have t:y=l[l.findIdx (eV j)]:=(by rw[aeC hlen] at e;exact(List.cons.inj e).1.symm);have f:eV j y=true:=(by rw[t];exact afW (w:=hlen));rcases adA.1 c with rfl|c;·exact f
   ·have:=(ad9.1 g).1 x c;rw[oM] at this f ⊢;omega
 refine ae3.2 ⟨r,ad9.2 ⟨o,g⟩,fun a p b d=> ?_⟩;rcases adA.1 d with rfl|d;·exact k a p
 ·exact s a p b d
theorem nR{n:Int}(h: ¬bK (cO who n) l<0):(bK (cO who n) l).toNat<l.length/\key (l.getD (bK (cO who n) l).toNat default)=(who,n):=by
 unfold bK at h ⊢;split;·rename_i k a;obtain⟨c,b,_⟩:=afH.1 a;refine⟨by simpa using c,?_⟩;simp only[cO,decide_eq_true_eq] at b;simp only[Int.toNat_natCast,key,List.getD,c,ac8,Option.getD_some,b.1,b.2]
 ·rename_i a;rw[a] at h;simp at h
variable{e:Ev}
theorem O1(h:L7 c s e=0):kL c e.who e.n/\(e.kind=1/\e.n=s.asked.getD e.who.toNat default\/e.kind=2/\ ¬bK (cO e.who e.n) s.wait<0\/e.kind=3/\ ¬bK (cO e.who e.n) s.done<0):=by
 unfold L7 at h;split at h;·exact absurd h (by decide)
 rename_i b;have b:=Classical.not_not.1 b;refine⟨b.1,?_⟩;split at h
 ·rename_i d;split at h;·exact absurd h (by decide)
  ·rename_i a;exact .inl ⟨d,Classical.not_not.1 a⟩
 split at h
 ·rename_i d;split at h;·exact absurd h (by decide)
  ·rename_i a;exact .inr (.inl ⟨d,a⟩)
 split at h;·exact absurd h (by decide)
 ·rename_i a;exact .inr (.inr ⟨by omega,a⟩)
theorem Nu(a:e.kind=1):(keys (dY c s e)).Perm ((e.who,e.n)::keys s):=by simp only[keys,dY,a,if_true,adF];have:=(rH s.wait ⟨e.who,e.n,iL⟩).map key;exact(this.append_right _).append_right _
theorem Vq(b:e.kind=2)(hi: ¬bK (cO e.who e.n) s.wait<0):(keys (dY c s e)).Perm (keys s):=by obtain⟨d,f⟩:=nR hi;simp only[keys,dY,b,if_true,if_false,adF,Int.reduceEq];apply List.Perm.append_right _;refine(((rH s.done _).map key).append_left _).trans ?_;simp only[adG];apply afA.trans;have a:=(IY d).map key;simp only[adG,f] at a;exact(a.symm.append_right _)
theorem Lg(b:e.kind=3)(hi: ¬bK (cO e.who e.n) s.done<0):(keys (dY c s e)).Perm (keys s):=by obtain⟨d,g⟩:=nR hi;simp only[keys,dY,b,if_false,adF,Int.reduceEq,adH];apply List.Perm.append_left _;have a:=(IY d).map key;simp only[adG] at a;have f:=a.append_right (s.told.map key);refine List.Perm.trans ?_ f.symm;simp only[adG,adQ,List.cons_append];rw[<-adH];exact(List.perm_append_singleton _ _)
theorem acL{l:List Int}(hl:l.length=3)(e:k<3)(d:x=l.getD k default+1):(l.set k x).getD 0 default+(l.set k x).getD 1 default+(l.set k x).getD 2 default=l.getD 0 default+l.getD 1 default+l.getD 2 default+1:=by
 match l,hl with
 | [a,b,c],_=>subst d;have:k=0\/k=1\/k=2:=(by omega);rcases this with rfl|rfl|rfl<;>simp[List.getD]<;>omega
theorem PI{l:List Int}{i:Nat}(a:k<l.length):(l.set k x).getD i default=if i=k then x else l.getD i default:=by
 simp only[List.getD,ae6];by_cases h:k=i;·subst h;simp[a]
 ·simp[h,Ne.symm h,eq_comm]
theorem UY(h:k<l.length):(lT l k).length+1=l.length:=by have:=(IY h).length_eq;simpa using this.symm
theorem ie:(iF l j).length=l.length+1:=by simpa using (rH l j).length_eq
theorem bo(h:(keys s).Nodup): ∀p∈s.wait.map key,p∉s.done.map key:=by simp only[keys,adF] at h;rw[adH,aeM] at h;intro p hp a;exact h.2.2 p hp p (ad8 _ a) rfl
theorem FE{n:Int}(d:bG c)(h:kL c who n):cR (bF c who n):=by
 obtain⟨_,_,_,i,a⟩:=d;obtain⟨j,k,l⟩:=h;rw[dU] at a;have e:who.toNat<c.cH.length:=by omega
 have f:qU (c.cH.getD who.toNat default):=Classical.byContradiction fun hc=>a ⟨c.cH.getD who.toNat default,by simp[List.getD,e],decide_eq_true hc⟩;have b:=f.2;rw[dU] at b;have g:n.toNat<(c.cH.getD who.toNat default).length:=by omega
 exact Classical.byContradiction fun hc=>b ⟨(c.cH.getD who.toNat default).getD n.toNat default,cC g,decide_eq_true hc⟩
theorem HD(B:bG c)(hs:kM c s)(h:L7 c s e=0):kM c (dY c s e):=by
 obtain⟨u,r⟩:=O1 h;obtain⟨hw,C⟩:=u;have z:cR (bF c e.who e.n):=FE B ⟨hw,C⟩;have v:e.who.toNat<3:=by omega
 have f:e.who.toNat<s.asked.length:=by rw[hs.yI];exact v
 rcases r with⟨o,hi⟩|⟨o,hi⟩|⟨o,hi⟩
 ·have hp:=Nu (c:=c) (s:=s) o;have q:(e.who,e.n)∉keys s:=fun hm=>by have:=(hs.Eo _ hm).2.2;dsimp only at this;omega
  have d:dY c s e= {s with asked:=s.asked.set e.who.toNat (e.n+1),wait:=iF s.wait ⟨e.who,e.n,iL⟩}:=by simp only[dY,o,if_true]
  refine⟨by rw[d];exact hs.atm,by rw[d];simpa using hs.yI,fun k D=> ?_,?_,by rw[d];exact hs.UP,fun p g=> ?_,hp.nodup_iff.2 (aeA.2 ⟨q,hs.nodup⟩),?_,?_,?_⟩
  ·have:=hs.HV k D;rw[d];dsimp only;rw[PI f];split;·rename_i t;subst t;omega
   ·exact this
  ·rw[d];refine OT hs.TA fun hm=>q ?_;simp only[keys,adF];exact ad8 _ (ad8 _ hm)
  ·rcases adA.1 (hp.mem_iff.1 g) with rfl|hm;·rw[d];dsimp only;rw[PI f,if_pos rfl];omega
   ·have:=hs.Eo p hm;rw[d];dsimp only;rw[PI f];split;·rename_i t;rw[t] at this;omega
    ·exact this
  ·have:=hs.count;rw[d];dsimp only;rw[ie,acL hs.yI v (by omega)];omega
  ·rw[d];intro j a;rcases adA.1 ((rH _ _).mem_iff.1 a) with rfl|a;·rfl
   ·exact hs.jw j a
  ·rw[d];exact hs.YF
 ·have hp:=Vq (c:=c) o hi;obtain⟨w,A⟩:=nR hi;have i: ∀p,p∈keys (dY c s e)↔p∈keys s:=fun p=>hp.mem_iff;have hlen:=UY w;have x:(e.who,e.n)∉s.done.map key:=bo hs.nodup _ (ac9.2 ⟨_,cC w,A⟩);have y:=vt (m:=c.map) (who:=e.who) hs.atm z;have d:dY c s e= {s with words:=(doM c.map s.words s.holds e.who (bF c e.who e.n)).1.1,holds:=(doM c.map s.words s.holds e.who (bF c e.who e.n)).1.2,wait:=lT s.wait (bK (cO e.who e.n) s.wait).toNat,done:=iF s.done ⟨e.who,e.n,(doM c.map s.words s.holds e.who (bF c e.who e.n)).2⟩}:=by simp[dY,o]
  have b:=hp.nodup_iff.2 hs.nodup;rw[d] at i b ⊢
  exact⟨y,hs.yI,hs.HV,W2 hs.TA,OT hs.UP x,fun p g=>hs.Eo p ((i p).1 g),b,by have:=hs.count;have:=ie (l:=s.done) (j:=⟨e.who,e.n,(doM c.map s.words s.holds e.who (bF c e.who e.n)).2⟩);dsimp only;omega,fun j a=>hs.jw j (Z8.mem a),fun j a=>by
   rcases adD.1 a with a|a
   ·rcases adA.1 ((rH _ _).mem_iff.1 a) with rfl|a;·exact Hr hs.atm.wr z
    ·exact hs.YF j (ad8 _ a)
   ·exact hs.YF j (aeN _ a)⟩
 ·have hp:=Lg (c:=c) o hi;obtain⟨w,A⟩:=nR hi;have i: ∀p,p∈keys (dY c s e)↔p∈keys s:=fun p=>hp.mem_iff;have hlen:=UY w;have d:dY c s e= {s with told:=s.told++[s.done.getD (bK (cO e.who e.n) s.done).toNat default],done:=lT s.done (bK (cO e.who e.n) s.done).toNat}:=by simp[dY,o]
  have b:=hp.nodup_iff.2 hs.nodup;rw[d] at i b ⊢
  exact⟨hs.atm,hs.yI,hs.HV,hs.TA,W2 hs.UP,fun p g=>hs.Eo p ((i p).1 g),b,by have:=hs.count;simp only[ac7,List.length_cons,List.length_nil];omega,hs.jw,fun j a=>by
   rcases adD.1 a with a|a
   ·exact hs.YF j (ad8 _ (Z8.mem a))
   ·rcases adD.1 a with a|a;·exact hs.YF j (aeN _ a)
    ·simp only[adN] at a;subst a;exact hs.YF _ (ad8 _ (cC w))⟩
theorem eM(d:bG c):c.cH.length=3/\ ∀k,(c.cH.getD k default).length<=12:=by
 obtain⟨_,_,_,f,a⟩:=d;refine⟨by omega,fun k=> ?_⟩;rw[dU] at a;by_cases b:k<c.cH.length;·have e:qU (c.cH.getD k default):=Classical.byContradiction fun hc=>a ⟨c.cH.getD k default,by simp[List.getD,b],decide_eq_true hc⟩;have:=e.1;omega
 ·have:c.cH.getD k default=[]:=by simp[List.getD,b];rfl
  rw[this];simp
theorem kM.lens(b:bG c)(hs:kM c s):s.wait.length+s.done.length+s.told.length<=36:=by have a:=(eM b).2;have d:=hs.HV 0 (by decide);have e:=hs.HV 1 (by decide);have f:=hs.HV 2 (by decide);have g:=hs.count;have:=a 0;have:=a 1;have:=a 2;omega
theorem kM.mem(hs:kM c s)(a:j∈s.wait++s.done++s.told):kL c j.who j.n:=by have h:=hs.Eo (key j) (ac9.2 ⟨j,a,rfl⟩);simp only[key] at h;have:=hs.HV j.who.toNat (by omega);exact⟨h.1,by omega⟩
theorem Yn(c:Cfg):kM c st0:=by
 refine⟨⟨by decide,by decide,by decide,by decide⟩,by decide,fun k d=> ?_,List.Pairwise.nil,List.Pairwise.nil,fun p hp=> ?_,by decide,by decide,fun j a=> ?_,fun j a=> ?_⟩
 ·have:k=0\/k=1\/k=2:=by omega
  have b:st0.asked.getD k default=0:=by rcases this with rfl|rfl|rfl<;>rfl
  rw[b];omega
 ·cases hp
 ·cases a
 ·cases a
theorem kM.ab8(hs:kM c s): ∀j∈s.wait++s.done++s.told,j.rsp.data.length<2^21:=by
 intro j a;rw[adH] at a;rcases adD.1 a with a|a;·rw[hs.jw j a];decide
 ·have:=(hs.YF j a).1.2.2.1;omega
def runM(c:Cfg)(s:TSt)(l:List Ev):TSt:=l.foldl (dY c) s
def JQ(c:Cfg)(s:TSt)(l:List Ev):Prop:=∀k,k<l.length->L7 c (runM c s (l.take k)) (l.getD k default)=0
theorem Mv{l:List Ev}:runM c s (l++[e])=dY c (runM c s l) e:=by simp[runM]
theorem rB:JQ c s []:=fun k a=>by simp at a
theorem Gt{l:List Ev}(h:k<l.length):l.take (k+1)=l.take k++[l.getD k default]:=by rw[ae5 h];simp[List.getD,h]
theorem va{l:List Ev}(h:k<l.length):runM c s (l.take (k+1))=dY c (runM c s (l.take k)) (l.getD k default):=by rw[Gt h,Mv]
theorem Sg{l:List Ev}(a:bG c)(hs:kM c s)(h:JQ c s l): ∀k,k<=l.length->kM c (runM c s (l.take k)):=by
 intro k
 induction k with
 |zero=>intro _;simpa [runM] using hs
 |succ k b=>intro d;rw[va (by omega)];exact HD a (b (by omega)) (h k (by omega))
theorem kM.fit(b:bG c)(hs:kM c s):Xp c s:=by have:=hs.lens b;exact⟨hs.atm.wl,hs.atm.hl,hs.yI,by omega,by omega,by omega,fun j a=>hs.mem (by simp[a]),fun j a=>hs.mem (by simp[a]),fun j a=>hs.mem (by simp[a])⟩
theorem Dd{l:List Int}(h:k<l.length):l.take (k+1)=l.take k++[l.getD k default]:=gP h
def uY(h all:List Int)(k:Nat):List Int:=rX (h.take k) all++h.drop k
theorem ug(a:k<=h.length):(uY h all k).length=h.length:=by simp[uY,rX];omega
theorem Bo(a:k<h.length):(uY h all k).getD k default=h.getD k default:=by
 have e:(rX (h.take k) all).length=k:=by simp[rX];omega
 simp only[uY,List.getD,adU,e,agB,if_false,aeZ,adO,Nat.add_zero]
theorem drop_cons{l:List Int}(h:k<l.length):l.drop k=l.getD k default::l.drop (k+1):=by rw[aeC h];simp[List.getD,h]
theorem Gl{l:List Int}:rX (l++[x]) all=rX l all++[if x∈all then-1 else x]:=by simp[rX]
theorem sr(a:k<h.length)(b:x=if h.getD k default∈all then-1 else h.getD k default):(uY h all k).set k x=uY h all (k+1):=by
 have e:(rX (h.take k) all).length=k:=by simp[rX];omega
 unfold uY;rw[agF,e,if_neg (by omega),aeZ,Dd a,drop_cons a,Gl,List.set_cons_zero,b,adH];rfl
theorem jt(a:k<h.length):(uY h all k).set k (h.getD k default)=uY h all k:=by
 have e:(rX (h.take k) all).length=k:=by simp[rX];omega
 unfold uY;rw[agF,e,if_neg (by omega),aeZ,drop_cons a,List.set_cons_zero]
theorem dp:uY h all 0=h:=by simp[uY,rX]
theorem th:uY h all h.length=rX h all:=by simp[uY]
theorem ux(h:qG addr many wrap):0<(bQ addr many wrap).length:=by rw[zT h];obtain⟨a,_⟩:=h;omega
theorem ZQ{a m:Nat}(h:a<2^(m+k)):a&&& ((2^m-1)<<<k)=a/2^k*2^k:=by
 apply Nat.eq_of_testBit_eq;intro i;have e:a/2^k*2^k=(a>>>k)<<<k:=by rw[Nat.shiftRight_eq_div_pow,Nat.shiftLeft_eq]
 rw[e,Nat.testBit_and,agY,agY,Nat.testBit_two_pow_sub_one,Nat.testBit_shiftRight];by_cases c:k<=i
 ·have d:k+(i-k)=i:=by omega
  by_cases b:i<m+k;·simp[c,d];omega
  ·have:a.testBit i=false:=Nat.testBit_lt_two_pow (Nat.lt_of_lt_of_le h (Nat.pow_le_pow_right (agA 1) (agG b)));simp[d,this]
 ·simp[c]
theorem Sl{a:Nat}:a&&& 255=a%256:=agH a 8
theorem Om{a b:Nat}(h:b<256):a*256|||b=a*256+b:=by have:=Nat.two_pow_add_eq_or_of_lt (i:=8) (b:=b) h a;rw[show (2:Nat)^8*a=a*256 from aeF _ _] at this;exact this.symm
def Dg(old new m:Int):Int:=IntKind.i64.wrap ↑(BitVec.ofInt 64 (IntKind.i64.wrap ↑(BitVec.ofInt 64 old&&& ~~~BitVec.ofInt 64 m).toNat)|||BitVec.ofInt 64 (IntKind.i64.wrap ↑(BitVec.ofInt 64 new&&& BitVec.ofInt 64 m).toNat)).toNat
theorem sx{a:Nat}(h:a<65536):(BitVec.ofNat 64 a).toNat=a:=by rw[BitVec.toNat_ofNat];omega
theorem TP{a b m x y:Nat}(e:a<65536)(f:b<65536)(g:a&&& (18446744073709551615-m)=x)(h:b&&& m=y)(hm:m<65536)(c:x<65536)(d:y<65536)(k:x|||y<65536):Dg a b m=((x|||y:Nat):Int):=by
 have i:(BitVec.ofInt 64 (a:Int)&&& ~~~BitVec.ofInt 64 (m:Int)).toNat=x:=by rw[BitVec.ofInt_natCast,BitVec.ofInt_natCast,BitVec.toNat_and,BitVec.toNat_not,sx e,sx hm];exact g
 have j:(BitVec.ofInt 64 (b:Int)&&& BitVec.ofInt 64 (m:Int)).toNat=y:=by rw[BitVec.ofInt_natCast,BitVec.ofInt_natCast,BitVec.toNat_and,sx f,sx hm];exact h
 unfold Dg;rw[i,j,IntWalk.i64_in (x:Int) (by omega),IntWalk.i64_in (y:Int) (by omega),BitVec.ofInt_natCast,BitVec.ofInt_natCast,BitVec.toNat_or,sx c,sx d,IntWalk.i64_in _ (by omega)]
theorem YT{old new lanes m:Int}(o:0<=old/\old<=65535)(p:0<=new/\new<=65535)(h:lanes=0/\m=0\/lanes=1/\m=255\/lanes=2/\m=65280\/lanes=3/\m=65535):Dg old new m=wN old new lanes:=by
 obtain⟨a,rfl⟩: ∃a:Nat,old=a:=⟨old.toNat,by omega⟩
 obtain⟨b,rfl⟩: ∃b:Nat,new=b:=⟨new.toNat,by omega⟩
 have d:a<65536:=by omega
 have f:b<65536:=by omega
 have l:=ZQ (a:=a) (m:=56) (k:=8) (by omega);have n:=ZQ (a:=b) (m:=8) (k:=8) (by omega);have j:=ZQ (a:=a) (m:=48) (k:=16) (by omega);rcases h with⟨rfl,rfl⟩|⟨rfl,rfl⟩|⟨rfl,rfl⟩|⟨rfl,rfl⟩
 ·have:=TP (a:=a) (b:=b) (m:=0) (x:=a) (y:=0) d f (by rw[show 18446744073709551615-0=2^64-1 from rfl,agH];omega) (Nat.and_zero b) (by omega) d (by omega) (by simpa using d);rw[show ((0:Nat):Int)=0 from rfl] at this;rw[this,Nat.or_zero];unfold wN;simp;omega
 ·have g:a&&& (18446744073709551615-255)=a/256*256:=l;have c:a/256*256|||b%256=a/256*256+b%256:=Om (by omega);have:=TP (a:=a) (b:=b) (m:=255) d f g Sl (by omega) (by omega) (by omega) (by omega);rw[show ((255:Nat):Int)=255 from rfl] at this;rw[this,c];unfold wN;simp
 ·have g:a&&& (18446744073709551615-65280)=a%256:=by
   have e:18446744073709551615-65280=((2^48-1)<<<16)|||255:=by decide
   rw[e,Nat.and_or_distrib_left,j,Sl]
   have:a/2^16=0:=by omega
   rw[this];simp
  have i:b&&& 65280=b/256*256:=n
  have c:a%256|||b/256*256=b/256*256+a%256:=by rw[Nat.or_comm];exact Om (by omega)
  have:=TP (a:=a) (b:=b) (m:=65280) d f g i (by omega) (by omega) (by omega) (by omega)
  rw[show ((65280:Nat):Int)=65280 from rfl] at this
  rw[this,c]
  unfold wN;simp
 ·have g:a&&& (18446744073709551615-65535)=0:=by
   have e:18446744073709551615-65535=((2^48-1)<<<16):=by decide
   rw[e,j];omega
  have i:b&&& 65535=b:=by rw[show (65535:Nat)=2^16-1 from rfl,agH];omega
  have:=TP (a:=a) (b:=b) (m:=65535) d f g i (by omega) (by omega) (by omega) (by simpa using f)
  rw[show ((65535:Nat):Int)=65535 from rfl] at this
  rw[this,Nat.zero_or]
  unfold wN;simp;omega
def zd(x:Int):Int:=IntKind.i64.wrap ↑(BitVec.ofInt 64 (IntKind.i64.wrap (IntKind.i64.wrap ↑(BitVec.ofInt 64 x&&& BitVec.ofInt 64 1).toNat*255))|||BitVec.ofInt 64 (IntKind.i64.wrap (Int.fdiv x (2^min 1 64)*65280))).toNat
theorem Zj:zd 0=0:=by decide
theorem Zz:zd 1=255:=by decide
theorem aaD:zd 2=65280:=by decide
theorem aaH:zd 3=65535:=by decide
structure Sam(k:Int)(s s':TSt):Prop where
 asked:s'.asked.getD k.toNat default=s.asked.getD k.toNat default
 wait: ∀n,(k,n)∈s'.wait.map key↔(k,n)∈s.wait.map key
 done: ∀n,(k,n)∈s'.done.map key↔(k,n)∈s.done.map key
theorem Sam.refl{k:Int}:Sam k s s:=⟨rfl,fun _=>.rfl,fun _=>.rfl⟩
theorem Sam.symm{k:Int}{s s':TSt}(h:Sam k s s'):Sam k s' s:=⟨h.asked.symm,fun n=>(h.wait n).symm,fun n=>(h.done n).symm⟩
theorem Sam.trans{k:Int}{s s' s2:TSt}(h:Sam k s s')(a:Sam k s' s2):Sam k s s2:=⟨a.asked.trans h.asked,fun n=>(a.wait n).trans (h.wait n),fun n=>(a.done n).trans (h.done n)⟩
def aaN(q:Req):List Int:=bQ q.addr q.many q.wrap
def hB(a:Nat)(who:Int)(q:Req)(h:List Int):List Int:=if a=5 then rX h (aaN q) else if a=3 then h.set (who*2+q.id).toNat q.addr else h
def U4(a b:Req):Prop:=∀x∈aaN a,x∉aaN b
theorem U4.symm{a b:Req}(h:U4 a b):U4 b a:=fun x c d=>h x d c
def Qe(c:Cfg)(a b:Ev):Prop:=a.who≠b.who/\ ¬(a.kind=3/\b.kind=3)/\(a.kind=2->b.kind=2->U4 (bF c a.who a.n) (bF c b.who b.n))
instance {a b:Req}:Decidable (U4 a b):=by unfold U4;infer_instance
instance {c:Cfg} {a b:Ev}:Decidable (Qe c a b):=by unfold Qe;infer_instance
theorem dw: ∀{l a:List Job},gJ l->gJ a->(∀x,x∈l↔x∈a)->l=a
 | [],[],_,_,_=>rfl
 | [],y::a,_,_,hm=>by have:=(hm y).2 (by simp);cases this
 |x::l,[],_,_,hm=>by have:=(hm x).1 (by simp);cases this
 |x::l,y::a,h,j,hm=>by
  have b: ∀z:Job,eV z z=false:=fun z=>by simp[eV]
  obtain⟨g,k⟩:=ad9.1 h;obtain⟨i,m⟩:=ad9.1 j
  have d:x=y:=by
   rcases adA.1 ((hm x).1 (by simp)) with e|e;·exact e
   ·rcases adA.1 ((hm y).2 (by simp)) with f|f;·exact f.symm
    ·have n:=i x e;have o:=g y f;rw[oM] at n o;omega
  subst d;congr 1;refine dw k m fun z=>⟨fun c=> ?_,fun c=> ?_⟩
  ·rcases adA.1 ((hm z).1 (by simp[c])) with he|he;·subst he;have:=g z c;rw[b] at this;cases this
   ·exact he
  ·rcases adA.1 ((hm z).2 (by simp[c])) with he|he;·subst he;have:=i z c;rw[b] at this;cases this
   ·exact he
theorem zH{l:List Ev}:runM c s (e::l)=runM c (dY c s e) l:=rfl
theorem Sm{a b:List Ev}:runM c s (a++b)=runM c (runM c s a) b:=by simp[runM]
theorem uN{l:List Ev}:JQ c s (e::l)↔L7 c s e=0/\JQ c (dY c s e) l:=by
 constructor;·intro h;refine⟨h 0 (by simp),fun k a=> ?_⟩;have:=h (k+1) (by simpa using a);rwa [List.take_succ_cons,zH,agI] at this
 ·rintro⟨b,d⟩ k a
  match k with
  |0=>exact b
  |k+1=>rw[List.take_succ_cons,zH,agI];exact d k (by simpa using a)
theorem Nr{a b:List Ev}:JQ c s (a++b)↔JQ c s a/\JQ c (runM c s a) b:=by
 induction a generalizing s with
 |nil=>simp[runM,rB]
 |cons e a d=>rw[List.cons_append,uN,uN,d,zH,and_assoc]
def uW(c:Cfg):TSt->List Ev->Nat
 |_,[]=>0
 |s,e::l=>if L7 c s e=0 then uW c (dY c s e) l+1 else 0
theorem UE{c:Cfg}: ∀{l:List Ev} {s:TSt},uW c s l<=l.length
 | [],s=>ac1 _
 |e::l,s=>by
  unfold uW;split;·have:=UE (c:=c) (l:=l) (s:=dY c s e);simp;omega
  ·simp
theorem OW{c:Cfg}: ∀{l:List Ev} {s:TSt},JQ c s (l.take (uW c s l))
 | [],s=>rB
 |e::l,s=>by
  unfold uW;split;·rename_i h;rw[List.take_succ_cons,uN];exact⟨h,OW⟩
  ·exact rB
theorem so{c:Cfg}: ∀{l:List Ev} {s:TSt},uW c s l<l.length->L7 c (runM c s (l.take (uW c s l))) (l.getD (uW c s l) default)≠0
 | [],s,h=>by simp[uW] at h
 |e::l,s,h=>by
  unfold uW at h ⊢;split;·rename_i hw;rw[if_pos hw] at h;rw[List.take_succ_cons,zH,agI];exact so (by simpa using h)
  ·rename_i hw;simpa [runM] using hw
theorem uu{c:Cfg}: ∀{l:List Ev} {s:TSt},JQ c s l->uW c s l=l.length
 | [],s,_=>rfl
 |e::l,s,h=>by rw[uN] at h;unfold uW;rw[if_pos h.1,uu h.2];rfl
theorem Wz{es:List Ev}(a:k<uW c s es):L7 c (runM c s (es.take k)) (es.getD k default)=0:=by have hp:=OW (c:=c) (l:=es) (s:=s);have hle:=UE (c:=c) (l:=es) (s:=s);have:=hp k (by rw[adP];omega);rw[afZ,Nat.min_eq_left (by omega)] at this;rwa [show (es.take (uW c s es)).getD k default=es.getD k default by simp[List.getD,ad2,a]] at this
theorem Qd{es:List Ev}(a:bG c)(hs:kM c s)(b:k<=uW c s es):kM c (runM c s (es.take k)):=by have hle:=UE (c:=c) (l:=es) (s:=s);have:=Sg a hs (OW (c:=c) (l:=es) (s:=s)) k (by rw[adP];omega);rwa [afZ,Nat.min_eq_left b] at this
structure Dh(s:TSt):Prop where
 words:s.words.length<2^21
 holds:s.holds.length<2^21
 asked:s.asked.length<2^21
 wait:s.wait.length<2^21
 done:s.done.length<2^21
 told:s.told.length<2^21
 data: ∀j∈s.wait++s.done++s.told,j.rsp.data.length<2^21
def InA(asked:List Int)(j:Job):Prop:=(0<=j.who/\j.who<=2)/\0<=j.n/\j.n<asked.getD j.who.toNat default
def yC(c:Cfg)(j:Job):Prop:=jY j.rsp/\j.rsp.id=(bF c j.who j.n).id
def Jz(c:Cfg)(asked:List Int):Prop:=∀k,k<3->0<=asked.getD k default/\asked.getD k default<=(c.cH.getD k default).length
noncomputable def stB(c:Cfg)(s:TSt):Bool:=@decide (kM c s) (Classical.propDecidable _)
theorem Ry(h:kM c s):stB c s=true:=by simp[stB,h]
theorem P2(h: ¬kM c s):stB c s=false:=by simp[stB,h]
noncomputable def tlB(c:Cfg)(s:TSt):Bool:=@decide (bG c/\kM c s) (Classical.propDecidable _)
theorem Ya(a:bG c)(h:kM c s):tlB c s=true:=by simp[tlB,h,a]
theorem LW(h: ¬(bG c/\kM c s)):tlB c s=false:=by simp[tlB,h]
theorem Sk(a:bG c):tlB c s=stB c s:=by simp[tlB,stB,a]
theorem HB(h:gJ l):(l.map key).Nodup:=by refine afT.2 (h.imp ?_);intro a b c he;rw[oM] at c;simp only[key,Prod.mk.injEq] at he;omega
theorem Ic(a:pT s.words s.holds)(d:s.asked.length=3)(e:Jz c s.asked)(f:gJ s.wait)(g:gJ s.done)(h: ∀j∈s.wait++s.done++s.told,InA s.asked j)(i:(keys s).Nodup)
 (k:(s.wait.length:Int)+s.done.length+s.told.length=s.asked.getD 0 default+s.asked.getD 1 default+s.asked.getD 2 default) (l: ∀j∈s.wait,j.rsp=iL) (b: ∀j∈s.done++s.told,yC c j):kM c s:=
 ⟨⟨by have:=a.1.1;omega,a.1.2,by have:=a.2.1;omega,a.2.2⟩,d,e,f,g,fun p hp=>by
   obtain⟨j,m,rfl⟩:=ac9.1 hp
   exact h j m,i,k,l,b⟩
theorem zy{w d t:List Job}(hw:gJ w)(h:gJ d)(i:(t.map key).Nodup)(g: ∀j∈t,key j∉w.map key/\key j∉d.map key)(k: ∀j∈d,key j∉w.map key):((w++d++t).map key).Nodup:=by
 rw[adF,adF,aeM,aeM];refine⟨⟨HB hw,HB h,fun a c b f he=> ?_⟩,i,fun a c b f he=> ?_⟩;·obtain⟨j,e,rfl⟩:=ac9.1 f;exact k j e (he▸c)
 ·obtain⟨j,e,rfl⟩:=ac9.1 f;rcases adD.1 c with c|c;·exact(g j e).1 (he▸c)
  ·exact(g j e).2 (he▸c)
theorem sU{n:Int}:0<=bK (cO who n) l↔(who,n)∈l.map key:=by
 rw[dU,ac9];refine⟨fun⟨x,a,h⟩=>⟨x,a,?_⟩,fun⟨x,a,h⟩=>⟨x,a,?_⟩⟩;·have:=of_decide_eq_true h;simp[key,this.1,this.2]
 ·simp only[key,Prod.mk.injEq] at h;exact decide_eq_true h
theorem kM.apart(h:kM c s):(s.told.map key).Nodup/\(∀j∈s.told,key j∉s.wait.map key/\key j∉s.done.map key)/\(∀j∈s.done,key j∉s.wait.map key):=by
 have b:=h.nodup;unfold keys at b;rw[adF,adF,aeM,aeM] at b;obtain⟨⟨g,i,e⟩,f,d⟩:=b;refine⟨f,fun j a=>⟨fun hm=> ?_,fun hm=> ?_⟩,fun j a hm=> ?_⟩;·exact d _ (ad8 _ hm) _ (aeU a) rfl
 ·exact d _ (aeN _ hm) _ (aeU a) rfl
 ·exact e _ hm _ (aeU a) rfl
structure TQ(c:Cfg)(asked:List Int)(l:List Job)(done:Bool):Prop where
 inA: ∀j∈l,InA asked j
 sorted:gJ l
 rsp: ∀j∈l,if done then yC c j else j.rsp=iL
noncomputable def TS(c:Cfg)(asked:List Int)(l:List Job)(done:Bool):Bool:=@decide (TQ c asked l done) (Classical.propDecidable _)
theorem YO{asked:List Int}{done:Bool}(h:TQ c asked l done):TS c asked l done=true:=by simp[TS,h]
theorem yg{asked:List Int}{done:Bool}(h: ¬TQ c asked l done):TS c asked l done=false:=by simp[TS,h]
structure uk(c:Cfg)(s:TSt):Prop where
 inA: ∀j∈s.told,InA s.asked j
 once:(s.told.map key).Nodup
 rsp: ∀j∈s.told,yC c j
noncomputable def dq(c:Cfg)(s:TSt):Bool:=@decide (uk c s) (Classical.propDecidable _)
theorem Ix(h:uk c s):dq c s=true:=by simp[dq,h]
theorem Ir(h: ¬uk c s):dq c s=false:=by simp[dq,h]
theorem Dl(f:pT s.words s.holds)(g:s.asked.length=3)(h:Jz c s.asked)(b:TQ c s.asked s.wait false)(d:TQ c s.asked s.done true)(e:uk c s)
 (i:(s.wait.length:Int)+s.done.length+s.told.length=s.asked.getD 0 default+s.asked.getD 1 default+s.asked.getD 2 default) (k: ∀j∈s.told,key j∉s.wait.map key/\key j∉s.done.map key) (l: ∀j∈s.done,key j∉s.wait.map key):kM c s:=by
 refine Ic f g h b.sorted d.sorted (fun j a=> ?_) (zy b.sorted d.sorted e.once k l) i (fun j a=>by simpa using b.rsp j a) fun j a=> ?_
 ·simp only[adD] at a;rcases a with(a|a)|a;·exact b.inA j a
  ·exact d.inA j a
  ·exact e.inA j a
 ·rcases adD.1 a with a|a;·have:=d.rsp j a;rwa [if_pos rfl] at this
  ·exact e.rsp j a
theorem kM.inA(h:kM c s): ∀j∈s.wait++s.done++s.told,InA s.asked j:=fun j a=>h.Eo (key j) (aeU a)
theorem kM.abA(h:kM c s):TQ c s.asked s.wait false:=⟨fun j a=>h.inA j (by simp[a]),h.TA,fun j a=>by simpa using h.jw j a⟩
theorem kM.abQ(h:kM c s):TQ c s.asked s.done true:=⟨fun j a=>h.inA j (by simp[a]),h.UP,fun j a=>by rw[if_pos rfl];exact h.YF j (by simp[a])⟩
theorem kM.abS(h:kM c s):uk c s:=⟨fun j a=>h.inA j (by simp[a]),h.apart.1,fun j a=>h.YF j (by simp[a])⟩
theorem WU{l:List Int}(h: ∀i,i<l.length->lo<=l.getD i default/\l.getD i default<=up):All l lo up:=fun x a=>by obtain⟨i,hi,rfl⟩:=adS.1 a;simpa [List.getD,hi] using h i hi
theorem ZA{l:List Int}(h:All l lo up){i:Nat}(hi:i<l.length):lo<=l.getD i default/\l.getD i default<=up:=h _ (by simp[List.getD,hi])
theorem iS{α:Type}[Inhabited α]{l:List α}{P:α->Prop}(h: ∀i,i<l.length->P (l.getD i default)): ∀x∈l,P x:=fun x a=>by obtain⟨i,hi,rfl⟩:=adS.1 a;simpa [List.getD,hi] using h i hi
structure gX where
 who:Int
 n:Int
 left:Int
 deriving Inhabited,DecidableEq
structure fF where
 next:Int
 queue:List Int
 out:List gX
 last:Int
 deriving Inhabited,DecidableEq
structure uM where
 pipe:List gX
 done:List Job
 last:Int
 deriving Inhabited,DecidableEq
structure CSt where
 words:List Int
 holds:List Int
 bJ:List fF
 bR:List uM
 told:List Job
 deriving Inhabited,DecidableEq
structure CIn where
 ready:List Bool
 nO:List Bool
 send:List Bool
 deriving Inhabited,DecidableEq
def iZ(m:List Rng)(q:Req):Int:=if eT m (bQ q.addr q.many q.wrap)<0 then 3 else (m.getD (eT m (bQ q.addr q.many q.wrap)).toNat default).W5
def aN(s:CSt)(k:Nat):fF:=s.bJ.getD k default
def aU(s:CSt)(k:Nat):uM:=s.bR.getD k default
def dG(l:List Job):List Job:=l.foldl iF []
def hZ(s:CSt)(k:Nat):List Job:=(aN s k).queue.map fun n=>⟨k,n,iL⟩
def fK(s:CSt)(k:Nat):List Job:=(aU s k).pipe.map fun j=>⟨j.who,j.n,iL⟩
def m7(s:CSt):List Job:=(List.range s.bJ.length).flatMap (hZ s)++(List.range s.bR.length).flatMap (fK s)
def pH(s:CSt):List Job:=(List.range s.bR.length).flatMap fun k=>(aU s k).done
def dN(s:CSt):TSt:=⟨s.words,s.holds,s.bJ.map (·.next),dG (m7 s),dG (pH s),s.told⟩
def HU{α:Type}(l:List α)(k:Nat):List α:=l.take k++l.drop (k+1)
def isC(n:Int)(j:gX):Bool:=decide (j.n=n)
def SF(l:List gX)(n:Int):List gX:=HU l (bK (isC n) l).toNat
inductive Mic where
 |tell (who st:Nat)
 |tick (st:Nat)
 |work (st:Nat)
 |adm (who st:Nat)
 |ask (who:Nat)
def NU(c:Cfg)(s:CSt)(who st:Nat):Prop:=0<(aN s who).queue.length/\(aN s who).out.length<4/\iZ c.map (bF c who ((aN s who).queue.getD 0 default))=st/\
 ∀j∈(aN s who).out,(bF c who j.n).id=(bF c who ((aN s who).queue.getD 0 default)).id->j.left=st
instance {c:Cfg} {s:CSt} {who st:Nat}:Decidable (NU c s who st):=by unfold NU;infer_instance
def UF(c:Cfg)(s:CSt):Mic->Prop
 | .tell who st=>who<3/\st<4/\0<(aU s st).done.length/\((aU s st).done.getD 0 default).who=who
 | .tick st=>st<4/\0<(aU s st).pipe.length/\0<((aU s st).pipe.getD 0 default).left
 | .work st=>st<4/\0<(aU s st).pipe.length/\ ¬0<((aU s st).pipe.getD 0 default).left/\(aU s st).done.length<2
 | .adm who st=>who<3/\st<4/\(aU s st).pipe.length<2/\NU c s who st
 | .ask who=>who<3/\(aN s who).queue.length<2/\(aN s who).next<(c.cH.getD who default).length
def nX(s:CSt)(st:Nat):Job:=(aU s st).done.getD 0 default
def eL(s:CSt)(st:Nat):gX:=(aU s st).pipe.getD 0 default
def K6(c:Cfg)(s:CSt)(st:Nat):(List Int×List Int)×Rsp:=doM c.map s.words s.holds (eL s st).who (bF c (eL s st).who (eL s st).n)
def bS(c:Cfg)(s:CSt):Mic->CSt
 | .tell who st=>{s with told:=s.told++[nX s st],bR:=s.bR.set st {aU s st with done:=(aU s st).done.drop 1},bJ:=s.bJ.set who {aN s who with out:=SF (aN s who).out (nX s st).n,last:=st}}
 | .tick st=>{s with bR:=s.bR.set st {aU s st with pipe:=(aU s st).pipe.set 0 {eL s st with left:=(eL s st).left-1}}}
 | .work st=>{s with words:=(K6 c s st).1.1,holds:=(K6 c s st).1.2,bR:=s.bR.set st {aU s st with pipe:=(aU s st).pipe.drop 1,done:=(aU s st).done++[⟨(eL s st).who,(eL s st).n,(K6 c s st).2⟩]}}
 | .adm who st=>{s with bJ:=s.bJ.set who {aN s who with queue:=(aN s who).queue.drop 1,out:=(aN s who).out++[⟨who,(aN s who).queue.getD 0 default,st⟩]},bR:=s.bR.set st {aU s st with pipe:=(aU s st).pipe++[⟨who,(aN s who).queue.getD 0 default,c.lat.getD st default⟩],last:=who}}
 | .ask who=>{s with bJ:=s.bJ.set who {aN s who with queue:=(aN s who).queue++[(aN s who).next],next:=(aN s who).next+1}}
def CZ(s:CSt):Mic->List Ev
 | .tell who st=>[⟨3,who,(nX s st).n⟩]
 | .work st=>[⟨2,(eL s st).who,(eL s st).n⟩]
 | .ask who=>[⟨1,who,(aN s who).next⟩]
 |_=>[]
theorem i7(l:List Job):(dG l).Perm l:=by
 have h: ∀(l acc:List Job),(l.foldl iF acc).Perm (acc++l):=by
  intro l
  induction l with
  |nil=>intro acc;simp
  |cons x l a=>intro acc;simp only[List.foldl_cons];refine(a _).trans ?_;refine((rH acc x).append_right l).trans ?_;simpa using afA.symm
 simpa [dG] using h l []
theorem yl(a:(l.map key).Nodup):gJ (dG l):=by
 have h: ∀(l acc:List Job),gJ acc->((acc++l).map key).Nodup->gJ (l.foldl iF acc):=by
  intro l
  induction l with
  |nil=>intro acc hs _;exact hs
  |cons x l b=>intro acc hs a;simp only[List.foldl_cons];have hp:(iF acc x++l).Perm (acc++x::l):=((rH acc x).append_right l).trans (by simpa using afA.symm);refine b _ (OT hs fun hm=> ?_) ((hp.map key).nodup_iff.2 a);rw[adF,aeM] at a;exact a.2.2 _ hm (key x) (by simp) rfl
 exact h l [] List.Pairwise.nil (by simpa using a)
theorem NY{a:List Job}(hs:gJ a)(hp:l.Perm a):dG l=a:=dw (yl ((hp.map key).nodup_iff.2 (HB hs))) hs fun x=>((i7 l).trans hp).mem_iff
theorem Ug{β:Type}{n:Nat}(e:k<n): ∃a b:List Nat,List.range n=a++k::b/\ ∀f g:Nat->List β,(∀i,i≠k->f i=g i)->a.flatMap f=a.flatMap g/\b.flatMap f=b.flatMap g:=by
 obtain⟨a,b,h⟩:=List.append_of_mem (aeS.2 e);have d:(List.range n).Nodup:=List.nodup_range;rw[h,aeM] at d;obtain⟨m,j,l⟩:=d;refine⟨a,b,h,fun f g c=>⟨?_,?_⟩⟩;·simp only[List.flatMap_def];congr 1;exact aeE fun i hi=>c i fun he=>l i hi k (by simp) he
 ·simp only[List.flatMap_def];congr 1;exact aeE fun i hi=>c i fun he=>(aeA.1 j).1 (he▸hi)
theorem zS{β:Type}[DecidableEq β]{n:Nat}(d:k<n){f g:Nat->List β}(c: ∀i,i≠k->f i=g i)(z:β):((List.range n).flatMap f).count z+(g k).count z=((List.range n).flatMap g).count z+(f k).count z:=by obtain⟨a,b,e,h⟩:=Ug (β:=β) d;obtain⟨j,l⟩:=h f g c;rw[e];simp only[agJ,afS,afB];rw[j,l];omega
theorem FB{α:Type}[Inhabited α]{l:List α}{i:Nat}{x:α}(a:k<l.length):(l.set k x).getD i default=if i=k then x else l.getD i default:=by
 simp only[List.getD,ae6];by_cases h:k=i;·subst h;simp[a]
 ·simp[h,Ne.symm h,eq_comm]
structure iK(c:Cfg)(who:Nat)(p:fF):Prop where
 next:0<=p.next/\p.next<=(c.cH.getD who default).length
 ql:p.queue.length<=2/\(p.queue.length:Int)<=p.next
 ol:p.out.length<=4
 last:0<=p.last/\p.last<=3
 queue: ∀i,i<p.queue.length->p.queue.getD i default=p.next-p.queue.length+i
 out: ∀j∈p.out,j.who=who/\(0<=j.n/\j.n<p.next-p.queue.length)/\j.left=iZ c.map (bF c who j.n)
 za:p.out.Pairwise fun a b=>a.n<b.n
 Kn: ∀a∈p.out,∀b∈p.out,(bF c who a.n).id=(bF c who b.n).id->a.left=b.left
def gZ(v:uM):List (Int×Int):=v.done.map key++v.pipe.map fun j=>(j.who,j.n)
structure p9(c:Cfg)(s:CSt)(st:Nat):Prop where
 pl:(aU s st).pipe.length<=2
 dl:(aU s st).done.length<=2
 last:0<=(aU s st).last/\(aU s st).last<=2
 inc:(gZ (aU s st)).Pairwise fun a b=>a.1=b.1->a.2<b.2
 out: ∀x∈gZ (aU s st),(0<=x.1/\x.1<=2)/\ ∃j∈(aN s x.1.toNat).out,j.n=x.2/\j.left=st
 rsp: ∀j∈(aU s st).done,yC c j
 left: ∀i,i<(aU s st).pipe.length->(0<=((aU s st).pipe.getD i default).left/\((aU s st).pipe.getD i default).left<=c.lat.getD st default)/\(0<i->((aU s st).pipe.getD i default).left=c.lat.getD st default)
def lM(s:CSt)(k:Nat):Nat:=(aU s k).pipe.length+(aU s k).done.length
structure COk(c:Cfg)(s:CSt):Prop where
 atm:QF s.words s.holds
 pl:s.bJ.length=3
 sl:s.bR.length=4
 port: ∀k,k<3->iK c k (aN s k)
 slv: ∀k,k<4->p9 c s k
 count:(aN s 0).out.length+(aN s 1).out.length+(aN s 2).out.length=lM s 0+lM s 1+lM s 2+lM s 3
 st:kM c (dN s)
theorem PG{s:CSt}:j∈m7 s↔(∃k,k<s.bJ.length/\ ∃m∈(aN s k).queue,j=⟨k,m,iL⟩)\/(∃st,st<s.bR.length/\ ∃x∈(aU s st).pipe,j=⟨x.who,x.n,iL⟩):=by
 unfold m7 hZ fK;simp only[adD,afD,aeS,ac9];constructor
 ·rintro(⟨k,a,m,hm,rfl⟩|⟨st,hs,x,b,rfl⟩);·exact .inl ⟨k,a,m,hm,rfl⟩
  ·exact .inr ⟨st,hs,x,b,rfl⟩
 ·rintro(⟨k,a,m,hm,rfl⟩|⟨st,hs,x,b,rfl⟩);·exact .inl ⟨k,a,m,hm,rfl⟩
  ·exact .inr ⟨st,hs,x,b,rfl⟩
theorem O5{s:CSt}:j∈pH s↔∃st,st<s.bR.length/\j∈(aU s st).done:=by unfold pH;simp only[afD,aeS]
theorem iK.asks{who:Nat}{p:fF}(h:iK c who p)(hw:who<3){n:Int}(a:0<=n)(b:n<p.next):kL c who n:=by have:=h.next;refine⟨by omega,a,?_⟩;rw[Int.toNat_natCast];omega
theorem iK.qIn{who:Nat}{p:fF}(h:iK c who p){m:Int}(hm:m∈p.queue):p.next-p.queue.length<=m/\m<p.next:=by obtain⟨i,hi,rfl⟩:=adS.1 hm;have:=h.queue i hi;simp only[List.getD,hi,ac8,Option.getD_some] at this;omega
theorem COk.vIn{s:CSt}(h:COk c s){st:Nat}(hs:st<4){x:Int×Int}(a:x∈gZ (aU s st)):(0<=x.1/\x.1<=2)/\0<=x.2/\x.2<(aN s x.1.toNat).next-(aN s x.1.toNat).queue.length:=by obtain⟨b,j,d,e,f⟩:=(h.slv st hs).out x a;have:=(h.port x.1.toNat (by omega)).out j d;exact⟨b,by omega,by omega⟩
theorem COk.same{s:CSt}(h:COk c s){st a:Nat}(hs:st<4)(d:a<4){x y:Int×Int}(e:x∈gZ (aU s st))(f:y∈gZ (aU s a))(he:x.1=y.1)(hi:(bF c x.1 x.2).id=(bF c y.1 y.2).id):st=a:=by
 obtain⟨n,j,g,i,o⟩:=(h.slv st hs).out x e;obtain⟨p,k,b,l,q⟩:=(h.slv a d).out y f;have hp:=h.port x.1.toNat (by omega);rw[<-he] at b
 have:=hp.Kn j g k b (by
  have m:((x.1.toNat:Nat):Int)=x.1:=by omega
  rw[m,i,l,hi,he])
 omega
theorem VB{v:uM}{x:gX}(h:x∈v.pipe):(x.who,x.n)∈gZ v:=aeN _ (ac9.2 ⟨x,h,rfl⟩)
theorem jn{v:uM}{x:Job}(h:x∈v.done):key x∈gZ v:=ad8 _ (aeU h)
theorem lQ{α:Type}[Inhabited α]{l:List α}(h:0<l.length):l=l.getD 0 default::l.drop 1:=by
 cases l with
 |nil=>simp at h
 |cons x l=>simp
theorem F6:j∈dG l↔j∈l:=(i7 l).mem_iff
theorem Oi{s:CSt}(a:k<s.bJ.length):(dN s).asked.getD k default=(aN s k).next:=by simp[dN,aN,List.getD,a]
theorem xi{s:CSt}(h:COk c s){m:Mic}(E:UF c s m): ∀e∈CZ s m,L7 c (dN s) e=0:=by
 intro e he;have J:=h.pl;have K:=h.sl
 cases m with
 |tick st=>simp[CZ] at he
 |adm who st=>simp[CZ] at he
 |ask who=>
  simp only[CZ,adN] at he;subst he;obtain⟨u,v,F⟩:=E;have hp:=h.port who u;have i:kL c (who:Int) (aN s who).next:=by refine⟨by omega,hp.next.1,?_⟩;rw[Int.toNat_natCast];omega
  unfold L7;dsimp only;rw[if_neg (by exact fun C=>C ⟨i,by omega,by omega⟩),if_pos rfl,if_neg];rw[Int.toNat_natCast,Oi (by omega)];simp
 |work st=>
  simp only[CZ,adN] at he;subst he;obtain⟨u,v,F,N⟩:=E;have j:eL s st∈(aU s st).pipe:=cC v;have B:=VB j;obtain⟨z,p,q⟩:=h.vIn u B;dsimp only at z p q;have hp:=h.port (eL s st).who.toNat (by omega);have L:(((eL s st).who.toNat:Nat):Int)=(eL s st).who:=by omega
  have i:kL c (eL s st).who (eL s st).n:=by have:=hp.asks (n:=(eL s st).n) (by omega) p (by have:=hp.ql;omega);rwa [L] at this
  have A: ¬bK (cO (eL s st).who (eL s st).n) (dN s).wait<0:=by have:0<=bK (cO (eL s st).who (eL s st).n) (dN s).wait:=sU.2 (ac9.2 ⟨⟨(eL s st).who,(eL s st).n,iL⟩,F6.2 (PG.2 (.inr ⟨st,by omega,eL s st,j,rfl⟩)),rfl⟩);omega
  unfold L7;dsimp only;rw[if_neg (by exact fun C=>C ⟨i,by omega,by omega⟩),if_neg (by omega),if_pos rfl,if_neg A,if_neg];rw[dU];rintro⟨x,D,r⟩;obtain⟨⟨a,d⟩,b⟩:=of_decide_eq_true r;dsimp only at a d b;rcases PG.1 (F6.1 D) with⟨k,G,m,hm,rfl⟩|⟨g,w,y,o,rfl⟩
  ·dsimp only at a d b;have M:=(h.port k (by omega)).qIn hm;have:(eL s st).who.toNat=k:=(by omega);rw[this] at q;omega
  ·dsimp only at a d b;have t:=h.same (by omega) u (VB o) B a b;subst t;have f:=(ae3.1 (h.slv g u).inc).2.1;rw[lQ v,adG,ad9] at f;rw[lQ v] at o;rcases adA.1 o with rfl|o;·unfold eL at d;omega
   ·have:=f.1 (y.who,y.n) (ac9.2 ⟨y,o,rfl⟩);dsimp only at this;unfold eL at a d;have:=this a.symm;omega
 |tell who st=>
  simp only[CZ,adN] at he;subst he;obtain⟨H,u,v,F⟩:=E;have j:nX s st∈(aU s st).done:=cC v;have B:=jn j;have l:(nX s st).who=who:=F;obtain⟨z,p,q⟩:=h.vIn u B;simp only[key] at z p q;rw[l,Int.toNat_natCast] at q;have hp:=h.port who H;have i:kL c (who:Int) (nX s st).n:=hp.asks H p (by have:=hp.ql;omega);have A: ¬bK (cO who (nX s st).n) (dN s).done<0:=by have:0<=bK (cO who (nX s st).n) (dN s).done:=sU.2 (ac9.2 ⟨nX s st,F6.2 (O5.2 ⟨st,by omega,j⟩),by simp[key,l]⟩);omega
  have f:=(h.slv st u).inc;unfold gZ at f;rw[lQ v,adG,List.cons_append,ad9] at f;unfold L7;dsimp only;rw[if_neg (by exact fun C=>C ⟨i,by omega,by omega⟩),if_neg (by omega),if_neg (by omega),if_neg A,if_neg];rw[dU,dU];rintro(⟨x,D,r⟩|⟨x,D,r⟩)
  ·obtain⟨⟨a,d⟩,b⟩:=of_decide_eq_true r;dsimp only at a d b;rcases PG.1 (F6.1 D) with⟨k,G,m,hm,rfl⟩|⟨g,w,y,o,rfl⟩
   ·dsimp only at a d b;have M:=(h.port k (by omega)).qIn hm;have:who=k:=(by omega);subst this;omega
   ·dsimp only at a d b;have t:=h.same (by omega) u (VB o) B (by simp only[key];rw[l];exact a) (by simp only[key];rw[l];exact b);subst t;have:=f.1 (y.who,y.n) (aeN _ (ac9.2 ⟨y,o,rfl⟩));have:=this (by show (nX s g).who=y.who;rw[l,a]);have I:(key ((aU s g).done.getD 0 default)).2=(nX s g).n:=rfl;dsimp only at this;omega
  ·obtain⟨⟨a,d⟩,b⟩:=of_decide_eq_true r;dsimp only at a d b;obtain⟨g,w,o⟩:=O5.1 (F6.1 D);have t:=h.same (by omega) u (jn o) B (by simp only[key];rw[l];exact a) (by simp only[key];rw[l];rw[a] at b;rw[a];exact b);subst t;rw[lQ v] at o;rcases adA.1 o with rfl|o;·unfold nX at d;omega
   ·have:=f.1 (key x) (ad8 _ (aeU o));have:=this (by show (nX s g).who=x.who;rw[l,a]);have I:(key ((aU s g).done.getD 0 default)).2=(nX s g).n:=rfl;simp only[key] at this I;omega
theorem qw(h:(l.map key).Nodup){a b:Job}(e:a∈l)(f:b∈l)(he:key a=key b):a=b:=by
 induction l with
 |nil=>simp at e
 |cons x l j=>
  rw[adG,aeA] at h;rcases adA.1 e with g|i
  ·rcases adA.1 f with c|d;·rw[g,c]
   ·exact absurd (ac9.2 ⟨b,d,by rw[<-he,g]⟩) h.1
  ·rcases adA.1 f with c|d;·exact absurd (ac9.2 ⟨a,i,by rw[he,c]⟩) h.1
   ·exact j h.2 i d
theorem cJ{s s':CSt}{who:Nat}{p:fF}(h:s'.bJ=s.bJ.set who p)(hw:who<s.bJ.length)(k:Nat):aN s' k=if k=who then p else aN s k:=by unfold aN;rw[h,FB hw]
theorem dE{s s':CSt}{st:Nat}{v:uM}(h:s'.bR=s.bR.set st v)(hw:st<s.bR.length)(k:Nat):aU s' k=if k=st then v else aU s k:=by unfold aU;rw[h,FB hw]
theorem Ii{s:CSt}(G:bG c)(h:COk c s){m:Mic}(D:UF c s m):dN (bS c s m)=runM c (dN s) (CZ s m):=by
 have Q:=h.pl;have R:=h.sl;have t:=xi h D
 cases m with
 |tick st=>
  obtain⟨F,v,E⟩:=D;have p:=fun k=>dE (s:=s) (s':=bS c s (.tick st)) rfl (by omega:st<s.bR.length) k;have w: ∀k,aN (bS c s (.tick st)) k=aN s k:=fun k=>rfl
  have S: ∀k,fK (bS c s (.tick st)) k=fK s k:=fun k=>by
   unfold fK;rw[p];split;·rename_i b;subst b;rw[lQ v];simp[eL]
   ·rfl
  have H: ∀k,(aU (bS c s (.tick st)) k).done=(aU s k).done:=fun k=>by
   rw[p];split;·rename_i b;subst b;rfl
   ·rfl
  have hl:(bS c s (.tick st)).bR.length=s.bR.length:=by simp[bS]
  simp only[CZ,runM,List.foldl_nil,dN,TSt.mk.injEq];refine⟨rfl,rfl,rfl,?_,?_,rfl⟩;·congr 1;unfold m7;rw[hl];simp only[List.flatMap_def];congr 2;exact aeE fun k _=>S k
  ·congr 1;unfold pH;rw[hl];simp only[List.flatMap_def];congr 1;exact aeE fun k _=>H k
 |adm who st=>
  obtain⟨P,F,v,E⟩:=D;have p:=fun k=>dE (s:=s) (s':=bS c s (.adm who st)) rfl (by omega:st<s.bR.length) k;have w:=fun k=>cJ (s:=s) (s':=bS c s (.adm who st)) rfl (by omega:who<s.bJ.length) k;have hl:(bS c s (.adm who st)).bR.length=s.bR.length:=by simp[bS]
  have u:(bS c s (.adm who st)).bJ.length=s.bJ.length:=by simp[bS]
  have H: ∀k,(aU (bS c s (.adm who st)) k).done=(aU s k).done:=fun k=>by
   rw[p];split;·rename_i b;subst b;rfl
   ·rfl
  simp only[CZ,runM,List.foldl_nil,dN,TSt.mk.injEq];refine⟨rfl,rfl,?_,?_,?_,rfl⟩
  ·apply af0 (by simp[bS]);intro i d j;simp only[bS,adE,adM] at d;simp only[bS,agK,List.getElem_set];split;·rename_i b;subst b;simp[aN,List.getD,d]
   ·rfl
  ·apply NY h.st.TA;refine List.Perm.trans ?_ (i7 _).symm;rw[afJ];intro z;have I:=zS (k:=who) (n:=s.bJ.length) (by omega) (f:=hZ (bS c s (.adm who st))) (g:=hZ s) (fun i hi=>by unfold hZ;rw[w,if_neg hi]) z;have A:=zS (k:=st) (n:=s.bR.length) (by omega) (f:=fK (bS c s (.adm who st))) (g:=fK s) (fun i hi=>by unfold fK;rw[p,if_neg hi]) z;have J:hZ (bS c s (.adm who st)) who=((aN s who).queue.drop 1).map fun n=>⟨who,n,iL⟩:=by unfold hZ;rw[w,if_pos rfl]
   have T:hZ s who=⟨who,(aN s who).queue.getD 0 default,iL⟩::((aN s who).queue.drop 1).map fun n=>⟨who,n,iL⟩:=by
    unfold hZ;conv=>lhs;rw[lQ E.1]
    rfl
   have B:fK (bS c s (.adm who st)) st=fK s st++[⟨who,(aN s who).queue.getD 0 default,iL⟩]:=(by unfold fK;rw[p,if_pos rfl];simp);rw[J,T] at I;rw[B] at A;unfold m7;rw[hl,u];simp only[afB,afK,List.count_nil] at*;omega
  ·congr 1;unfold pH;rw[hl];simp only[List.flatMap_def];congr 1;exact aeE fun k _=>H k
 |ask who=>
  obtain⟨P,F,v⟩:=D;have w:=fun k=>cJ (s:=s) (s':=bS c s (.ask who)) rfl (by omega:who<s.bJ.length) k;have u:(bS c s (.ask who)).bJ.length=s.bJ.length:=by simp[bS]
  have r:=HD G h.st (t ⟨1,who,(aN s who).next⟩ (adN.2 rfl));have y:dY c (dN s) ⟨1,who,(aN s who).next⟩= {dN s with asked:=(dN s).asked.set who ((aN s who).next+1),wait:=iF (dN s).wait ⟨who,(aN s who).next,iL⟩}:=by simp[dY]
  have l:=r.TA;rw[y] at l;simp only[CZ];rw[zH,y];simp only[runM,List.foldl_nil,dN,TSt.mk.injEq];refine⟨rfl,rfl,?_,?_,rfl,rfl⟩;·simp[bS,aeH]
  ·apply NY l;refine List.Perm.trans ?_ ((rH _ _).trans ((i7 _).cons _)).symm;rw[afJ];intro z;have I:=zS (k:=who) (n:=s.bJ.length) (by omega) (f:=hZ (bS c s (.ask who))) (g:=hZ s) (fun i hi=>by unfold hZ;rw[w,if_neg hi]) z;have J:hZ (bS c s (.ask who)) who=hZ s who++[⟨who,(aN s who).next,iL⟩]:=(by unfold hZ;rw[w,if_pos rfl];simp);have K:(List.range (bS c s (.ask who)).bR.length).flatMap (fK (bS c s (.ask who)))=(List.range s.bR.length).flatMap (fK s):=rfl;rw[J] at I;unfold m7;rw[u,K];simp only[afB,afK,List.count_nil] at*;omega
 |work st=>
  obtain⟨F,v,E,V⟩:=D;have p:=fun k=>dE (s:=s) (s':=bS c s (.work st)) rfl (by omega:st<s.bR.length) k;have hl:(bS c s (.work st)).bR.length=s.bR.length:=by simp[bS]
  have hw:=t ⟨2,(eL s st).who,(eL s st).n⟩ (adN.2 rfl);have r:=HD G h.st hw;have L:=(O1 hw).2
  have C: ¬bK (cO (eL s st).who (eL s st).n) (dN s).wait<0:=by
   rcases L with⟨b,_⟩|⟨b,hi⟩|⟨b,_⟩
   ·exact absurd b (by dsimp only;decide)
   ·exact hi
   ·exact absurd b (by dsimp only;decide)
  obtain⟨d,j⟩:=nR C;have y:dY c (dN s) ⟨2,(eL s st).who,(eL s st).n⟩= {dN s with words:=(K6 c s st).1.1,holds:=(K6 c s st).1.2,wait:=lT (dN s).wait (bK (cO (eL s st).who (eL s st).n) (dN s).wait).toNat,done:=iF (dN s).done ⟨(eL s st).who,(eL s st).n,(K6 c s st).2⟩}:=by simp only[dY,K6,dN,if_true,if_false,Int.reduceEq]
  have l:=r.TA;have o:=r.UP;rw[y] at l o;simp only[CZ];rw[zH,y];simp only[runM,List.foldl_nil];have q:(dN s).wait.getD (bK (cO (eL s st).who (eL s st).n) (dN s).wait).toNat default=⟨(eL s st).who,(eL s st).n,iL⟩:=by have hm:=cC d;have hr:=h.st.jw _ hm;generalize (dN s).wait.getD (bK (cO (eL s st).who (eL s st).n) (dN s).wait).toNat default=x at j hr;obtain⟨W,x2,X⟩:=x;simp only[key,Prod.mk.injEq] at j;dsimp only at hr;rw[j.1,j.2,hr]
  have e:=IY d;rw[q] at e
  have M:dG (m7 (bS c s (.work st)))=lT (dN s).wait (bK (cO (eL s st).who (eL s st).n) (dN s).wait).toNat:=by
   apply NY l;refine List.Perm.cons_inv (a:=⟨(eL s st).who,(eL s st).n,iL⟩) ?_;refine List.Perm.trans ?_ ((i7 _).symm.trans e);rw[afJ];intro z;have A:=zS (k:=st) (n:=s.bR.length) (by omega) (f:=fK (bS c s (.work st))) (g:=fK s) (fun i hi=>by unfold fK;rw[p,if_neg hi]) z
   have B:fK s st=⟨(eL s st).who,(eL s st).n,iL⟩::fK (bS c s (.work st)) st:=by
    unfold fK;rw[p,if_pos rfl];conv=>lhs;rw[lQ v]
    rfl
   have K:(List.range (bS c s (.work st)).bJ.length).flatMap (hZ (bS c s (.work st)))=(List.range s.bJ.length).flatMap (hZ s):=rfl;rw[B] at A;unfold m7;rw[hl,K];simp only[afB,afK,List.count_nil] at*;omega
  have N:dG (pH (bS c s (.work st)))=iF (dN s).done ⟨(eL s st).who,(eL s st).n,(K6 c s st).2⟩:=by apply NY o;refine List.Perm.trans ?_ ((rH _ _).trans ((i7 _).cons _)).symm;rw[afJ];intro z;have A:=zS (k:=st) (n:=s.bR.length) (by omega) (f:=fun k=>(aU (bS c s (.work st)) k).done) (g:=fun k=>(aU s k).done) (fun i hi=>by rw[p,if_neg hi]) z;have B:(aU (bS c s (.work st)) st).done=(aU s st).done++[⟨(eL s st).who,(eL s st).n,(K6 c s st).2⟩]:=(by rw[p,if_pos rfl]);rw[B] at A;unfold pH;rw[hl];simp only[afB,afK,List.count_nil] at*;omega
  show TSt.mk _ _ _ (dG (m7 (bS c s (.work st)))) (dG (pH (bS c s (.work st)))) _=_;rw[M,N];rfl
 |tell who st=>
  obtain⟨P,F,v,E⟩:=D;have O:(nX s st).who=who:=E;have p:=fun k=>dE (s:=s) (s':=bS c s (.tell who st)) rfl (by omega:st<s.bR.length) k;have w:=fun k=>cJ (s:=s) (s':=bS c s (.tell who st)) rfl (by omega:who<s.bJ.length) k;have hl:(bS c s (.tell who st)).bR.length=s.bR.length:=by simp[bS]
  have u:(bS c s (.tell who st)).bJ.length=s.bJ.length:=by simp[bS]
  have hw:=t ⟨3,who,(nX s st).n⟩ (adN.2 rfl);have r:=HD G h.st hw;have L:=(O1 hw).2
  have C: ¬bK (cO who (nX s st).n) (dN s).done<0:=by
   rcases L with⟨b,_⟩|⟨b,hi⟩|⟨b,hi⟩
   ·exact absurd b (by dsimp only;decide)
   ·exact absurd b (by dsimp only;decide)
   ·exact hi
  obtain⟨d,j⟩:=nR C;have y:dY c (dN s) ⟨3,who,(nX s st).n⟩= {dN s with told:=(dN s).told++[(dN s).done.getD (bK (cO who (nX s st).n) (dN s).done).toNat default],done:=lT (dN s).done (bK (cO who (nX s st).n) (dN s).done).toNat}:=by simp only[dY,if_false,Int.reduceEq]
  have o:=r.UP;rw[y] at o;simp only[CZ];rw[zH,y];simp only[runM,List.foldl_nil];have q:(dN s).done.getD (bK (cO who (nX s st).n) (dN s).done).toNat default=nX s st:=by refine qw (HB h.st.UP) (cC d) (F6.2 (O5.2 ⟨st,by omega,cC v⟩)) ?_;rw[j];simp[key,O]
  have e:=IY d;rw[q] at e
  have M:dG (m7 (bS c s (.tell who st)))=(dN s).wait:=by
   show dG _=dG _;congr 1;unfold m7;rw[hl,u];simp only[List.flatMap_def];congr 2
   ·exact aeE fun k _=>by
     unfold hZ;rw[w];split;·rename_i b;subst b;rfl
     ·rfl
   ·exact aeE fun k _=>by
     unfold fK;rw[p];split;·rename_i b;subst b;rfl
     ·rfl
  have N:dG (pH (bS c s (.tell who st)))=lT (dN s).done (bK (cO who (nX s st).n) (dN s).done).toNat:=by apply NY o;apply List.Perm.cons_inv (a:=nX s st);refine List.Perm.trans ?_ ((i7 _).symm.trans e);rw[afJ];intro z;have A:=zS (k:=st) (n:=s.bR.length) (by omega) (f:=fun k=>(aU (bS c s (.tell who st)) k).done) (g:=fun k=>(aU s k).done) (fun i hi=>by rw[p,if_neg hi]) z;have B:(aU s st).done=nX s st::(aU (bS c s (.tell who st)) st).done:=(by rw[p,if_pos rfl];exact lQ v);rw[B] at A;unfold pH;rw[hl];simp only[afB,afK,List.count_nil] at*;omega
  have U:(bS c s (.tell who st)).bJ.map (·.next)=s.bJ.map (·.next):=by
   apply af0 (by simp[bS]);intro i d j;simp only[bS,adE,adM] at d;simp only[bS,agK,List.getElem_set];split;·rename_i b;subst b;simp[aN,List.getD,d]
   ·rfl
  show TSt.mk _ _ ((bS c s (.tell who st)).bJ.map (·.next)) (dG (m7 (bS c s (.tell who st)))) (dG (pH (bS c s (.tell who st)))) (s.told++[nX s st])=_;rw[M,N,U,q];rfl
end Go.AM
namespace Go.AM
open Go.RowKit
def abU(k:IntKind)(w:World)(a:Option Addr)(len cap:Nat)(zs:List Int):Prop:=
 (a=none/\len=0/\cap=0/\zs=[])\/
 ∃x,a=some x/\len<=cap/\cap<=maxLen/\zs.length=cap/\(∀i,i<zs.length->w.cell? (x.add i)=some (.int k (zs.getD i 0)))/\ ∀n∈zs,(Lit.int k n).wf=true
theorem zx{P:Program}{f:FuncId}{l:List Int}{w:World}{v:Value}{I:Nat->Prop}(h:aC P f [dS (l.map eU8)] .nil 0 fun n _ _=>n.plain=true/\n=dB true)(t: ∀b,I b->b<w.heap.size)(y:Imm I w (.isl (l.map eU8)) v):
 Calls P f #[v] w fun e p=>e= .returned (.bool true)/\Below w.heap.size w p:=by
 have c: ∀b,¬B0 ⟨fun _=>(0,0),fun _=>False,I,w⟩ .nil b:=by rintro b ⟨id,o,h,_⟩;cases h
 have g:St ⟨fun _=>(0,0),fun _=>False,I,w⟩ .nil:=⟨fun id o h=>(by cases h),fun id o h=>(by cases h),fun id o h=>(by cases h),fun id o i j r d h=>(by cases h),fun id z o o' h=>(by cases h),fun id o h=>(by cases h),t⟩
 refine(h.2 ⟨fun _=>(0,0),fun _=>False,I,w⟩ [v] g (fun i hi=>hi.elim) rfl (fun i d u m q=> ?_)).mono ?_
 ·match i with
  |0=>simp at m q;subst m;subst q;exact y
  |i+1=>simp at m
 ·rintro x p ⟨u,c',r,H',nx',rfl,rfl,B,a,C,D,s,E,rfl⟩;have hu:u= .bool true:=by simp only[iA,mH,Rel,cX] at s;cases s;rfl
  subst hu;exact⟨rfl,a.os,a.tape,a.output,a.size,fun k A=>a.frame k A (c k)⟩
theorem ac0{P:Program}{f:FuncId}(h: ∀l:List Int,(∀x∈l,0<=x/\x<256)->aC P f [dS (l.map eU8)] .nil 0 fun A _ _=>A.plain=true/\A=dB true)(B:Option Addr)(len0 a:Nat)(k:List Int)(w:World)(D:abU .u8 w B len0 a k):
 Calls P f #[.slice B len0 a] w fun e E=>e= .returned (.bool true)/\Below w.heap.size w E:=by
 rcases D with⟨rfl,rfl,rfl,rfl⟩|⟨x,rfl,hl,hm,G,hc,hw⟩
 ·refine zx (I:=fun _=>False) (h [] (fun x F=>by cases F)) (fun b p=>p.elim) ?_;exact .isl [] none 0 1 0 0 (fun _ _=>.int .u8 0) (fun h=>absurd rfl h) (ac1 _) (fun i r h=>by simp at h) (fun i j r d h=>by simp at h) (fun i j r d h=>by simp at h)
 ·have q:(k.take len0).length=len0:=by simp;omega
  have t: ∀y∈k.take len0,0<=y/\y<256:=fun y g=>by have:=bounds_u8 (hw y (List.take_subset _ _ g));omega
  refine zx (I:=fun b=>b=x.block/\0<len0) (h (k.take len0) t) (fun b p=> ?_) ?_;·obtain⟨rfl,m⟩:=p;have:=World.block_lt_of_cell? w _ (hc 0 (by omega));simpa [Addr.add] using this
  ·have key:=Imm.isl (I:=fun b=>b=x.block/\0<len0) (w:=w) ((k.take len0).map eU8) (some x) a 1 x.block x.off (fun i _=>.int .u8 (k.getD i 0)) (fun u=> ?_) (by simp;omega) (fun i r hr=> ?_) (fun i j r d hr n=> ?_) (fun i j r d hr n=> ?_);·rw[adE,q] at key;exact key
   ·have m:0<len0:=by
     rcases aeO len0 with m|m
     ·subst m;exact absurd (by simp) u
     ·exact m
    have c:=World.cell?_spot (hc 0 (by omega))
    refine⟨?_,rfl,m⟩
    obtain⟨b,o,s⟩:=x
    simp only[Addr.add,if_true] at c
    subst c
    rfl
   ·obtain⟨y,_,rfl⟩:=ac9.1 (adI hr);rfl
   ·rw[adJ] at hr;obtain⟨y,g,rfl⟩:=adC.1 hr
    match j with
    |0=>
     have hi:i<len0:=(by have:=(adB.1 g).1;omega);have C:=hc i (by omega);have c:=World.cell?_spot (hc 0 (by omega));obtain⟨b,o,s⟩:=x;simp only[Addr.add,if_true] at c;subst c
     have e:(Addr.mk b o none).add i=⟨b,o+(i*1+0),none⟩:=by
      unfold Addr.add;split;·rename_i h;subst h;simp
      ·simp
     rw[e] at C;exact C
    |j+1=>simp[eU8] at n
   ·rw[adJ] at hr;obtain⟨y,g,rfl⟩:=adC.1 hr
    match j with
    |0=>
     simp only[eU8,List.getElem?_cons_zero,Option.some.injEq] at n;subst n
     have z:y=k.getD i 0:=by
      rw[ad2] at g;split at g;·simp[List.getD,g]
      ·cases g
     subst z;exact .v _ rfl
    |j+1=>simp[eU8] at n
end Go.AM
namespace Go.Proofs.YtlncecohbakleaaGreat
open Go Go.AM
def rA:AC:= (SR [RV 4 kF] [0,1] (.seq (SR [RM 6 0,RN 7 6,RM 8 1,RN 9 8,RB 10 .neq 7 9] [0,1,10] (.cond 10 (SR [RV 4 kF] [4] .ret) .skip)) (.seq (SR [RV 5 (ki 0)] [0,1,5] (.block 0 (.loop (.seq (SR [RM 11 5,RM 12 0,RN 13 12,RB 14 .lss 11 13] [0,1,5,14] (.cond 14 .skip (.exit 0))) (.seq (.block 1 (SR [RM 17 0,RM 18 5,RI 19 3 17 18,RD 20 3 19,RM 21 1,RM 22 5,RI 23 3 21 22,RD 24 3 23,rq 25 (.xop (.aeq true 3) [20,24])] [0,1,5,25] (.cond 25 (SR [RV 4 kF] [4] .ret) .skip))) (RG [RM 15 5,RB 16 .add 15 (ki 1),RM 5 16] [0,1,5])))))) (SR [RV 4 kT] [4] .ret))))
def JP:List aX:=[.tm 4]
theorem VW:aS ag0 Tryz.f31 (bA rA)=some (rA,JP):=by kernel_rfl
def BP:AC:= (SR [RO 2 0,RO 3 1,RV 4 kF] [2,3] (SR [RF 5 0 2,RD 6 2 5,RF 7 0 3,RD 8 2 7,RC 9 KC [6,8],RM 10 9,GF 11 2 2 10 true,GL 12 11 10 true,GF 13 2 3 10 true,GL 14 13 10 true,GQ 15 (.call oU [12,14]) 10 true,RP 16 10 15 kF,RM 17 16,GF 18 3 2 17 true,GL 19 18 17 true,GF 20 3 3 17 true,GL 21 20 17 true,GQ 22 (.call sJ [19,21]) 17 true,RP 23 17 22 kF,RM 24 23,GF 25 4 2 24 true,GL 26 25 24 true,GF 27 4 3 24 true,GL 28 27 24 true,GQ 29 (.call sJ [26,28]) 24 true,RP 30 24 29 kF,RM 31 30,GF 32 5 2 31 true,GL 33 32 31 true,GF 34 5 3 31 true,GL 35 34 31 true,GQ 36 (.call sJ [33,35]) 31 true,RP 37 31 36 kF,RM 4 37] [4] .ret))
def RE:List aX:=[.tm 4]
theorem oh:aS ag0 Tryz.f52 (bA BP)=some (BP,RE):=by kernel_rfl
def qY:AC:= (SR [RV 2 kF] [0] (.seq (SR [RM 9 0,RN 10 9,RB 11 .gtr 10 (ki 1048576)] [0,11] (.cond 11 (SR [RV 2 kT] [2] .ret) .skip)) (SR [RM 13 0,RC 14 qA [13],RM 12 14,rq 15 (.ext 12 0),rq 16 (.ext 12 1),rq 17 (.ext 12 2),RA 3 [OZ,OZ,OZ],RA 4 [OZ,OZ,OZ,OZ,OZ],RA 5 [OZ,OZ,OZ],WS 3 true 3 15,WS 5 true 4 16,WS 3 true 5 17] [3,4,5] (SR [RD 18 3 3,RD 19 5 4,RD 20 3 5,RC 21 rS [18,19,20],RM 6 21] [3,4,5,6] (.seq (SR [RM 22 6,RD 23 3 3,RD 24 5 4,RD 25 3 5,RC 26 rN [23,24,25],RC 27 tZ [22,26],RU 28 27] [3,4,5,6,28] (.cond 28 (SR [RV 2 kF] [2] .ret) .skip)) (.seq (SR [RD 29 3 3,RD 30 5 4,RC 31 ED [29,30],RU 32 31,RM 33 32,GQ 34 (.load 3 true 5) 33 false,GQ 35 (.call BW [34]) 33 false,GU 36 35 33 false,RP 37 33 kT 36] [3,4,5,6,37] (.cond 37 (SR [RM 38 6,RN 39 38,RB 40 .eql 39 (ki 0),RM 41 40,GQ 42 (.call G8 []) 41 true,RP 43 41 42 kF,RM 2 43] [2] .ret) .skip)) (.seq (.region [RX 45 (.load 3 true 3) [8] [] true 0,RX 46 (.load 5 true 4) [8] [] false 1,RM 48 6 3,RA 7 [OZ,OZ,OZ,OZ,OZ,OZ] 8,RX 47 (.call sY [46]) [8] [0] false 2,RX 49 (.call BJ [45,47,48]) [8] [] false 4,RM 44 49 5,rq 50 (.ext 44 0) 6,rq 51 (.ext 44 1) 7,WS 6 true 7 50 9,RM 8 51 10] 11 [3,4,5,6,7,8]) (SR [RM 52 8,RM 53 6,RN 54 53,RB 55 .eql 52 54,RM 56 55,RY (some 57) (.load 6 true 7) (some (56,true)) [] [] true,GQ 58 (.load 3 true 3) 56 true,GQ 59 (.load 5 true 4) 56 true,GQ 60 (.load 3 true 5) 56 true,RY (some 61) (.call GG [58,59,60]) (some (56,true)) [] [5] false,RY (some 62) (.call sY [61]) (some (56,true)) [] [5] false,GQ 63 (.call wQ [57,62]) 56 true,RP 64 56 63 kF,RM 2 64] [2] .ret))))))))
def JD:List aX:=[.tm 2]
theorem VA:aS ag0 Tryz.f6 (bA qY)=some (qY,JD):=by kernel_rfl
end Go.Proofs.YtlncecohbakleaaGreat
