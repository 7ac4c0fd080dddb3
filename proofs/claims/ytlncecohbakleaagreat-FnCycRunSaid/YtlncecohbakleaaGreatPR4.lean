/- Rules and contracts. -/
import Derived.Test.YtlncecohbakleaaGreatPR3
import Derived.OpenShut
set_option linter.unusedVariables false
set_option linter.unusedSimpArgs false
set_option maxRecDepth 100000
set_option maxHeartbeats 8000000
namespace Go.AM
structure Rng where
 lo:Int
 hi:Int
 VW:Int
 only:Bool
 deriving Inhabited,DecidableEq
structure Req where
 id:Int
 kind:Int
 addr:Int
 many:Int
 wrap:Bool
 data:List Int
 lanes:List Int
 deriving Inhabited,DecidableEq
structure Rsp where
 id:Int
 code:Int
 data:List Int
 deriving Inhabited,DecidableEq
structure Job where
 who:Int
 n:Int
 rsp:Rsp
 deriving Inhabited,DecidableEq
structure Ev where
 kind:Int
 who:Int
 n:Int
 deriving Inhabited,DecidableEq
structure Cfg where
 map:List Rng
 lat:List Int
 cN:List (List Req)
 deriving Inhabited,DecidableEq
theorem aV(x:Int):(aH x).length=1/\(aH x).all D1.eS=true:=⟨rfl,rfl⟩
def cX(r:Rng):List D1:=[cI r.lo,cI r.hi,cI r.VW,cB r.only]
variable{r:Rng}
theorem Pj:(cX r).length=4:=rfl
theorem Dv:(cX r).take 1=[cI r.lo]:=rfl
theorem Df:(cX r).drop 1=[cI r.hi,cI r.VW,cB r.only]:=rfl
theorem Bi:(cX r).take 2=[cI r.lo,cI r.hi]:=rfl
theorem Cw:(cX r).drop 2=[cI r.VW,cB r.only]:=rfl
theorem Ck:(cX r).take 3=[cI r.lo,cI r.hi,cI r.VW]:=rfl
theorem Be:(cX r).drop 3=[cB r.only]:=rfl
theorem Dt:(cX r).take 4=cX r:=rfl
theorem El:(cX r).drop 4=[]:=rfl
variable{cs:List D1}{k:Nat}
theorem Hr:j9 cs (k+1) (cX r)=j9 cs (k+1) [cI r.lo,cI r.hi,cI r.VW,cB r.only]:=rfl
theorem N5(r:Rng):(cX r).length=4/\(cX r).all D1.eS=true:=⟨rfl,rfl⟩
attribute [go_sem] Pj Dv Df Bi Cw Ck Be Dt El Hr
def dM(q:Req):List D1:=[cI q.id,cI q.kind,cI q.addr,cI q.many,cB q.wrap,.isl (q.data.map aH),.isl (q.lanes.map aH)]
variable{q:Req}
theorem Nt:(dM q).length=7:=rfl
theorem Fe:(dM q).take 1=[cI q.id]:=rfl
theorem Fc:(dM q).drop 1=[cI q.kind,cI q.addr,cI q.many,cB q.wrap,.isl (q.data.map aH),.isl (q.lanes.map aH)]:=rfl
theorem Fg:(dM q).take 2=[cI q.id,cI q.kind]:=rfl
theorem Ez:(dM q).drop 2=[cI q.addr,cI q.many,cB q.wrap,.isl (q.data.map aH),.isl (q.lanes.map aH)]:=rfl
theorem Cu:(dM q).take 3=[cI q.id,cI q.kind,cI q.addr]:=rfl
theorem Cb:(dM q).drop 3=[cI q.many,cB q.wrap,.isl (q.data.map aH),.isl (q.lanes.map aH)]:=rfl
theorem Ej:(dM q).take 4=[cI q.id,cI q.kind,cI q.addr,cI q.many]:=rfl
theorem Ed:(dM q).drop 4=[cB q.wrap,.isl (q.data.map aH),.isl (q.lanes.map aH)]:=rfl
theorem Av:(dM q).take 5=[cI q.id,cI q.kind,cI q.addr,cI q.many,cB q.wrap]:=rfl
theorem Au:(dM q).drop 5=[.isl (q.data.map aH),.isl (q.lanes.map aH)]:=rfl
theorem Bd:(dM q).take 6=[cI q.id,cI q.kind,cI q.addr,cI q.many,cB q.wrap,.isl (q.data.map aH)]:=rfl
theorem Ax:(dM q).drop 6=[.isl (q.lanes.map aH)]:=rfl
theorem As:(dM q).take 7=dM q:=rfl
theorem Et:(dM q).drop 7=[]:=rfl
theorem Kz:j9 cs (k+1) (dM q)=j9 cs (k+1) [cI q.id,cI q.kind,cI q.addr,cI q.many,cB q.wrap,.isl (q.data.map aH),.isl (q.lanes.map aH)]:=rfl
theorem uh(q:Req):(dM q).length=7/\(dM q).all D1.eS=true:=⟨rfl,rfl⟩
attribute [go_sem] Nt Fe Fc Fg Ez Cu Cb Ej Ed Av Au Bd Ax As Et Kz
def mS(r:Rsp):List D1:=[cI r.id,cI r.code,.isl (r.data.map aH)]
theorem Og{r:Rsp}:(mS r).length=3:=rfl
theorem Ds{r:Rsp}:(mS r).take 1=[cI r.id]:=rfl
theorem Ba{r:Rsp}:(mS r).drop 1=[cI r.code,.isl (r.data.map aH)]:=rfl
theorem Ai{r:Rsp}:(mS r).take 2=[cI r.id,cI r.code]:=rfl
theorem Cq{r:Rsp}:(mS r).drop 2=[.isl (r.data.map aH)]:=rfl
theorem Bp{r:Rsp}:(mS r).take 3=mS r:=rfl
theorem Ew{r:Rsp}:(mS r).drop 3=[]:=rfl
theorem Lu{r:Rsp}:j9 cs (k+1) (mS r)=j9 cs (k+1) [cI r.id,cI r.code,.isl (r.data.map aH)]:=rfl
attribute [go_sem] Og Ds Ba Ai Cq Bp Ew Lu
def aT(j:Job):List D1:=[cI j.who,cI j.n,cI j.rsp.id,cI j.rsp.code,.isl (j.rsp.data.map aH)]
variable{j:Job}
theorem Ol:(aT j).length=5:=rfl
theorem An:(aT j).take 1=[cI j.who]:=rfl
theorem Fi:(aT j).drop 1=[cI j.n,cI j.rsp.id,cI j.rsp.code,.isl (j.rsp.data.map aH)]:=rfl
theorem Eg:(aT j).take 2=[cI j.who,cI j.n]:=rfl
theorem Ec:(aT j).drop 2=[cI j.rsp.id,cI j.rsp.code,.isl (j.rsp.data.map aH)]:=rfl
theorem Bl:(aT j).take 3=[cI j.who,cI j.n,cI j.rsp.id]:=rfl
theorem Ek:(aT j).drop 3=[cI j.rsp.code,.isl (j.rsp.data.map aH)]:=rfl
theorem Ak:(aT j).take 4=[cI j.who,cI j.n,cI j.rsp.id,cI j.rsp.code]:=rfl
theorem Bf:(aT j).drop 4=[.isl (j.rsp.data.map aH)]:=rfl
theorem Cr:(aT j).take 5=aT j:=rfl
theorem Am:(aT j).drop 5=[]:=rfl
theorem Kj:j9 cs (k+1) (aT j)=j9 cs (k+1) [cI j.who,cI j.n,cI j.rsp.id,cI j.rsp.code,.isl (j.rsp.data.map aH)]:=rfl
theorem dQ(j:Job):(aT j).length=5/\(aT j).all D1.eS=true:=⟨rfl,rfl⟩
attribute [go_sem] Ol An Fi Eg Ec Bl Ek Ak Bf Cr Am Kj
def eEv(v:Ev):List D1:=[cI v.kind,cI v.who,cI v.n]
variable{v:Ev}
theorem Tn:(eEv v).length=3:=rfl
theorem Jl:(eEv v).take 1=[cI v.kind]:=rfl
theorem Kd:(eEv v).drop 1=[cI v.who,cI v.n]:=rfl
theorem Lb:(eEv v).take 2=[cI v.kind,cI v.who]:=rfl
theorem Hc:(eEv v).drop 2=[cI v.n]:=rfl
theorem Kk:(eEv v).take 3=eEv v:=rfl
theorem Jy:(eEv v).drop 3=[]:=rfl
theorem Mq:j9 cs (k+1) (eEv v)=j9 cs (k+1) [cI v.kind,cI v.who,cI v.n]:=rfl
theorem HF(v:Ev):(eEv v).length=3/\(eEv v).all D1.eS=true:=⟨rfl,rfl⟩
attribute [go_sem] Tn Jl Kd Lb Hc Kk Jy Mq
abbrev Prog:=List Req
def kN(p:Prog):List D1:=[.isl (p.map dM)]
theorem Hv{p:Prog}:(kN p).length=1:=rfl
theorem xn{p:Prog}:(kN p).take 1=[.isl (p.map dM)]:=rfl
theorem xi{p:Prog}:(kN p).drop 1=[]:=rfl
theorem Dz{p:Prog}:j9 cs (k+1) (kN p)=j9 cs (k+1) [.isl (p.map dM)]:=rfl
theorem dr(p:Prog):(kN p).length=1/\(kN p).all D1.eS=true:=⟨rfl,rfl⟩
attribute [go_sem] Hv xn xi Dz
def bI(c:Cfg):List D1:=[.isl (c.map.map cX),.isl (c.lat.map aH),.isl (c.cN.map kN)]
variable{c:Cfg}
theorem Pv:(bI c).length=3:=rfl
theorem Dx:(bI c).take 1=[.isl (c.map.map cX)]:=rfl
theorem Ct:(bI c).drop 1=[.isl (c.lat.map aH),.isl (c.cN.map kN)]:=rfl
theorem Fa:(bI c).take 2=[.isl (c.map.map cX),.isl (c.lat.map aH)]:=rfl
theorem Bo:(bI c).drop 2=[.isl (c.cN.map kN)]:=rfl
theorem Di:(bI c).take 3=bI c:=rfl
theorem Fh:(bI c).drop 3=[]:=rfl
theorem Ik:j9 cs (k+1) (bI c)=j9 cs (k+1) [.isl (c.map.map cX),.isl (c.lat.map aH),.isl (c.cN.map kN)]:=rfl
theorem Gq(c:Cfg):(bI c).length=3/\(bI c).all D1.eS=true:=⟨rfl,rfl⟩
attribute [go_sem] Pv Dx Ct Fa Bo Di Fh Ik
def pF(addr many:Int)(wrap:Bool):Prop:=(many=1\/many=2\/many=4)/\(0<=addr/\addr<=63)/\(wrap=true\/addr+many-1<=63)
instance {addr many:Int} {wrap:Bool}:Decidable (pF addr many wrap):=by unfold pF;infer_instance
def inR(r:Rng)(a:Int):Bool:=decide (r.lo<=a/\a<=r.hi)
def bP{α:Type}(p:α->Bool)(l:List α):Int:=match l.findIdx? p with
 |some k=>k
 |none=>-1
theorem CU{α:Type}[Inhabited α]{p:α->Bool}{l:List α}(b:k<l.length)(h:p (l.getD k default)=true)(hinv: ∀i,i<k->p (l.getD i default)=false):bP p l=k:=by
 have:l.findIdx? p=some k:=by
  rw[adW];refine⟨b,by simpa [List.getD,b] using h,fun j c=> ?_⟩;have:=hinv j c;have a:j<l.length:=by omega
  simpa [List.getD,a] using this
 simp[bP,this]
theorem qC{α:Type}[Inhabited α]{p:α->Bool}{l:List α}(hinv: ∀i,i<l.length->p (l.getD i default)=false):bP p l= -1:=by
 have:l.findIdx? p=none:=by rw[ae4];intro x a;obtain⟨i,hi,rfl⟩:=ab6.1 a;have:=hinv i hi;simpa [List.getD,hi] using this
 simp[bP,this]
theorem S1{α:Type}{p:α->Bool}{l:List α}:bP p l<l.length:=by
 unfold bP;split;·rename_i k h;have:=(adW.1 h).1;omega
 ·omega
theorem Sw{α:Type}{p:α->Bool}{l:List α}: -1<=bP p l:=by unfold bP;split<;>omega
theorem bL{P:Nat->Prop}(h: ∀i,i<k->P i)(a:P k): ∀i,i<k+1->P i:=fun i hi=>by
 rcases aeN.1 hi with hi|rfl;·exact h i hi
 ·exact a
def eL(l:List Rng)(all:List Int):Int:=if all.length=0 then-1 else if all.all (fun a=>decide (bP (inR · a) l=bP (inR · (all.getD 0 default)) l)) then bP (inR · (all.getD 0 default)) l else-1
variable{all:List Int}
theorem X5{l:List Rng}(h:all.length=0):eL l all= -1:=by simp[eL,h]
theorem QZ{l:List Rng}(h: ¬all.length=0)(hinv: ∀i,i<all.length->1<=i->bP (inR · (all.getD i default)) l=bP (inR · (all.getD 0 default)) l):eL l all=bP (inR · (all.getD 0 default)) l:=by
 unfold eL;rw[if_neg h,if_pos];rw[abX];intro a b;obtain⟨i,hi,rfl⟩:=ab6.1 b;rcases ac3 i with rfl|hp;·simp[List.getD,hi]
 ·have:=hinv i hi hp;simp only[List.getD,hi,abO,Option.getD_some] at this;exact decide_eq_true this
theorem N7{l:List Rng}{i:Nat}(h:i<all.length)(b: ¬bP (inR · (all.getD i default)) l=bP (inR · (all.getD 0 default)) l):eL l all= -1:=by unfold eL;rw[if_neg (by omega),if_neg];rw[abX];intro a;have:=a (all.getD i default) (by simp[List.getD,h]);exact b (of_decide_eq_true this)
def wrM(q:Req):Bool:=decide (q.kind=2\/q.kind=4)
def bAt(addr many:Int)(wrap:Bool)(k:Nat):Int:=if wrap then addr-addr%many+(addr+k)%many else addr+k
def bO(addr many:Int)(wrap:Bool):List Int:=if pF addr many wrap then (List.range many.toNat).map (bAt addr many wrap) else []
variable{addr many:Int}{wrap:Bool}
theorem VR(h:pF addr many wrap): ¬many=0/\0<many/\many<=4/\0<=addr/\addr<=63/\addr.tmod many=addr%many/\0<=addr%many/\addr%many<=addr:=by obtain⟨a,b,c⟩:=h;rw[ac0 (by omega)];rcases a with rfl|rfl|rfl<;>omega
theorem qq(h:pF addr many wrap)(k:Nat)(b:k<many.toNat):0<=(addr-(addr-addr%many)+k).tmod many/\(addr-(addr-addr%many)+k).tmod many<4/\addr-addr%many+(addr-(addr-addr%many)+k).tmod many=addr-addr%many+(addr+k)%many:=by obtain⟨a,c,d⟩:=h;rw[ac0 (by rcases a with rfl|rfl|rfl<;>omega)];rcases a with rfl|rfl|rfl<;>omega
variable{x:Int}
theorem ef(h:x=bAt addr many wrap k):(List.range (k+1)).map (bAt addr many wrap)=(List.range k).map (bAt addr many wrap)++[x]:=by rw[adL,abU,h];rfl
theorem Wh(h:pF addr many wrap)(c:k<many.toNat):0<=bAt addr many wrap k/\bAt addr many wrap k<=63:=by
 obtain⟨a,d,b⟩:=h;unfold bAt;split;·rcases a with rfl|rfl|rfl<;>omega
 ·rename_i hw;simp[hw] at b;omega
theorem pv: ∀a∈bO addr many wrap,0<=a/\a<=63:=by
 intro a b;unfold bO at b;split at b;·rename_i h;obtain⟨k,c,rfl⟩:=abP.1 b;exact Wh h (ac7.1 c)
 ·simp at b
theorem yI(h:pF addr many wrap):(bO addr many wrap).length=many.toNat:=by simp[bO,h]
theorem DY:(bO addr many wrap).length<=4:=by
 unfold bO;split;·rename_i h;obtain⟨a,_⟩:=h;simp;rcases a with rfl|rfl|rfl<;>omega
 ·simp
theorem cU{α:Type}{p:α->Bool}{l:List α}:0<=bP p l↔∃x∈l,p x=true:=by
 unfold bP;split;·rename_i k h;obtain⟨a,b,_⟩:=adW.1 h;exact⟨fun _=>⟨_,adB a,b⟩,fun _=>by omega⟩
 ·rename_i h;rw[ae4] at h;exact⟨fun h=>by omega,fun⟨x,c,hp⟩=>by rw[h x c] at hp;cases hp⟩
structure TSt where
 words:List Int
 holds:List Int
 asked:List Int
 wait:List Job
 done:List Job
 told:List Job
 deriving Inhabited,DecidableEq
def eSt(s:TSt):List D1:=[.isl (s.words.map aH),.isl (s.holds.map aH),.isl (s.asked.map aH),.isl (s.wait.map aT),.isl (s.done.map aT),.isl (s.told.map aT)]
variable{s:TSt}
theorem Ub:(eSt s).length=6:=rfl
theorem Jp:(eSt s).take 1=[.isl (s.words.map aH)]:=rfl
theorem Ky:(eSt s).drop 1=[.isl (s.holds.map aH),.isl (s.asked.map aH),.isl (s.wait.map aT),.isl (s.done.map aT),.isl (s.told.map aT)]:=rfl
theorem Lx:(eSt s).take 2=[.isl (s.words.map aH),.isl (s.holds.map aH)]:=rfl
theorem Ko:(eSt s).drop 2=[.isl (s.asked.map aH),.isl (s.wait.map aT),.isl (s.done.map aT),.isl (s.told.map aT)]:=rfl
theorem Ir:(eSt s).take 3=[.isl (s.words.map aH),.isl (s.holds.map aH),.isl (s.asked.map aH)]:=rfl
theorem Jo:(eSt s).drop 3=[.isl (s.wait.map aT),.isl (s.done.map aT),.isl (s.told.map aT)]:=rfl
theorem Ls:(eSt s).take 4=[.isl (s.words.map aH),.isl (s.holds.map aH),.isl (s.asked.map aH),.isl (s.wait.map aT)]:=rfl
theorem Lo:(eSt s).drop 4=[.isl (s.done.map aT),.isl (s.told.map aT)]:=rfl
theorem Ji:(eSt s).take 5=[.isl (s.words.map aH),.isl (s.holds.map aH),.isl (s.asked.map aH),.isl (s.wait.map aT),.isl (s.done.map aT)]:=rfl
theorem Io:(eSt s).drop 5=[.isl (s.told.map aT)]:=rfl
theorem Hy:(eSt s).take 6=eSt s:=rfl
theorem Il:(eSt s).drop 6=[]:=rfl
theorem Pz:j9 cs (k+1) (eSt s)=j9 cs (k+1) [.isl (s.words.map aH),.isl (s.holds.map aH),.isl (s.asked.map aH),.isl (s.wait.map aT),.isl (s.done.map aT),.isl (s.told.map aT)]:=rfl
attribute [go_sem] Ub Jp Ky Lx Ko Ir Jo Ls Lo Ji Io Hy Il Pz
def All(l:List Int)(lo up:Int):Prop:=∀x∈l,lo<=x/\x<=up
instance {l:List Int} {lo up:Int}:Decidable (All l lo up):=by unfold All;infer_instance
theorem R7{l:List Int}{lo up:Int}:All l lo up↔¬0<=bP (fun x=>decide (¬(lo<=x/\x<=up))) l:=by
 rw[cU];unfold All;refine⟨fun h ⟨x,a,hp⟩=>of_decide_eq_true hp (h x a),fun h x a=> ?_⟩;by_cases hc:lo<=x/\x<=up;·exact hc
 ·exact absurd ⟨x,a,decide_eq_true hc⟩ h
def nG(q:Req):Int:=if q.kind=2\/q.kind=4 then q.many else 0
def cR(q:Req):Prop:=(0<=q.id/\q.id<=1)/\(1<=q.kind/\q.kind<=4)/\pF q.addr q.many q.wrap/\(q.data.length:Int)=nG q/\(q.lanes.length:Int)=nG q/\All q.data 0 65535/\All q.lanes 0 3/\(q.kind=1\/q.kind=2\/q.many=1)
instance {q:Req}:Decidable (cR q):=by unfold cR;infer_instance
def pt(q r:Rng):Bool:=decide (q.lo<=r.hi/\r.lo<=q.hi)
def D7(r:Rng):Prop:=(0<=r.lo/\r.lo<=63)/\(r.lo<=r.hi/\r.hi<=63)/\(0<=r.VW/\r.VW<=2)
instance {r:Rng}:Decidable (D7 r):=by unfold D7;infer_instance
def ZK(l:List Rng)(i:Nat):Prop:=D7 (l.getD i default)/\ ¬0<=bP (fun q=>pt q (l.getD i default)) (l.take i)
instance {l:List Rng} {i:Nat}:Decidable (ZK l i):=by unfold ZK;infer_instance
def oC(l:List Rng):Prop:=(l.length:Int)<=4/\ ∀i,i<l.length->ZK l i
instance {l:List Rng}:Decidable (oC l):=by unfold oC;infer_instance
def pN(p:List Req):Prop:=(p.length:Int)<=12/\ ¬0<=bP (fun q=>decide (¬cR q)) p
instance {p:List Req}:Decidable (pN p):=by unfold pN;infer_instance
def bH(c:Cfg):Prop:=oC c.map/\(c.lat.length:Int)=4/\All c.lat 0 3/\(c.cN.length:Int)=3/\ ¬0<=bP (fun p=>decide (¬pN p)) c.cN
instance {c:Cfg}:Decidable (bH c):=by unfold bH;infer_instance
def o7(w h:List Int):Prop:=((w.length:Int)=64/\All w 0 65535)/\(h.length:Int)=6/\All h (-1) 63
instance {w h:List Int}:Decidable (o7 w h):=by unfold o7;infer_instance
structure iN(c:Cfg):Prop where
 map:c.map.length<2^40
 lat:c.lat.length<2^40
 cN:c.cN.length<2^40
 prog: ∀p∈c.cN,p.length<2^40
 req: ∀p∈c.cN,∀q∈p,q.data.length<2^40/\q.lanes.length<2^40
def bQ(c:Cfg)(who n:Int):Req:=(c.cN.getD who.toNat default).getD n.toNat default
def pA(c:Cfg)(who n:Int):Prop:=(0<=who/\who<=2)/\0<=n/\n<=(c.cN.getD who.toNat default).length-1
instance {c:Cfg} {who n:Int}:Decidable (pA c who n):=by unfold pA;infer_instance
def iJ(who n:Int)(j:Job):Bool:=decide (j.who=who/\j.n=n)
def Dj(c:Cfg)(e:Ev)(j:Job):Bool:=decide ((j.who=e.who/\j.n<e.n)/\(bQ c j.who j.n).id=(bQ c e.who e.n).id)
theorem iN.at(h:iN c)(k:Nat):(c.cN.getD k default).length<2^40:=by
 by_cases a:k<c.cN.length;·exact h.prog _ (by simp[List.getD,a])
 ·have:c.cN.getD k default=[]:=by simp[List.getD,a];rfl
  rw[this];decide
def so(c:Cfg)(s:TSt)(e:Ev):Int:=
 if ¬(pA c e.who e.n/\1<=e.kind/\e.kind<=3) then 1 else
 if e.kind=1 then (if ¬e.n=s.asked.getD e.who.toNat default then 2 else 0) else
 if e.kind=2 then (if bP (iJ e.who e.n) s.wait<0 then 3 else if 0<=bP (Dj c e) s.wait then 4 else 0) else
 if bP (iJ e.who e.n) s.done<0 then 5 else if 0<=bP (Dj c e) s.wait\/0<=bP (Dj c e) s.done then 6 else 0
structure aaI(c:Cfg)(s:TSt):Prop where
 words:s.words.length=64
 holds:s.holds.length=6
 asked:s.asked.length=3
 nR:s.wait.length<2^21
 qV:s.done.length<2^21
 abE:s.told.length<2^21
 wait: ∀j∈s.wait,pA c j.who j.n
 done: ∀j∈s.done,pA c j.who j.n
 told: ∀j∈s.told,pA c j.who j.n
theorem Gx:[cI j.who,cI j.n,cI j.rsp.id,cI j.rsp.code,.isl (j.rsp.data.map aH)]=aT j:=rfl
theorem Ln{r:Rsp}:[cI r.id,cI r.code,.isl (r.data.map aH)]=mS r:=rfl
def fY(a b:Job):Bool:=decide (a.who<b.who\/(a.who=b.who/\a.n<b.n))
def tL(l:List Job)(j:Job):List Job:=l.take (l.findIdx (fY j))++j::l.drop (l.findIdx (fY j))
def UD(l:List Job)(at_:Nat):List Job:=l.take at_++l.drop (at_+1)
def GH(l:List Job)(j:Job)(f k:Nat):List Job:=if k<=f then l.take k else l.take f++j::(l.take k).drop f
theorem fC{α:Type}[Inhabited α]{l:List α}(h:k<l.length):l.take (k+1)=l.take k++[l.getD k default]:=by rw[adN h];simp[List.getD,h]
variable{l:List Job}
theorem Uf{f:Nat}(h:k<l.length)(a:k<f):GH l j f (k+1)=GH l j f k++[l.getD k default]:=by unfold GH;rw[if_pos (by omega),if_pos (by omega),fC h]
theorem Sh{f:Nat}(h:k<l.length)(a:k=f):GH l j f (k+1)=(GH l j f k++[j])++[l.getD k default]:=by subst a;unfold GH;rw[if_neg (by omega),if_pos (abG _),fC h,ae5 (by simp;omega)];rw[ad8 (by simp;omega)];simp
theorem Tt{f:Nat}(h:k<l.length)(a:f<k):GH l j f (k+1)=GH l j f k++[l.getD k default]:=by unfold GH;rw[if_neg (by omega),if_neg (by omega),fC h,ae5 (by simp;omega)];simp
theorem Rr{f:Nat}(h:k<=l.length):(GH l j f k).length<=k+1:=by unfold GH;split<;>simp<;>omega
theorem Nj(a:l.findIdx (fY j)<l.length):GH l j (l.findIdx (fY j)) l.length=tL l j:=by unfold GH tL;rw[if_neg (by omega)];simp
theorem Hl(a: ¬l.findIdx (fY j)<l.length):GH l j (l.findIdx (fY j)) l.length++[j]=tL l j:=by
 have:l.findIdx (fY j)=l.length:=by have:=List.findIdx_le_length (p:=fY j) (xs:=l);omega
 unfold GH tL;rw[this];simp
theorem Uq(h:k<l.length)(d:k<=l.findIdx (fY j)):fY j (l.getD k default)=true↔k=l.findIdx (fY j):=by
 have b:l.getD k default=l[k]:=by simp[List.getD,h]
 rw[b];constructor
 ·intro c;have: ¬k<l.findIdx (fY j):=fun a=>by have:=aeO a;simp[c] at this
  omega
 ·intro he;have a:l.findIdx (fY j)<l.length:=by omega
  have:=aeP (w:=a);subst he;simpa using this
def eU8(x:Int):List D1:=[.v (.int .u8 x)]
attribute [go_sem] eU8
def rdO(l:List Int)(p:Nat):bM:=⟨2,1,[[.isl (l.map eU8),cI p]]⟩
structure fW(l:List Int):Prop where
 len:l.length<2^40
 byte: ∀x∈l,0<=x/\x<256
theorem fW.at{l:List Int}(h:fW l)(k:Nat):0<=l.getD k default/\l.getD k default<256:=by
 by_cases a:k<l.length;·exact h.byte _ (by simp[List.getD,a])
 ·have:l.getD k default=0:=by simp[List.getD,a]
  omega
theorem bU(l:List Int)(p:Nat):l9 (rdO l p):=by intro r hr x a;simp only[rdO,ab2] at hr;subst hr;simp at a;rcases a with rfl|rfl<;>rfl
theorem Xb{a b:Int}(c:0<=a/\a<9223372036854775808)(d:0<=b/\b<9223372036854775808):0<=IntKind.i64.wrap ((BitVec.ofInt 64 a^^^BitVec.ofInt 64 b).toNat:Nat):=by
 have h:(BitVec.ofInt 64 a^^^BitVec.ofInt 64 b).toNat<2^63:=by rw[BitVec.toNat_xor,BitVec.toNat_ofInt,BitVec.toNat_ofInt];apply Nat.xor_lt_two_pow<;>omega
 have e:(BitVec.ofInt 64 a^^^BitVec.ofInt 64 b).toNat<9223372036854775808:=h;rw[IntWalk.i64_in _ (by omega)];omega
def N0(b:Bool):List Rng:=[⟨0,15,0,false⟩,⟨16,31,1,false⟩,⟨32,47,2,b⟩]
def Pe(x:Int)(b:Bool):List Rng:=[⟨0,7,0,false⟩,⟨8,15,1,false⟩,⟨20,40,x,false⟩,⟨41,63,2,b⟩]
theorem XU(b:Bool)(k:Nat)(h:k<=3):oC ((N0 b).take k):=by
 have:k=0\/k=1\/k=2\/k=3:=by omega
 rcases this with rfl|rfl|rfl|rfl<;>cases b<;>decide
theorem Uu(x:Int)(b:Bool)(h:0<=x/\x<=2):oC (Pe x b):=by
 have:x=0\/x=1\/x=2:=by omega
 rcases this with rfl|rfl|rfl<;>cases b<;>decide
variable{lo up:Int}
theorem eg{l:List Int}(h:All l lo up)(b:lo<=x)(c:x<=up):All (l++[x]) lo up:=by
 intro y a;rcases abS.1 a with a|a;·exact h y a
 ·simp at a;subst a;exact⟨b,c⟩
theorem bT{α:Type}[Inhabited α]{l:List α}(h:k<l.length):l.getD k default∈l:=by simp[List.getD,h]
def jZ:Rsp:=⟨0,0,[]⟩
def xE(old new lanes:Int):Int:=(if lanes/2=1 then new/256 else old/256)*256+(if lanes%2=1 then new%256 else old%256)
theorem Jn{old new lanes:Int}(a:0<=old/\old<=65535)(b:0<=new/\new<=65535):0<=xE old new lanes/\xE old new lanes<=65535:=by unfold xE;split<;>split<;>omega
def Q1(w all data lanes:List Int):Nat->List Int
 |0=>w
 |k+1=>(Q1 w all data lanes k).set (all.getD k default).toNat (xE ((Q1 w all data lanes k).getD (all.getD k default).toNat default) (data.getD k default) (lanes.getD k default))
theorem sX{l:List Int}(h:All l lo up)(a:k<l.length):lo<=l.getD k default/\l.getD k default<=up:=h _ (by simp[List.getD,a])
theorem cm{l:List Int}(h:All l 0 up)(hu:0<=up)(k:Nat):0<=l.getD k default/\l.getD k default<=up:=by
 by_cases a:k<l.length;·exact sX h a
 ·have:l.getD k default=0:=by simp[List.getD,a]
  omega
theorem Fk{l:List Int}{i:Nat}(h:All l lo up)(b:lo<=x/\x<=up):All (l.set i x) lo up:=by
 intro y c;rcases List.mem_or_eq_of_mem_set c with a|a;·exact h y a
 ·subst a;exact b
variable{w:List Int}
theorem YS{data lanes:List Int}(k:Nat):(Q1 w all data lanes k).length=w.length:=by
 induction k with
 |zero=>rfl
 |succ k a=>simp only[Q1,ab0,a]
theorem tg{data lanes:List Int}(hw:All w 0 65535)(b:All data 0 65535)(k:Nat):All (Q1 w all data lanes k) 0 65535:=by
 induction k with
 |zero=>exact hw
 |succ k a=>exact Fk a (Jn (cm a (by decide) _) (cm b (by decide) _))
def qS(h all:List Int):List Int:=h.map fun x=>if x∈all then-1 else x
variable{h:List Int}
theorem Np(a:All h (-1) 63):All (qS h all) (-1) 63:=by intro x b;obtain⟨y,c,rfl⟩:=abP.1 b;have:=a y c;split<;>omega
def doM(m:List Rng)(w h:List Int)(who:Int)(q:Req):(List Int×List Int)×Rsp:=
 if eL m (bO q.addr q.many q.wrap)<0 then ((w,h),⟨q.id,4,[]⟩) else
 if wrM q=true/\(m.getD (eL m (bO q.addr q.many q.wrap)).toNat default).only=true then ((w,h),⟨q.id,3,[]⟩) else
 if q.kind=1 then ((w,h),⟨q.id,1,(bO q.addr q.many q.wrap).map fun a=>w.getD a.toNat default⟩) else
 if q.kind=3 then ((w,h.set (who*2+q.id).toNat q.addr),⟨q.id,2,(bO q.addr q.many q.wrap).map fun a=>w.getD a.toNat default⟩) else
 if q.kind=4/\ ¬h.getD (who*2+q.id).toNat default=q.addr then ((w,h),⟨q.id,1,[]⟩) else
 ((Q1 w (bO q.addr q.many q.wrap) q.data q.lanes (bO q.addr q.many q.wrap).length,qS h (bO q.addr q.many q.wrap)),⟨q.id,if q.kind=4 then 2 else 1,[]⟩)
theorem XN:wrM q=true↔(q.kind=2\/q.kind=4):=by simp[wrM]
variable{m:List Rng}{who:Int}
theorem xj(a:eL m (bO q.addr q.many q.wrap)<0):doM m w h who q=((w,h),⟨q.id,4,[]⟩):=by unfold doM;rw[if_pos a]
theorem zy(a: ¬eL m (bO q.addr q.many q.wrap)<0)(b:wrM q=true)(c:(m.getD (eL m (bO q.addr q.many q.wrap)).toNat default).only=true):doM m w h who q=((w,h),⟨q.id,3,[]⟩):=by unfold doM;rw[if_neg a,if_pos ⟨b,c⟩]
theorem yg(b: ¬eL m (bO q.addr q.many q.wrap)<0)(c:q.kind=1):doM m w h who q=((w,h),⟨q.id,1,(bO q.addr q.many q.wrap).map fun a=>w.getD a.toNat default⟩):=by unfold doM;rw[if_neg b,if_neg (fun hc=>by have:=XN.1 hc.1;omega),if_pos c]
theorem yl(b: ¬eL m (bO q.addr q.many q.wrap)<0)(c:q.kind=3):doM m w h who q=((w,h.set (who*2+q.id).toNat q.addr),⟨q.id,2,(bO q.addr q.many q.wrap).map fun a=>w.getD a.toNat default⟩):=by unfold doM;rw[if_neg b,if_neg (fun hc=>by have:=XN.1 hc.1;omega),if_neg (by omega),if_pos c]
theorem Oy(a: ¬eL m (bO q.addr q.many q.wrap)<0)(b: ¬(m.getD (eL m (bO q.addr q.many q.wrap)).toNat default).only=true)(c:q.kind=4)(d: ¬h.getD (who*2+q.id).toNat default=q.addr):doM m w h who q=((w,h),⟨q.id,1,[]⟩):=by unfold doM;rw[if_neg a,if_neg (fun hc=>b hc.2),if_neg (by omega),if_neg (by omega),if_pos ⟨c,d⟩]
theorem Gv(a: ¬eL m (bO q.addr q.many q.wrap)<0)(b: ¬(m.getD (eL m (bO q.addr q.many q.wrap)).toNat default).only=true)(c:q.kind=4)(d:h.getD (who*2+q.id).toNat default=q.addr):doM m w h who q=((Q1 w (bO q.addr q.many q.wrap) q.data q.lanes (bO q.addr q.many q.wrap).length,qS h (bO q.addr q.many q.wrap)),⟨q.id,2,[]⟩):=by unfold doM;rw[if_neg a,if_neg (fun hc=>b hc.2),if_neg (by omega),if_neg (by omega),if_neg (fun hc=>hc.2 d),if_pos c]
theorem Gt(a: ¬eL m (bO q.addr q.many q.wrap)<0)(b: ¬(m.getD (eL m (bO q.addr q.many q.wrap)).toNat default).only=true)(c:q.kind=2):doM m w h who q=((Q1 w (bO q.addr q.many q.wrap) q.data q.lanes (bO q.addr q.many q.wrap).length,qS h (bO q.addr q.many q.wrap)),⟨q.id,1,[]⟩):=by unfold doM;rw[if_neg a,if_neg (fun hc=>b hc.2),if_neg (by omega),if_neg (by omega),if_neg (fun hc=>by omega),if_neg (by omega)]
structure VX(w h:List Int):Prop where
 wl:w.length=64
 wr:All w 0 65535
 hl:h.length=6
 hr:All h (-1) 63
theorem Vd(e:VX w h)(f:cR q):VX (doM m w h who q).1.1 (doM m w h who q).1.2:=by
 obtain⟨a,b,c,d⟩:=e;obtain⟨_,_,g,_,_,i,_,_⟩:=f;unfold doM;split;·exact⟨a,b,c,d⟩
 split;·exact⟨a,b,c,d⟩
 split;·exact⟨a,b,c,d⟩
 split;·exact⟨a,b,by simpa using c,Fk d (by have:=g.2.1;omega)⟩
 split;·exact⟨a,b,c,d⟩
 ·exact⟨by rw[YS];exact a,tg b i _,by simpa [qS] using c,Np d⟩
def jU(r:Rsp):Prop:=(0<=r.id/\r.id<=1)/\(1<=r.code/\r.code<=4)/\(r.data.length:Int)<=4/\All r.data 0 65535
instance {r:Rsp}:Decidable (jU r):=by unfold jU;infer_instance
theorem Gh(hw:All w 0 65535)(f:cR q):jU (doM m w h who q).2/\(doM m w h who q).2.id=q.id:=by
 obtain⟨c,_⟩:=f;have b:All ([]:List Int) 0 65535:=fun x e=>by simp at e
 have g:=DY (addr:=q.addr) (many:=q.many) (wrap:=q.wrap);have d:All ((bO q.addr q.many q.wrap).map fun a=>w.getD a.toNat default) 0 65535:=by intro x e;obtain⟨a,_,rfl⟩:=abP.1 e;exact cm hw (by decide) _
 unfold doM;split;·exact⟨⟨c,by dsimp only;omega,by simp,b⟩,rfl⟩
 split;·exact⟨⟨c,by dsimp only;omega,by simp,b⟩,rfl⟩
 split;·exact⟨⟨c,by dsimp only;omega,by simp;omega,d⟩,rfl⟩
 split;·exact⟨⟨c,by dsimp only;omega,by simp;omega,d⟩,rfl⟩
 split;·exact⟨⟨c,by dsimp only;omega,by simp,b⟩,rfl⟩
 ·refine⟨⟨c,?_,by simp,b⟩,rfl⟩;dsimp only;split<;>omega
def oK(c:Cfg)(s:TSt)(e:Ev):TSt:=
 if e.kind=1 then {s with asked:=s.asked.set e.who.toNat (e.n+1),wait:=tL s.wait ⟨e.who,e.n,jZ⟩} else
 if e.kind=2 then {s with words:=(doM c.map s.words s.holds e.who (bQ c e.who e.n)).1.1,holds:=(doM c.map s.words s.holds e.who (bQ c e.who e.n)).1.2,wait:=UD s.wait (bP (iJ e.who e.n) s.wait).toNat,done:=tL s.done ⟨e.who,e.n,(doM c.map s.words s.holds e.who (bQ c e.who e.n)).2⟩} else
 {s with told:=s.told++[s.done.getD (bP (iJ e.who e.n) s.done).toNat default],done:=UD s.done (bP (iJ e.who e.n) s.done).toNat}
def key(j:Job):Int×Int:=(j.who,j.n)
def keys(s:TSt):List (Int×Int):=(s.wait++s.done++s.told).map key
abbrev jA(l:List Job):Prop:=l.Pairwise fun a b=>fY a b=true
def st0:TSt:=⟨List.replicate 64 0,List.replicate 6 (-1),List.replicate 3 0,[],[],[]⟩
structure oD(c:Cfg)(s:TSt):Prop where
 atm:VX s.words s.holds
 L8:s.asked.length=3
 JO: ∀k,k<3->0<=s.asked.getD k default/\s.asked.getD k default<=(c.cN.getD k default).length
 VS:jA s.wait
 VU:jA s.done
 Jv: ∀p∈keys s,(0<=p.1/\p.1<=2)/\0<=p.2/\p.2<s.asked.getD p.1.toNat default
 nodup:(keys s).Nodup
 count:(s.wait.length:Int)+s.done.length+s.told.length=s.asked.getD 0 default+s.asked.getD 1 default+s.asked.getD 2 default
 oo: ∀j∈s.wait,j.rsp=jZ
 fv: ∀j∈s.done++s.told,jU j.rsp/\j.rsp.id=(bQ c j.who j.n).id
theorem rO{a b:Job}:fY a b=true↔a.who<b.who\/(a.who=b.who/\a.n<b.n):=by simp[fY]
theorem pO(l:List Job)(j:Job):(tL l j).Perm (j::l):=by unfold tL;apply adO.trans;rw[acU]
theorem HH(h:k<l.length):l.Perm (l.getD k default::UD l k):=by
 have e:l=l.take k++l.getD k default::l.drop (k+1):=by
  have:l.getD k default=l[k]:=by simp[List.getD,h]
  rw[this,<-acR h,acU]
 conv=>lhs;rw[e]
 exact adO
theorem ee:(UD l k).Sublist l:=by unfold UD;have h:=(List.Sublist.refl (l.take k)).append (ae6 l (Nat.le_succ k));rwa [acU] at h
theorem V6(h:jA l):jA (UD l k):=h.sublist ee
theorem M1(h:jA l)(q:key j∉l.map key):jA (tL l j):=by
 unfold tL;have hs:=h;rw[jA,<-acU (l.findIdx (fY j)) l,adJ] at hs;obtain⟨r,g,s⟩:=hs
 have k: ∀x∈l.take (l.findIdx (fY j)),fY x j=true:=by
  intro x c;obtain⟨i,hi,rfl⟩:=ab6.1 c;simp only[ab5] at hi;have m:i<l.findIdx (fY j):=by omega
  have d:=aeO m;have n:key l[i]≠key j:=fun he=>q (he▸adD (adB _));rw[adX];rw[rO];simp only[key,ne_eq,Prod.mk.injEq] at n;simp only[fY,decide_eq_false_iff_not] at d;omega
 have o: ∀x∈l.drop (l.findIdx (fY j)),fY j x=true:=by
  intro x c
  cases e:l.drop (l.findIdx (fY j)) with
  |nil=>rw[e] at c;simp at c
  |cons y ys=>
   rw[e] at c g;have hlen:l.findIdx (fY j)<l.length:=(by have:=congrArg List.length e;simp at this;omega);have t:y=l[l.findIdx (fY j)]:=(by rw[acR hlen] at e;exact(List.cons.inj e).1.symm);have f:fY j y=true:=(by rw[t];exact aeP (w:=hlen));rcases abQ.1 c with rfl|c;·exact f
   ·have:=(acN.1 g).1 x c;rw[rO] at this f ⊢;omega
 refine adJ.2 ⟨r,acN.2 ⟨o,g⟩,fun a p b d=> ?_⟩;rcases abQ.1 d with rfl|d;·exact k a p
 ·exact s a p b d
theorem tS{n:Int}(h: ¬bP (iJ who n) l<0):(bP (iJ who n) l).toNat<l.length/\key (l.getD (bP (iJ who n) l).toNat default)=(who,n):=by
 unfold bP at h ⊢;split;·rename_i k a;obtain⟨c,b,_⟩:=adW.1 a;refine⟨by simpa using c,?_⟩;simp only[iJ,decide_eq_true_eq] at b;simp only[Int.toNat_natCast,key,List.getD,c,abO,Option.getD_some,b.1,b.2]
 ·rename_i a;rw[a] at h;simp at h
variable{e:Ev}
theorem UE(h:so c s e=0):pA c e.who e.n/\(e.kind=1/\e.n=s.asked.getD e.who.toNat default\/e.kind=2/\ ¬bP (iJ e.who e.n) s.wait<0\/e.kind=3/\ ¬bP (iJ e.who e.n) s.done<0):=by
 unfold so at h;split at h;·exact absurd h (by decide)
 rename_i b;have b:=Classical.not_not.1 b;refine⟨b.1,?_⟩;split at h
 ·rename_i d;split at h;·exact absurd h (by decide)
  ·rename_i a;exact .inl ⟨d,Classical.not_not.1 a⟩
 split at h
 ·rename_i d;split at h;·exact absurd h (by decide)
  ·rename_i a;exact .inr (.inl ⟨d,a⟩)
 split at h;·exact absurd h (by decide)
 ·rename_i a;exact .inr (.inr ⟨by omega,a⟩)
theorem Nc(a:e.kind=1):(keys (oK c s e)).Perm ((e.who,e.n)::keys s):=by simp only[keys,oK,a,if_true,abU];have:=(pO s.wait ⟨e.who,e.n,jZ⟩).map key;exact(this.append_right _).append_right _
theorem Sc(b:e.kind=2)(hi: ¬bP (iJ e.who e.n) s.wait<0):(keys (oK c s e)).Perm (keys s):=by obtain⟨d,f⟩:=tS hi;simp only[keys,oK,b,if_true,if_false,abU,Int.reduceEq];apply List.Perm.append_right _;refine(((pO s.done _).map key).append_left _).trans ?_;simp only[abZ];apply adO.trans;have a:=(HH d).map key;simp only[abZ,f] at a;exact(a.symm.append_right _)
theorem Ie(b:e.kind=3)(hi: ¬bP (iJ e.who e.n) s.done<0):(keys (oK c s e)).Perm (keys s):=by obtain⟨d,g⟩:=tS hi;simp only[keys,oK,b,if_false,abU,Int.reduceEq,abY];apply List.Perm.append_left _;have a:=(HH d).map key;simp only[abZ] at a;have f:=a.append_right (s.told.map key);refine List.Perm.trans ?_ f.symm;simp only[abZ,ab9,List.cons_append];rw[<-abY];exact(List.perm_append_singleton _ _)
theorem aaY{l:List Int}(hl:l.length=3)(e:k<3)(d:x=l.getD k default+1):(l.set k x).getD 0 default+(l.set k x).getD 1 default+(l.set k x).getD 2 default=l.getD 0 default+l.getD 1 default+l.getD 2 default+1:=by
 match l,hl with
 | [a,b,c],_=>subst d;have:k=0\/k=1\/k=2:=(by omega);rcases this with rfl|rfl|rfl<;>simp[List.getD]<;>omega
theorem OA{l:List Int}{i:Nat}(a:k<l.length):(l.set k x).getD i default=if i=k then x else l.getD i default:=by
 simp only[List.getD,adH];by_cases h:k=i;·subst h;simp[a]
 ·simp[h,Ne.symm h,eq_comm]
theorem yb(h:k<l.length):(UD l k).length+1=l.length:=by have:=(HH h).length_eq;simpa using this.symm
theorem xc:(tL l j).length=l.length+1:=by simpa using (pO l j).length_eq
theorem Cd(h:(keys s).Nodup): ∀p∈s.wait.map key,p∉s.done.map key:=by simp only[keys,abU] at h;rw[abY,ac1] at h;intro p hp a;exact h.2.2 p hp p (acP _ a) rfl
theorem H7{n:Int}(d:bH c)(h:pA c who n):cR (bQ c who n):=by
 obtain⟨_,_,_,i,a⟩:=d;obtain⟨j,k,l⟩:=h;rw[cU] at a;have e:who.toNat<c.cN.length:=by omega
 have f:pN (c.cN.getD who.toNat default):=Classical.byContradiction fun hc=>a ⟨c.cN.getD who.toNat default,by simp[List.getD,e],decide_eq_true hc⟩;have b:=f.2;rw[cU] at b;have g:n.toNat<(c.cN.getD who.toNat default).length:=by omega
 exact Classical.byContradiction fun hc=>b ⟨(c.cN.getD who.toNat default).getD n.toNat default,bT g,decide_eq_true hc⟩
theorem OJ(B:bH c)(hs:oD c s)(h:so c s e=0):oD c (oK c s e):=by
 obtain⟨u,r⟩:=UE h;obtain⟨hw,C⟩:=u;have z:cR (bQ c e.who e.n):=H7 B ⟨hw,C⟩;have v:e.who.toNat<3:=by omega
 have f:e.who.toNat<s.asked.length:=by rw[hs.L8];exact v
 rcases r with⟨o,hi⟩|⟨o,hi⟩|⟨o,hi⟩
 ·have hp:=Nc (c:=c) (s:=s) o;have q:(e.who,e.n)∉keys s:=fun hm=>by have:=(hs.Jv _ hm).2.2;dsimp only at this;omega
  have d:oK c s e= {s with asked:=s.asked.set e.who.toNat (e.n+1),wait:=tL s.wait ⟨e.who,e.n,jZ⟩}:=by simp only[oK,o,if_true]
  refine⟨by rw[d];exact hs.atm,by rw[d];simpa using hs.L8,fun k D=> ?_,?_,by rw[d];exact hs.VU,fun p g=> ?_,hp.nodup_iff.2 (acO.2 ⟨q,hs.nodup⟩),?_,?_,?_⟩
  ·have:=hs.JO k D;rw[d];dsimp only;rw[OA f];split;·rename_i t;subst t;omega
   ·exact this
  ·rw[d];refine M1 hs.VS fun hm=>q ?_;simp only[keys,abU];exact acP _ (acP _ hm)
  ·rcases abQ.1 (hp.mem_iff.1 g) with rfl|hm;·rw[d];dsimp only;rw[OA f,if_pos rfl];omega
   ·have:=hs.Jv p hm;rw[d];dsimp only;rw[OA f];split;·rename_i t;rw[t] at this;omega
    ·exact this
  ·have:=hs.count;rw[d];dsimp only;rw[xc,aaY hs.L8 v (by omega)];omega
  ·rw[d];intro j a;rcases abQ.1 ((pO _ _).mem_iff.1 a) with rfl|a;·rfl
   ·exact hs.oo j a
  ·rw[d];exact hs.fv
 ·have hp:=Sc (c:=c) o hi;obtain⟨w,A⟩:=tS hi;have i: ∀p,p∈keys (oK c s e)↔p∈keys s:=fun p=>hp.mem_iff;have hlen:=yb w;have x:(e.who,e.n)∉s.done.map key:=Cd hs.nodup _ (abP.2 ⟨_,bT w,A⟩);have y:=Vd (m:=c.map) (who:=e.who) hs.atm z;have d:oK c s e= {s with words:=(doM c.map s.words s.holds e.who (bQ c e.who e.n)).1.1,holds:=(doM c.map s.words s.holds e.who (bQ c e.who e.n)).1.2,wait:=UD s.wait (bP (iJ e.who e.n) s.wait).toNat,done:=tL s.done ⟨e.who,e.n,(doM c.map s.words s.holds e.who (bQ c e.who e.n)).2⟩}:=by simp[oK,o]
  have b:=hp.nodup_iff.2 hs.nodup;rw[d] at i b ⊢
  exact⟨y,hs.L8,hs.JO,V6 hs.VS,M1 hs.VU x,fun p g=>hs.Jv p ((i p).1 g),b,by have:=hs.count;have:=xc (l:=s.done) (j:=⟨e.who,e.n,(doM c.map s.words s.holds e.who (bQ c e.who e.n)).2⟩);dsimp only;omega,fun j a=>hs.oo j (ee.mem a),fun j a=>by
   rcases abS.1 a with a|a
   ·rcases abQ.1 ((pO _ _).mem_iff.1 a) with rfl|a;·exact Gh hs.atm.wr z
    ·exact hs.fv j (acP _ a)
   ·exact hs.fv j (ac2 _ a)⟩
 ·have hp:=Ie (c:=c) o hi;obtain⟨w,A⟩:=tS hi;have i: ∀p,p∈keys (oK c s e)↔p∈keys s:=fun p=>hp.mem_iff;have hlen:=yb w;have d:oK c s e= {s with told:=s.told++[s.done.getD (bP (iJ e.who e.n) s.done).toNat default],done:=UD s.done (bP (iJ e.who e.n) s.done).toNat}:=by simp[oK,o]
  have b:=hp.nodup_iff.2 hs.nodup;rw[d] at i b ⊢
  exact⟨hs.atm,hs.L8,hs.JO,hs.VS,V6 hs.VU,fun p g=>hs.Jv p ((i p).1 g),b,by have:=hs.count;simp only[abL,List.length_cons,List.length_nil];omega,hs.oo,fun j a=>by
   rcases abS.1 a with a|a
   ·exact hs.fv j (acP _ (ee.mem a))
   ·rcases abS.1 a with a|a;·exact hs.fv j (ac2 _ a)
    ·simp only[ab2] at a;subst a;exact hs.fv _ (acP _ (bT w))⟩
theorem eW(d:bH c):c.cN.length=3/\ ∀k,(c.cN.getD k default).length<=12:=by
 obtain⟨_,_,_,f,a⟩:=d;refine⟨by omega,fun k=> ?_⟩;rw[cU] at a;by_cases b:k<c.cN.length;·have e:pN (c.cN.getD k default):=Classical.byContradiction fun hc=>a ⟨c.cN.getD k default,by simp[List.getD,b],decide_eq_true hc⟩;have:=e.1;omega
 ·have:c.cN.getD k default=[]:=by simp[List.getD,b];rfl
  rw[this];simp
theorem oD.lens(b:bH c)(hs:oD c s):s.wait.length+s.done.length+s.told.length<=36:=by have a:=(eW b).2;have d:=hs.JO 0 (by decide);have e:=hs.JO 1 (by decide);have f:=hs.JO 2 (by decide);have g:=hs.count;have:=a 0;have:=a 1;have:=a 2;omega
theorem oD.mem(hs:oD c s)(a:j∈s.wait++s.done++s.told):pA c j.who j.n:=by have h:=hs.Jv (key j) (abP.2 ⟨j,a,rfl⟩);simp only[key] at h;have:=hs.JO j.who.toNat (by omega);exact⟨h.1,by omega⟩
theorem Xq(c:Cfg):oD c st0:=by
 refine⟨⟨by decide,by decide,by decide,by decide⟩,by decide,fun k d=> ?_,List.Pairwise.nil,List.Pairwise.nil,fun p hp=> ?_,by decide,by decide,fun j a=> ?_,fun j a=> ?_⟩
 ·have:k=0\/k=1\/k=2:=by omega
  have b:st0.asked.getD k default=0:=by rcases this with rfl|rfl|rfl<;>rfl
  rw[b];omega
 ·cases hp
 ·cases a
 ·cases a
def runM(c:Cfg)(s:TSt)(l:List Ev):TSt:=l.foldl (oK c) s
def NK(c:Cfg)(s:TSt)(l:List Ev):Prop:=∀k,k<l.length->so c (runM c s (l.take k)) (l.getD k default)=0
theorem tX:NK c s []:=fun k a=>by simp at a
theorem oD.fit(b:bH c)(hs:oD c s):aaI c s:=by have:=hs.lens b;exact⟨hs.atm.wl,hs.atm.hl,hs.L8,by omega,by omega,by omega,fun j a=>hs.mem (by simp[a]),fun j a=>hs.mem (by simp[a]),fun j a=>hs.mem (by simp[a])⟩
theorem Da{l:List Int}(h:k<l.length):l.take (k+1)=l.take k++[l.getD k default]:=fC h
def tT(h all:List Int)(k:Nat):List Int:=qS (h.take k) all++h.drop k
theorem pg(a:k<=h.length):(tT h all k).length=h.length:=by simp[tT,qS];omega
theorem yw(a:k<h.length):(tT h all k).getD k default=h.getD k default:=by
 have e:(qS (h.take k) all).length=k:=by simp[qS];omega
 simp only[tT,List.getD,ab7,e,adU,if_false,adE,ab4,Nat.add_zero]
theorem drop_cons{l:List Int}(h:k<l.length):l.drop k=l.getD k default::l.drop (k+1):=by rw[acR h];simp[List.getD,h]
theorem Az{l:List Int}:qS (l++[x]) all=qS l all++[if x∈all then-1 else x]:=by simp[qS]
theorem qd(a:k<h.length)(b:x=if h.getD k default∈all then-1 else h.getD k default):(tT h all k).set k x=tT h all (k+1):=by
 have e:(qS (h.take k) all).length=k:=by simp[qS];omega
 unfold tT;rw[aeQ,e,if_neg (by omega),adE,Da a,drop_cons a,Az,List.set_cons_zero,b,abY];rfl
theorem ZE(a:k<h.length):(tT h all k).set k (h.getD k default)=tT h all k:=by
 have e:(qS (h.take k) all).length=k:=by simp[qS];omega
 unfold tT;rw[aeQ,e,if_neg (by omega),adE,drop_cons a,List.set_cons_zero]
theorem gg:tT h all 0=h:=by simp[tT,qS]
theorem px:tT h all h.length=qS h all:=by simp[tT]
theorem om(h:pF addr many wrap):0<(bO addr many wrap).length:=by rw[yI h];obtain⟨a,_⟩:=h;omega
theorem bc{a m:Nat}(h:a<2^(m+k)):a&&& ((2^m-1)<<<k)=a/2^k*2^k:=by
 apply Nat.eq_of_testBit_eq;intro i;have e:a/2^k*2^k=(a>>>k)<<<k:=by rw[Nat.shiftRight_eq_div_pow,Nat.shiftLeft_eq]
 rw[e,Nat.testBit_and,ae7,ae7,Nat.testBit_two_pow_sub_one,Nat.testBit_shiftRight];by_cases c:k<=i
 ·have d:k+(i-k)=i:=by omega
  by_cases b:i<m+k;·simp[c,d];omega
  ·have:a.testBit i=false:=Nat.testBit_lt_two_pow (Nat.lt_of_lt_of_le h (Nat.pow_le_pow_right (aeL 1) (Nat.le_of_not_lt b)));simp[d,this]
 ·simp[c]
theorem Md{a:Nat}:a&&& 255=a%256:=aeR a 8
theorem Ou{a b:Nat}(h:b<256):a*256|||b=a*256+b:=by have:=Nat.two_pow_add_eq_or_of_lt (i:=8) (b:=b) h a;rw[show (2:Nat)^8*a=a*256 from acV _ _] at this;exact this.symm
def Bq(old new m:Int):Int:=IntKind.i64.wrap ↑(BitVec.ofInt 64 (IntKind.i64.wrap ↑(BitVec.ofInt 64 old&&& ~~~BitVec.ofInt 64 m).toNat)|||BitVec.ofInt 64 (IntKind.i64.wrap ↑(BitVec.ofInt 64 new&&& BitVec.ofInt 64 m).toNat)).toNat
theorem pz{a:Nat}(h:a<65536):(BitVec.ofNat 64 a).toNat=a:=by rw[BitVec.toNat_ofNat];omega
theorem R4{a b m x y:Nat}(e:a<65536)(f:b<65536)(g:a&&& (18446744073709551615-m)=x)(h:b&&& m=y)(hm:m<65536)(c:x<65536)(d:y<65536)(k:x|||y<65536):Bq a b m=((x|||y:Nat):Int):=by
 have i:(BitVec.ofInt 64 (a:Int)&&& ~~~BitVec.ofInt 64 (m:Int)).toNat=x:=by rw[BitVec.ofInt_natCast,BitVec.ofInt_natCast,BitVec.toNat_and,BitVec.toNat_not,pz e,pz hm];exact g
 have j:(BitVec.ofInt 64 (b:Int)&&& BitVec.ofInt 64 (m:Int)).toNat=y:=by rw[BitVec.ofInt_natCast,BitVec.ofInt_natCast,BitVec.toNat_and,pz f,pz hm];exact h
 unfold Bq;rw[i,j,IntWalk.i64_in (x:Int) (by omega),IntWalk.i64_in (y:Int) (by omega),BitVec.ofInt_natCast,BitVec.ofInt_natCast,BitVec.toNat_or,pz c,pz d,IntWalk.i64_in _ (by omega)]
theorem XW{old new lanes m:Int}(o:0<=old/\old<=65535)(p:0<=new/\new<=65535)(h:lanes=0/\m=0\/lanes=1/\m=255\/lanes=2/\m=65280\/lanes=3/\m=65535):Bq old new m=xE old new lanes:=by
 obtain⟨a,rfl⟩: ∃a:Nat,old=a:=⟨old.toNat,by omega⟩
 obtain⟨b,rfl⟩: ∃b:Nat,new=b:=⟨new.toNat,by omega⟩
 have d:a<65536:=by omega
 have f:b<65536:=by omega
 have l:=bc (a:=a) (m:=56) (k:=8) (by omega);have n:=bc (a:=b) (m:=8) (k:=8) (by omega);have j:=bc (a:=a) (m:=48) (k:=16) (by omega);rcases h with⟨rfl,rfl⟩|⟨rfl,rfl⟩|⟨rfl,rfl⟩|⟨rfl,rfl⟩
 ·have:=R4 (a:=a) (b:=b) (m:=0) (x:=a) (y:=0) d f (by rw[show 18446744073709551615-0=2^64-1 from rfl,aeR];omega) (Nat.and_zero b) (by omega) d (by omega) (by simpa using d);rw[show ((0:Nat):Int)=0 from rfl] at this;rw[this,Nat.or_zero];unfold xE;simp;omega
 ·have g:a&&& (18446744073709551615-255)=a/256*256:=l;have c:a/256*256|||b%256=a/256*256+b%256:=Ou (by omega);have:=R4 (a:=a) (b:=b) (m:=255) d f g Md (by omega) (by omega) (by omega) (by omega);rw[show ((255:Nat):Int)=255 from rfl] at this;rw[this,c];unfold xE;simp
 ·have g:a&&& (18446744073709551615-65280)=a%256:=by
   have e:18446744073709551615-65280=((2^48-1)<<<16)|||255:=by decide
   rw[e,Nat.and_or_distrib_left,j,Md]
   have:a/2^16=0:=by omega
   rw[this];simp
  have i:b&&& 65280=b/256*256:=n
  have c:a%256|||b/256*256=b/256*256+a%256:=by rw[Nat.or_comm];exact Ou (by omega)
  have:=R4 (a:=a) (b:=b) (m:=65280) d f g i (by omega) (by omega) (by omega) (by omega)
  rw[show ((65280:Nat):Int)=65280 from rfl] at this
  rw[this,c]
  unfold xE;simp
 ·have g:a&&& (18446744073709551615-65535)=0:=by
   have e:18446744073709551615-65535=((2^48-1)<<<16):=by decide
   rw[e,j];omega
  have i:b&&& 65535=b:=by rw[show (65535:Nat)=2^16-1 from rfl,aeR];omega
  have:=R4 (a:=a) (b:=b) (m:=65535) d f g i (by omega) (by omega) (by omega) (by simpa using f)
  rw[show ((65535:Nat):Int)=65535 from rfl] at this
  rw[this,Nat.zero_or]
  unfold xE;simp;omega
def zh(x:Int):Int:=IntKind.i64.wrap ↑(BitVec.ofInt 64 (IntKind.i64.wrap (IntKind.i64.wrap ↑(BitVec.ofInt 64 x&&& BitVec.ofInt 64 1).toNat*255))|||BitVec.ofInt 64 (IntKind.i64.wrap (Int.fdiv x (2^min 1 64)*65280))).toNat
theorem Wx:zh 0=0:=by decide
theorem Wm:zh 1=255:=by decide
theorem Xa:zh 2=65280:=by decide
theorem Xk:zh 3=65535:=by decide
structure Sam(k:Int)(s s':TSt):Prop where
 asked:s'.asked.getD k.toNat default=s.asked.getD k.toNat default
 wait: ∀n,(k,n)∈s'.wait.map key↔(k,n)∈s.wait.map key
 done: ∀n,(k,n)∈s'.done.map key↔(k,n)∈s.done.map key
theorem Sam.refl{k:Int}:Sam k s s:=⟨rfl,fun _=>.rfl,fun _=>.rfl⟩
theorem Sam.symm{k:Int}{s s':TSt}(h:Sam k s s'):Sam k s' s:=⟨h.asked.symm,fun n=>(h.wait n).symm,fun n=>(h.done n).symm⟩
theorem Sam.trans{k:Int}{s s' s2:TSt}(h:Sam k s s')(a:Sam k s' s2):Sam k s s2:=⟨a.asked.trans h.asked,fun n=>(a.wait n).trans (h.wait n),fun n=>(a.done n).trans (h.done n)⟩
def Xu(q:Req):List Int:=bO q.addr q.many q.wrap
def hB(a:Nat)(who:Int)(q:Req)(h:List Int):List Int:=if a=5 then qS h (Xu q) else if a=3 then h.set (who*2+q.id).toNat q.addr else h
def UA(a b:Req):Prop:=∀x∈Xu a,x∉Xu b
theorem UA.symm{a b:Req}(h:UA a b):UA b a:=fun x c d=>h x d c
def Qj(c:Cfg)(a b:Ev):Prop:=a.who≠b.who/\ ¬(a.kind=3/\b.kind=3)/\(a.kind=2->b.kind=2->UA (bQ c a.who a.n) (bQ c b.who b.n))
instance {a b:Req}:Decidable (UA a b):=by unfold UA;infer_instance
instance {c:Cfg} {a b:Ev}:Decidable (Qj c a b):=by unfold Qj;infer_instance
theorem ZN: ∀{l a:List Job},jA l->jA a->(∀x,x∈l↔x∈a)->l=a
 | [],[],_,_,_=>rfl
 | [],y::a,_,_,hm=>by have:=(hm y).2 (by simp);cases this
 |x::l,[],_,_,hm=>by have:=(hm x).1 (by simp);cases this
 |x::l,y::a,h,j,hm=>by
  have b: ∀z:Job,fY z z=false:=fun z=>by simp[fY]
  obtain⟨g,k⟩:=acN.1 h;obtain⟨i,m⟩:=acN.1 j
  have d:x=y:=by
   rcases abQ.1 ((hm x).1 (by simp)) with e|e;·exact e
   ·rcases abQ.1 ((hm y).2 (by simp)) with f|f;·exact f.symm
    ·have n:=i x e;have o:=g y f;rw[rO] at n o;omega
  subst d;congr 1;refine ZN k m fun z=>⟨fun c=> ?_,fun c=> ?_⟩
  ·rcases abQ.1 ((hm z).1 (by simp[c])) with he|he;·subst he;have:=g z c;rw[b] at this;cases this
   ·exact he
  ·rcases abQ.1 ((hm z).2 (by simp[c])) with he|he;·subst he;have:=i z c;rw[b] at this;cases this
   ·exact he
theorem DW{l:List Ev}:runM c s (e::l)=runM c (oK c s e) l:=rfl
theorem yo{a b:List Ev}:runM c s (a++b)=runM c (runM c s a) b:=by simp[runM]
theorem EA{l:List Ev}:NK c s (e::l)↔so c s e=0/\NK c (oK c s e) l:=by
 constructor;·intro h;refine⟨h 0 (by simp),fun k a=> ?_⟩;have:=h (k+1) (by simpa using a);rwa [List.take_succ_cons,DW,List.getD_cons_succ] at this
 ·rintro⟨b,d⟩ k a
  match k with
  |0=>exact b
  |k+1=>rw[List.take_succ_cons,DW,List.getD_cons_succ];exact d k (by simpa using a)
theorem qe{a b:List Ev}:NK c s (a++b)↔NK c s a/\NK c (runM c s a) b:=by
 induction a generalizing s with
 |nil=>simp[runM,tX]
 |cons e a d=>rw[List.cons_append,EA,EA,d,DW,and_assoc]
structure Ih(s:TSt):Prop where
 words:s.words.length<2^21
 holds:s.holds.length<2^21
 asked:s.asked.length<2^21
 wait:s.wait.length<2^21
 done:s.done.length<2^21
 told:s.told.length<2^21
 data: ∀j∈s.wait++s.done++s.told,j.rsp.data.length<2^21
def InA(asked:List Int)(j:Job):Prop:=(0<=j.who/\j.who<=2)/\0<=j.n/\j.n<asked.getD j.who.toNat default
def vB(c:Cfg)(j:Job):Prop:=jU j.rsp/\j.rsp.id=(bQ c j.who j.n).id
def Js(c:Cfg)(asked:List Int):Prop:=∀k,k<3->0<=asked.getD k default/\asked.getD k default<=(c.cN.getD k default).length
noncomputable def stB(c:Cfg)(s:TSt):Bool:=@decide (oD c s) (Classical.propDecidable _)
theorem Rl(h:oD c s):stB c s=true:=by simp[stB,h]
theorem PT(h: ¬oD c s):stB c s=false:=by simp[stB,h]
noncomputable def tlB(c:Cfg)(s:TSt):Bool:=@decide (bH c/\oD c s) (Classical.propDecidable _)
theorem Zr(a:bH c)(h:oD c s):tlB c s=true:=by simp[tlB,h,a]
theorem MR(h: ¬(bH c/\oD c s)):tlB c s=false:=by simp[tlB,h]
theorem Yy(a:bH c):tlB c s=stB c s:=by simp[tlB,stB,a]
theorem FZ(h:jA l):(l.map key).Nodup:=by refine ad7.2 (h.imp ?_);intro a b c he;rw[rO] at c;simp only[key,Prod.mk.injEq] at he;omega
theorem Gj(a:o7 s.words s.holds)(d:s.asked.length=3)(e:Js c s.asked)(f:jA s.wait)(g:jA s.done)(h: ∀j∈s.wait++s.done++s.told,InA s.asked j)(i:(keys s).Nodup)
 (k:(s.wait.length:Int)+s.done.length+s.told.length=s.asked.getD 0 default+s.asked.getD 1 default+s.asked.getD 2 default) (l: ∀j∈s.wait,j.rsp=jZ) (b: ∀j∈s.done++s.told,vB c j):oD c s:=
 ⟨⟨by have:=a.1.1;omega,a.1.2,by have:=a.2.1;omega,a.2.2⟩,d,e,f,g,fun p hp=>by
   obtain⟨j,m,rfl⟩:=abP.1 hp
   exact h j m,i,k,l,b⟩
theorem yc{w d t:List Job}(hw:jA w)(h:jA d)(i:(t.map key).Nodup)(g: ∀j∈t,key j∉w.map key/\key j∉d.map key)(k: ∀j∈d,key j∉w.map key):((w++d++t).map key).Nodup:=by
 rw[abU,abU,ac1,ac1];refine⟨⟨FZ hw,FZ h,fun a c b f he=> ?_⟩,i,fun a c b f he=> ?_⟩;·obtain⟨j,e,rfl⟩:=abP.1 f;exact k j e (he▸c)
 ·obtain⟨j,e,rfl⟩:=abP.1 f;rcases abS.1 c with c|c;·exact(g j e).1 (he▸c)
  ·exact(g j e).2 (he▸c)
theorem rS{n:Int}:0<=bP (iJ who n) l↔(who,n)∈l.map key:=by
 rw[cU,abP];refine⟨fun⟨x,a,h⟩=>⟨x,a,?_⟩,fun⟨x,a,h⟩=>⟨x,a,?_⟩⟩;·have:=of_decide_eq_true h;simp[key,this.1,this.2]
 ·simp only[key,Prod.mk.injEq] at h;exact decide_eq_true h
theorem oD.apart(h:oD c s):(s.told.map key).Nodup/\(∀j∈s.told,key j∉s.wait.map key/\key j∉s.done.map key)/\(∀j∈s.done,key j∉s.wait.map key):=by
 have b:=h.nodup;unfold keys at b;rw[abU,abU,ac1,ac1] at b;obtain⟨⟨g,i,e⟩,f,d⟩:=b;refine⟨f,fun j a=>⟨fun hm=> ?_,fun hm=> ?_⟩,fun j a hm=> ?_⟩;·exact d _ (acP _ hm) _ (adD a) rfl
 ·exact d _ (ac2 _ hm) _ (adD a) rfl
 ·exact e _ hm _ (adD a) rfl
structure SF(c:Cfg)(asked:List Int)(l:List Job)(done:Bool):Prop where
 inA: ∀j∈l,InA asked j
 sorted:jA l
 rsp: ∀j∈l,if done then vB c j else j.rsp=jZ
noncomputable def SA(c:Cfg)(asked:List Int)(l:List Job)(done:Bool):Bool:=@decide (SF c asked l done) (Classical.propDecidable _)
theorem XM{asked:List Int}{done:Bool}(h:SF c asked l done):SA c asked l done=true:=by simp[SA,h]
theorem tv{asked:List Int}{done:Bool}(h: ¬SF c asked l done):SA c asked l done=false:=by simp[SA,h]
structure qm(c:Cfg)(s:TSt):Prop where
 inA: ∀j∈s.told,InA s.asked j
 once:(s.told.map key).Nodup
 rsp: ∀j∈s.told,vB c j
noncomputable def YT(c:Cfg)(s:TSt):Bool:=@decide (qm c s) (Classical.propDecidable _)
theorem Fs(h:qm c s):YT c s=true:=by simp[YT,h]
theorem Ft(h: ¬qm c s):YT c s=false:=by simp[YT,h]
theorem Aw(f:o7 s.words s.holds)(g:s.asked.length=3)(h:Js c s.asked)(b:SF c s.asked s.wait false)(d:SF c s.asked s.done true)(e:qm c s)
 (i:(s.wait.length:Int)+s.done.length+s.told.length=s.asked.getD 0 default+s.asked.getD 1 default+s.asked.getD 2 default) (k: ∀j∈s.told,key j∉s.wait.map key/\key j∉s.done.map key) (l: ∀j∈s.done,key j∉s.wait.map key):oD c s:=by
 refine Gj f g h b.sorted d.sorted (fun j a=> ?_) (yc b.sorted d.sorted e.once k l) i (fun j a=>by simpa using b.rsp j a) fun j a=> ?_
 ·simp only[abS] at a;rcases a with(a|a)|a;·exact b.inA j a
  ·exact d.inA j a
  ·exact e.inA j a
 ·rcases abS.1 a with a|a;·have:=d.rsp j a;rwa [if_pos rfl] at this
  ·exact e.rsp j a
theorem oD.inA(h:oD c s): ∀j∈s.wait++s.done++s.told,InA s.asked j:=fun j a=>h.Jv (key j) (adD a)
theorem oD.Zj(h:oD c s):SF c s.asked s.wait false:=⟨fun j a=>h.inA j (by simp[a]),h.VS,fun j a=>by simpa using h.oo j a⟩
theorem oD.aaA(h:oD c s):SF c s.asked s.done true:=⟨fun j a=>h.inA j (by simp[a]),h.VU,fun j a=>by rw[if_pos rfl];exact h.fv j (by simp[a])⟩
theorem oD.aaH(h:oD c s):qm c s:=⟨fun j a=>h.inA j (by simp[a]),h.apart.1,fun j a=>h.fv j (by simp[a])⟩
theorem VO{l:List Int}(h: ∀i,i<l.length->lo<=l.getD i default/\l.getD i default<=up):All l lo up:=fun x a=>by obtain⟨i,hi,rfl⟩:=ab6.1 a;simpa [List.getD,hi] using h i hi
theorem fu{l:List Int}(h:All l lo up){i:Nat}(hi:i<l.length):lo<=l.getD i default/\l.getD i default<=up:=h _ (by simp[List.getD,hi])
theorem iK{α:Type}[Inhabited α]{l:List α}{P:α->Prop}(h: ∀i,i<l.length->P (l.getD i default)): ∀x∈l,P x:=fun x a=>by obtain⟨i,hi,rfl⟩:=ab6.1 a;simpa [List.getD,hi] using h i hi
structure gD where
 who:Int
 n:Int
 left:Int
 deriving Inhabited,DecidableEq
structure eT where
 next:Int
 queue:List Int
 out:List gD
 last:Int
 deriving Inhabited,DecidableEq
structure tG where
 pipe:List gD
 done:List Job
 last:Int
 deriving Inhabited,DecidableEq
structure CSt where
 words:List Int
 holds:List Int
 bC:List eT
 bN:List tG
 told:List Job
 deriving Inhabited,DecidableEq
structure CIn where
 ready:List Bool
 mW:List Bool
 send:List Bool
 deriving Inhabited,DecidableEq
def iV(m:List Rng)(q:Req):Int:=if eL m (bO q.addr q.many q.wrap)<0 then 3 else (m.getD (eL m (bO q.addr q.many q.wrap)).toNat default).VW
def aL(s:CSt)(k:Nat):eT:=s.bC.getD k default
def aS(s:CSt)(k:Nat):tG:=s.bN.getD k default
def cW(l:List Job):List Job:=l.foldl tL []
def gL(s:CSt)(k:Nat):List Job:=(aL s k).queue.map fun n=>⟨k,n,jZ⟩
def fD(s:CSt)(k:Nat):List Job:=(aS s k).pipe.map fun j=>⟨j.who,j.n,jZ⟩
def nR(s:CSt):List Job:=(List.range s.bC.length).flatMap (gL s)++(List.range s.bN.length).flatMap (fD s)
def qV(s:CSt):List Job:=(List.range s.bN.length).flatMap fun k=>(aS s k).done
def dN(s:CSt):TSt:=⟨s.words,s.holds,s.bC.map (·.next),cW (nR s),cW (qV s),s.told⟩
def HG{α:Type}(l:List α)(k:Nat):List α:=l.take k++l.drop (k+1)
def isC(n:Int)(j:gD):Bool:=decide (j.n=n)
def QX(l:List gD)(n:Int):List gD:=HG l (bP (isC n) l).toNat
inductive Mic where
 |tell (who st:Nat)
 |tick (st:Nat)
 |work (st:Nat)
 |adm (who st:Nat)
 |ask (who:Nat)
def NM(c:Cfg)(s:CSt)(who st:Nat):Prop:=0<(aL s who).queue.length/\(aL s who).out.length<4/\iV c.map (bQ c who ((aL s who).queue.getD 0 default))=st/\
 ∀j∈(aL s who).out,(bQ c who j.n).id=(bQ c who ((aL s who).queue.getD 0 default)).id->j.left=st
instance {c:Cfg} {s:CSt} {who st:Nat}:Decidable (NM c s who st):=by unfold NM;infer_instance
def R9(c:Cfg)(s:CSt):Mic->Prop
 | .tell who st=>who<3/\st<4/\0<(aS s st).done.length/\((aS s st).done.getD 0 default).who=who
 | .tick st=>st<4/\0<(aS s st).pipe.length/\0<((aS s st).pipe.getD 0 default).left
 | .work st=>st<4/\0<(aS s st).pipe.length/\ ¬0<((aS s st).pipe.getD 0 default).left/\(aS s st).done.length<2
 | .adm who st=>who<3/\st<4/\(aS s st).pipe.length<2/\NM c s who st
 | .ask who=>who<3/\(aL s who).queue.length<2/\(aL s who).next<(c.cN.getD who default).length
def nC(s:CSt)(st:Nat):Job:=(aS s st).done.getD 0 default
def eA(s:CSt)(st:Nat):gD:=(aS s st).pipe.getD 0 default
def KR(c:Cfg)(s:CSt)(st:Nat):(List Int×List Int)×Rsp:=doM c.map s.words s.holds (eA s st).who (bQ c (eA s st).who (eA s st).n)
def bS(c:Cfg)(s:CSt):Mic->CSt
 | .tell who st=>{s with told:=s.told++[nC s st],bN:=s.bN.set st {aS s st with done:=(aS s st).done.drop 1},bC:=s.bC.set who {aL s who with out:=QX (aL s who).out (nC s st).n,last:=st}}
 | .tick st=>{s with bN:=s.bN.set st {aS s st with pipe:=(aS s st).pipe.set 0 {eA s st with left:=(eA s st).left-1}}}
 | .work st=>{s with words:=(KR c s st).1.1,holds:=(KR c s st).1.2,bN:=s.bN.set st {aS s st with pipe:=(aS s st).pipe.drop 1,done:=(aS s st).done++[⟨(eA s st).who,(eA s st).n,(KR c s st).2⟩]}}
 | .adm who st=>{s with bC:=s.bC.set who {aL s who with queue:=(aL s who).queue.drop 1,out:=(aL s who).out++[⟨who,(aL s who).queue.getD 0 default,st⟩]},bN:=s.bN.set st {aS s st with pipe:=(aS s st).pipe++[⟨who,(aL s who).queue.getD 0 default,c.lat.getD st default⟩],last:=who}}
 | .ask who=>{s with bC:=s.bC.set who {aL s who with queue:=(aL s who).queue++[(aL s who).next],next:=(aL s who).next+1}}
def BQ(s:CSt):Mic->List Ev
 | .tell who st=>[⟨3,who,(nC s st).n⟩]
 | .work st=>[⟨2,(eA s st).who,(eA s st).n⟩]
 | .ask who=>[⟨1,who,(aL s who).next⟩]
 |_=>[]
theorem iU(l:List Job):(cW l).Perm l:=by
 have h: ∀(l acc:List Job),(l.foldl tL acc).Perm (acc++l):=by
  intro l
  induction l with
  |nil=>intro acc;simp
  |cons x l a=>intro acc;simp only[List.foldl_cons];refine(a _).trans ?_;refine((pO acc x).append_right l).trans ?_;simpa using adO.symm
 simpa [cW] using h l []
theorem ti(a:(l.map key).Nodup):jA (cW l):=by
 have h: ∀(l acc:List Job),jA acc->((acc++l).map key).Nodup->jA (l.foldl tL acc):=by
  intro l
  induction l with
  |nil=>intro acc hs _;exact hs
  |cons x l b=>intro acc hs a;simp only[List.foldl_cons];have hp:(tL acc x++l).Perm (acc++x::l):=((pO acc x).append_right l).trans (by simpa using adO.symm);refine b _ (M1 hs fun hm=> ?_) ((hp.map key).nodup_iff.2 a);rw[abU,ac1] at a;exact a.2.2 _ hm (key x) (by simp) rfl
 exact h l [] List.Pairwise.nil (by simpa using a)
theorem L5{a:List Job}(hs:jA a)(hp:l.Perm a):cW l=a:=ZN (ti ((hp.map key).nodup_iff.2 (FZ hs))) hs fun x=>((iU l).trans hp).mem_iff
theorem Sb{β:Type}{n:Nat}(e:k<n): ∃a b:List Nat,List.range n=a++k::b/\ ∀f g:Nat->List β,(∀i,i≠k->f i=g i)->a.flatMap f=a.flatMap g/\b.flatMap f=b.flatMap g:=by
 obtain⟨a,b,h⟩:=List.append_of_mem (ac7.2 e);have d:(List.range n).Nodup:=List.nodup_range;rw[h,ac1] at d;obtain⟨m,j,l⟩:=d;refine⟨a,b,h,fun f g c=>⟨?_,?_⟩⟩;·simp only[List.flatMap_def];congr 1;exact acT fun i hi=>c i fun he=>l i hi k (by simp) he
 ·simp only[List.flatMap_def];congr 1;exact acT fun i hi=>c i fun he=>(acO.1 j).1 (he▸hi)
theorem yK{β:Type}[DecidableEq β]{n:Nat}(d:k<n){f g:Nat->List β}(c: ∀i,i≠k->f i=g i)(z:β):((List.range n).flatMap f).count z+(g k).count z=((List.range n).flatMap g).count z+(f k).count z:=by obtain⟨a,b,e,h⟩:=Sb (β:=β) d;obtain⟨j,l⟩:=h f g c;rw[e];simp only[aeS,ad6,adP];rw[j,l];omega
theorem DU{α:Type}[Inhabited α]{l:List α}{i:Nat}{x:α}(a:k<l.length):(l.set k x).getD i default=if i=k then x else l.getD i default:=by
 simp only[List.getD,adH];by_cases h:k=i;·subst h;simp[a]
 ·simp[h,Ne.symm h,eq_comm]
structure iA(c:Cfg)(who:Nat)(p:eT):Prop where
 next:0<=p.next/\p.next<=(c.cN.getD who default).length
 ql:p.queue.length<=2/\(p.queue.length:Int)<=p.next
 ol:p.out.length<=4
 last:0<=p.last/\p.last<=3
 queue: ∀i,i<p.queue.length->p.queue.getD i default=p.next-p.queue.length+i
 out: ∀j∈p.out,j.who=who/\(0<=j.n/\j.n<p.next-p.queue.length)/\j.left=iV c.map (bQ c who j.n)
 zu:p.out.Pairwise fun a b=>a.n<b.n
 Kb: ∀a∈p.out,∀b∈p.out,(bQ c who a.n).id=(bQ c who b.n).id->a.left=b.left
def gM(v:tG):List (Int×Int):=v.done.map key++v.pipe.map fun j=>(j.who,j.n)
structure pE(c:Cfg)(s:CSt)(st:Nat):Prop where
 pl:(aS s st).pipe.length<=2
 dl:(aS s st).done.length<=2
 last:0<=(aS s st).last/\(aS s st).last<=2
 inc:(gM (aS s st)).Pairwise fun a b=>a.1=b.1->a.2<b.2
 out: ∀x∈gM (aS s st),(0<=x.1/\x.1<=2)/\ ∃j∈(aL s x.1.toNat).out,j.n=x.2/\j.left=st
 rsp: ∀j∈(aS s st).done,vB c j
 left: ∀i,i<(aS s st).pipe.length->(0<=((aS s st).pipe.getD i default).left/\((aS s st).pipe.getD i default).left<=c.lat.getD st default)/\(0<i->((aS s st).pipe.getD i default).left=c.lat.getD st default)
def kY(s:CSt)(k:Nat):Nat:=(aS s k).pipe.length+(aS s k).done.length
structure COk(c:Cfg)(s:CSt):Prop where
 atm:VX s.words s.holds
 pl:s.bC.length=3
 sl:s.bN.length=4
 port: ∀k,k<3->iA c k (aL s k)
 slv: ∀k,k<4->pE c s k
 count:(aL s 0).out.length+(aL s 1).out.length+(aL s 2).out.length=kY s 0+kY s 1+kY s 2+kY s 3
 st:oD c (dN s)
theorem OF{s:CSt}:j∈nR s↔(∃k,k<s.bC.length/\ ∃m∈(aL s k).queue,j=⟨k,m,jZ⟩)\/(∃st,st<s.bN.length/\ ∃x∈(aS s st).pipe,j=⟨x.who,x.n,jZ⟩):=by
 unfold nR gL fD;simp only[abS,adS,ac7,abP];constructor
 ·rintro(⟨k,a,m,hm,rfl⟩|⟨st,hs,x,b,rfl⟩);·exact .inl ⟨k,a,m,hm,rfl⟩
  ·exact .inr ⟨st,hs,x,b,rfl⟩
 ·rintro(⟨k,a,m,hm,rfl⟩|⟨st,hs,x,b,rfl⟩);·exact .inl ⟨k,a,m,hm,rfl⟩
  ·exact .inr ⟨st,hs,x,b,rfl⟩
theorem OL{s:CSt}:j∈qV s↔∃st,st<s.bN.length/\j∈(aS s st).done:=by unfold qV;simp only[adS,ac7]
theorem iA.asks{who:Nat}{p:eT}(h:iA c who p)(hw:who<3){n:Int}(a:0<=n)(b:n<p.next):pA c who n:=by have:=h.next;refine⟨by omega,a,?_⟩;rw[Int.toNat_natCast];omega
theorem iA.qIn{who:Nat}{p:eT}(h:iA c who p){m:Int}(hm:m∈p.queue):p.next-p.queue.length<=m/\m<p.next:=by obtain⟨i,hi,rfl⟩:=ab6.1 hm;have:=h.queue i hi;simp only[List.getD,hi,abO,Option.getD_some] at this;omega
theorem COk.vIn{s:CSt}(h:COk c s){st:Nat}(hs:st<4){x:Int×Int}(a:x∈gM (aS s st)):(0<=x.1/\x.1<=2)/\0<=x.2/\x.2<(aL s x.1.toNat).next-(aL s x.1.toNat).queue.length:=by obtain⟨b,j,d,e,f⟩:=(h.slv st hs).out x a;have:=(h.port x.1.toNat (by omega)).out j d;exact⟨b,by omega,by omega⟩
theorem COk.same{s:CSt}(h:COk c s){st a:Nat}(hs:st<4)(d:a<4){x y:Int×Int}(e:x∈gM (aS s st))(f:y∈gM (aS s a))(he:x.1=y.1)(hi:(bQ c x.1 x.2).id=(bQ c y.1 y.2).id):st=a:=by
 obtain⟨n,j,g,i,o⟩:=(h.slv st hs).out x e;obtain⟨p,k,b,l,q⟩:=(h.slv a d).out y f;have hp:=h.port x.1.toNat (by omega);rw[<-he] at b
 have:=hp.Kb j g k b (by
  have m:((x.1.toNat:Nat):Int)=x.1:=by omega
  rw[m,i,l,hi,he])
 omega
theorem UU{v:tG}{x:gD}(h:x∈v.pipe):(x.who,x.n)∈gM v:=ac2 _ (abP.2 ⟨x,h,rfl⟩)
theorem ZB{v:tG}{x:Job}(h:x∈v.done):key x∈gM v:=acP _ (adD h)
theorem lB{α:Type}[Inhabited α]{l:List α}(h:0<l.length):l=l.getD 0 default::l.drop 1:=by
 cases l with
 |nil=>simp at h
 |cons x l=>simp
theorem D2:j∈cW l↔j∈l:=(iU l).mem_iff
theorem Rs{s:CSt}(a:k<s.bC.length):(dN s).asked.getD k default=(aL s k).next:=by simp[dN,aL,List.getD,a]
theorem ua{s:CSt}(h:COk c s){m:Mic}(E:R9 c s m): ∀e∈BQ s m,so c (dN s) e=0:=by
 intro e he;have J:=h.pl;have K:=h.sl
 cases m with
 |tick st=>simp[BQ] at he
 |adm who st=>simp[BQ] at he
 |ask who=>
  simp only[BQ,ab2] at he;subst he;obtain⟨u,v,F⟩:=E;have hp:=h.port who u;have i:pA c (who:Int) (aL s who).next:=by refine⟨by omega,hp.next.1,?_⟩;rw[Int.toNat_natCast];omega
  unfold so;dsimp only;rw[if_neg (by exact fun C=>C ⟨i,by omega,by omega⟩),if_pos rfl,if_neg];rw[Int.toNat_natCast,Rs (by omega)];simp
 |work st=>
  simp only[BQ,ab2] at he;subst he;obtain⟨u,v,F,N⟩:=E;have j:eA s st∈(aS s st).pipe:=bT v;have B:=UU j;obtain⟨z,p,q⟩:=h.vIn u B;dsimp only at z p q;have hp:=h.port (eA s st).who.toNat (by omega);have L:(((eA s st).who.toNat:Nat):Int)=(eA s st).who:=by omega
  have i:pA c (eA s st).who (eA s st).n:=by have:=hp.asks (n:=(eA s st).n) (by omega) p (by have:=hp.ql;omega);rwa [L] at this
  have A: ¬bP (iJ (eA s st).who (eA s st).n) (dN s).wait<0:=by have:0<=bP (iJ (eA s st).who (eA s st).n) (dN s).wait:=rS.2 (abP.2 ⟨⟨(eA s st).who,(eA s st).n,jZ⟩,D2.2 (OF.2 (.inr ⟨st,by omega,eA s st,j,rfl⟩)),rfl⟩);omega
  unfold so;dsimp only;rw[if_neg (by exact fun C=>C ⟨i,by omega,by omega⟩),if_neg (by omega),if_pos rfl,if_neg A,if_neg];rw[cU];rintro⟨x,D,r⟩;obtain⟨⟨a,d⟩,b⟩:=of_decide_eq_true r;dsimp only at a d b;rcases OF.1 (D2.1 D) with⟨k,G,m,hm,rfl⟩|⟨g,w,y,o,rfl⟩
  ·dsimp only at a d b;have M:=(h.port k (by omega)).qIn hm;have:(eA s st).who.toNat=k:=(by omega);rw[this] at q;omega
  ·dsimp only at a d b;have t:=h.same (by omega) u (UU o) B a b;subst t;have f:=(adJ.1 (h.slv g u).inc).2.1;rw[lB v,abZ,acN] at f;rw[lB v] at o;rcases abQ.1 o with rfl|o;·unfold eA at d;omega
   ·have:=f.1 (y.who,y.n) (abP.2 ⟨y,o,rfl⟩);dsimp only at this;unfold eA at a d;have:=this a.symm;omega
 |tell who st=>
  simp only[BQ,ab2] at he;subst he;obtain⟨H,u,v,F⟩:=E;have j:nC s st∈(aS s st).done:=bT v;have B:=ZB j;have l:(nC s st).who=who:=F;obtain⟨z,p,q⟩:=h.vIn u B;simp only[key] at z p q;rw[l,Int.toNat_natCast] at q;have hp:=h.port who H;have i:pA c (who:Int) (nC s st).n:=hp.asks H p (by have:=hp.ql;omega);have A: ¬bP (iJ who (nC s st).n) (dN s).done<0:=by have:0<=bP (iJ who (nC s st).n) (dN s).done:=rS.2 (abP.2 ⟨nC s st,D2.2 (OL.2 ⟨st,by omega,j⟩),by simp[key,l]⟩);omega
  have f:=(h.slv st u).inc;unfold gM at f;rw[lB v,abZ,List.cons_append,acN] at f;unfold so;dsimp only;rw[if_neg (by exact fun C=>C ⟨i,by omega,by omega⟩),if_neg (by omega),if_neg (by omega),if_neg A,if_neg];rw[cU,cU];rintro(⟨x,D,r⟩|⟨x,D,r⟩)
  ·obtain⟨⟨a,d⟩,b⟩:=of_decide_eq_true r;dsimp only at a d b;rcases OF.1 (D2.1 D) with⟨k,G,m,hm,rfl⟩|⟨g,w,y,o,rfl⟩
   ·dsimp only at a d b;have M:=(h.port k (by omega)).qIn hm;have:who=k:=(by omega);subst this;omega
   ·dsimp only at a d b;have t:=h.same (by omega) u (UU o) B (by simp only[key];rw[l];exact a) (by simp only[key];rw[l];exact b);subst t;have:=f.1 (y.who,y.n) (ac2 _ (abP.2 ⟨y,o,rfl⟩));have:=this (by show (nC s g).who=y.who;rw[l,a]);have I:(key ((aS s g).done.getD 0 default)).2=(nC s g).n:=rfl;dsimp only at this;omega
  ·obtain⟨⟨a,d⟩,b⟩:=of_decide_eq_true r;dsimp only at a d b;obtain⟨g,w,o⟩:=OL.1 (D2.1 D);have t:=h.same (by omega) u (ZB o) B (by simp only[key];rw[l];exact a) (by simp only[key];rw[l];rw[a] at b;rw[a];exact b);subst t;rw[lB v] at o;rcases abQ.1 o with rfl|o;·unfold nC at d;omega
   ·have:=f.1 (key x) (acP _ (adD o));have:=this (by show (nC s g).who=x.who;rw[l,a]);have I:(key ((aS s g).done.getD 0 default)).2=(nC s g).n:=rfl;simp only[key] at this I;omega
theorem lr(h:(l.map key).Nodup){a b:Job}(e:a∈l)(f:b∈l)(he:key a=key b):a=b:=by
 induction l with
 |nil=>simp at e
 |cons x l j=>
  rw[abZ,acO] at h;rcases abQ.1 e with g|i
  ·rcases abQ.1 f with c|d;·rw[g,c]
   ·exact absurd (abP.2 ⟨b,d,by rw[<-he,g]⟩) h.1
  ·rcases abQ.1 f with c|d;·exact absurd (abP.2 ⟨a,i,by rw[he,c]⟩) h.1
   ·exact j h.2 i d
theorem cH{s s':CSt}{who:Nat}{p:eT}(h:s'.bC=s.bC.set who p)(hw:who<s.bC.length)(k:Nat):aL s' k=if k=who then p else aL s k:=by unfold aL;rw[h,DU hw]
theorem cY{s s':CSt}{st:Nat}{v:tG}(h:s'.bN=s.bN.set st v)(hw:st<s.bN.length)(k:Nat):aS s' k=if k=st then v else aS s k:=by unfold aS;rw[h,DU hw]
theorem Fx{s:CSt}(G:bH c)(h:COk c s){m:Mic}(D:R9 c s m):dN (bS c s m)=runM c (dN s) (BQ s m):=by
 have Q:=h.pl;have R:=h.sl;have t:=ua h D
 cases m with
 |tick st=>
  obtain⟨F,v,E⟩:=D;have p:=fun k=>cY (s:=s) (s':=bS c s (.tick st)) rfl (by omega:st<s.bN.length) k;have w: ∀k,aL (bS c s (.tick st)) k=aL s k:=fun k=>rfl
  have S: ∀k,fD (bS c s (.tick st)) k=fD s k:=fun k=>by
   unfold fD;rw[p];split;·rename_i b;subst b;rw[lB v];simp[eA]
   ·rfl
  have H: ∀k,(aS (bS c s (.tick st)) k).done=(aS s k).done:=fun k=>by
   rw[p];split;·rename_i b;subst b;rfl
   ·rfl
  have hl:(bS c s (.tick st)).bN.length=s.bN.length:=by simp[bS]
  simp only[BQ,runM,List.foldl_nil,dN,TSt.mk.injEq];refine⟨rfl,rfl,rfl,?_,?_,rfl⟩;·congr 1;unfold nR;rw[hl];simp only[List.flatMap_def];congr 2;exact acT fun k _=>S k
  ·congr 1;unfold qV;rw[hl];simp only[List.flatMap_def];congr 1;exact acT fun k _=>H k
 |adm who st=>
  obtain⟨P,F,v,E⟩:=D;have p:=fun k=>cY (s:=s) (s':=bS c s (.adm who st)) rfl (by omega:st<s.bN.length) k;have w:=fun k=>cH (s:=s) (s':=bS c s (.adm who st)) rfl (by omega:who<s.bC.length) k;have hl:(bS c s (.adm who st)).bN.length=s.bN.length:=by simp[bS]
  have u:(bS c s (.adm who st)).bC.length=s.bC.length:=by simp[bS]
  have H: ∀k,(aS (bS c s (.adm who st)) k).done=(aS s k).done:=fun k=>by
   rw[p];split;·rename_i b;subst b;rfl
   ·rfl
  simp only[BQ,runM,List.foldl_nil,dN,TSt.mk.injEq];refine⟨rfl,rfl,?_,?_,?_,rfl⟩
  ·apply aeB (by simp[bS]);intro i d j;simp only[bS,abT,ab0] at d;simp only[bS,aeT,List.getElem_set];split;·rename_i b;subst b;simp[aL,List.getD,d]
   ·rfl
  ·apply L5 h.st.VS;refine List.Perm.trans ?_ (iU _).symm;rw[adY];intro z;have I:=yK (k:=who) (n:=s.bC.length) (by omega) (f:=gL (bS c s (.adm who st))) (g:=gL s) (fun i hi=>by unfold gL;rw[w,if_neg hi]) z;have A:=yK (k:=st) (n:=s.bN.length) (by omega) (f:=fD (bS c s (.adm who st))) (g:=fD s) (fun i hi=>by unfold fD;rw[p,if_neg hi]) z;have J:gL (bS c s (.adm who st)) who=((aL s who).queue.drop 1).map fun n=>⟨who,n,jZ⟩:=by unfold gL;rw[w,if_pos rfl]
   have T:gL s who=⟨who,(aL s who).queue.getD 0 default,jZ⟩::((aL s who).queue.drop 1).map fun n=>⟨who,n,jZ⟩:=by
    unfold gL;conv=>lhs;rw[lB E.1]
    rfl
   have B:fD (bS c s (.adm who st)) st=fD s st++[⟨who,(aL s who).queue.getD 0 default,jZ⟩]:=(by unfold fD;rw[p,if_pos rfl];simp);rw[J,T] at I;rw[B] at A;unfold nR;rw[hl,u];simp only[adP,adZ,List.count_nil] at*;omega
  ·congr 1;unfold qV;rw[hl];simp only[List.flatMap_def];congr 1;exact acT fun k _=>H k
 |ask who=>
  obtain⟨P,F,v⟩:=D;have w:=fun k=>cH (s:=s) (s':=bS c s (.ask who)) rfl (by omega:who<s.bC.length) k;have u:(bS c s (.ask who)).bC.length=s.bC.length:=by simp[bS]
  have r:=OJ G h.st (t ⟨1,who,(aL s who).next⟩ (ab2.2 rfl));have y:oK c (dN s) ⟨1,who,(aL s who).next⟩= {dN s with asked:=(dN s).asked.set who ((aL s who).next+1),wait:=tL (dN s).wait ⟨who,(aL s who).next,jZ⟩}:=by simp[oK]
  have l:=r.VS;rw[y] at l;simp only[BQ];rw[DW,y];simp only[runM,List.foldl_nil,dN,TSt.mk.injEq];refine⟨rfl,rfl,?_,?_,rfl,rfl⟩;·simp[bS,acY]
  ·apply L5 l;refine List.Perm.trans ?_ ((pO _ _).trans ((iU _).cons _)).symm;rw[adY];intro z;have I:=yK (k:=who) (n:=s.bC.length) (by omega) (f:=gL (bS c s (.ask who))) (g:=gL s) (fun i hi=>by unfold gL;rw[w,if_neg hi]) z;have J:gL (bS c s (.ask who)) who=gL s who++[⟨who,(aL s who).next,jZ⟩]:=(by unfold gL;rw[w,if_pos rfl];simp);have K:(List.range (bS c s (.ask who)).bN.length).flatMap (fD (bS c s (.ask who)))=(List.range s.bN.length).flatMap (fD s):=rfl;rw[J] at I;unfold nR;rw[u,K];simp only[adP,adZ,List.count_nil] at*;omega
 |work st=>
  obtain⟨F,v,E,V⟩:=D;have p:=fun k=>cY (s:=s) (s':=bS c s (.work st)) rfl (by omega:st<s.bN.length) k;have hl:(bS c s (.work st)).bN.length=s.bN.length:=by simp[bS]
  have hw:=t ⟨2,(eA s st).who,(eA s st).n⟩ (ab2.2 rfl);have r:=OJ G h.st hw;have L:=(UE hw).2
  have C: ¬bP (iJ (eA s st).who (eA s st).n) (dN s).wait<0:=by
   rcases L with⟨b,_⟩|⟨b,hi⟩|⟨b,_⟩
   ·exact absurd b (by dsimp only;decide)
   ·exact hi
   ·exact absurd b (by dsimp only;decide)
  obtain⟨d,j⟩:=tS C;have y:oK c (dN s) ⟨2,(eA s st).who,(eA s st).n⟩= {dN s with words:=(KR c s st).1.1,holds:=(KR c s st).1.2,wait:=UD (dN s).wait (bP (iJ (eA s st).who (eA s st).n) (dN s).wait).toNat,done:=tL (dN s).done ⟨(eA s st).who,(eA s st).n,(KR c s st).2⟩}:=by simp only[oK,KR,dN,if_true,if_false,Int.reduceEq]
  have l:=r.VS;have o:=r.VU;rw[y] at l o;simp only[BQ];rw[DW,y];simp only[runM,List.foldl_nil];have q:(dN s).wait.getD (bP (iJ (eA s st).who (eA s st).n) (dN s).wait).toNat default=⟨(eA s st).who,(eA s st).n,jZ⟩:=by have hm:=bT d;have hr:=h.st.oo _ hm;generalize (dN s).wait.getD (bP (iJ (eA s st).who (eA s st).n) (dN s).wait).toNat default=x at j hr;obtain⟨W,x2,X⟩:=x;simp only[key,Prod.mk.injEq] at j;dsimp only at hr;rw[j.1,j.2,hr]
  have e:=HH d;rw[q] at e
  have M:cW (nR (bS c s (.work st)))=UD (dN s).wait (bP (iJ (eA s st).who (eA s st).n) (dN s).wait).toNat:=by
   apply L5 l;refine List.Perm.cons_inv (a:=⟨(eA s st).who,(eA s st).n,jZ⟩) ?_;refine List.Perm.trans ?_ ((iU _).symm.trans e);rw[adY];intro z;have A:=yK (k:=st) (n:=s.bN.length) (by omega) (f:=fD (bS c s (.work st))) (g:=fD s) (fun i hi=>by unfold fD;rw[p,if_neg hi]) z
   have B:fD s st=⟨(eA s st).who,(eA s st).n,jZ⟩::fD (bS c s (.work st)) st:=by
    unfold fD;rw[p,if_pos rfl];conv=>lhs;rw[lB v]
    rfl
   have K:(List.range (bS c s (.work st)).bC.length).flatMap (gL (bS c s (.work st)))=(List.range s.bC.length).flatMap (gL s):=rfl;rw[B] at A;unfold nR;rw[hl,K];simp only[adP,adZ,List.count_nil] at*;omega
  have N:cW (qV (bS c s (.work st)))=tL (dN s).done ⟨(eA s st).who,(eA s st).n,(KR c s st).2⟩:=by apply L5 o;refine List.Perm.trans ?_ ((pO _ _).trans ((iU _).cons _)).symm;rw[adY];intro z;have A:=yK (k:=st) (n:=s.bN.length) (by omega) (f:=fun k=>(aS (bS c s (.work st)) k).done) (g:=fun k=>(aS s k).done) (fun i hi=>by rw[p,if_neg hi]) z;have B:(aS (bS c s (.work st)) st).done=(aS s st).done++[⟨(eA s st).who,(eA s st).n,(KR c s st).2⟩]:=(by rw[p,if_pos rfl]);rw[B] at A;unfold qV;rw[hl];simp only[adP,adZ,List.count_nil] at*;omega
  show TSt.mk _ _ _ (cW (nR (bS c s (.work st)))) (cW (qV (bS c s (.work st)))) _=_;rw[M,N];rfl
 |tell who st=>
  obtain⟨P,F,v,E⟩:=D;have O:(nC s st).who=who:=E;have p:=fun k=>cY (s:=s) (s':=bS c s (.tell who st)) rfl (by omega:st<s.bN.length) k;have w:=fun k=>cH (s:=s) (s':=bS c s (.tell who st)) rfl (by omega:who<s.bC.length) k;have hl:(bS c s (.tell who st)).bN.length=s.bN.length:=by simp[bS]
  have u:(bS c s (.tell who st)).bC.length=s.bC.length:=by simp[bS]
  have hw:=t ⟨3,who,(nC s st).n⟩ (ab2.2 rfl);have r:=OJ G h.st hw;have L:=(UE hw).2
  have C: ¬bP (iJ who (nC s st).n) (dN s).done<0:=by
   rcases L with⟨b,_⟩|⟨b,hi⟩|⟨b,hi⟩
   ·exact absurd b (by dsimp only;decide)
   ·exact absurd b (by dsimp only;decide)
   ·exact hi
  obtain⟨d,j⟩:=tS C;have y:oK c (dN s) ⟨3,who,(nC s st).n⟩= {dN s with told:=(dN s).told++[(dN s).done.getD (bP (iJ who (nC s st).n) (dN s).done).toNat default],done:=UD (dN s).done (bP (iJ who (nC s st).n) (dN s).done).toNat}:=by simp only[oK,if_false,Int.reduceEq]
  have o:=r.VU;rw[y] at o;simp only[BQ];rw[DW,y];simp only[runM,List.foldl_nil];have q:(dN s).done.getD (bP (iJ who (nC s st).n) (dN s).done).toNat default=nC s st:=by refine lr (FZ h.st.VU) (bT d) (D2.2 (OL.2 ⟨st,by omega,bT v⟩)) ?_;rw[j];simp[key,O]
  have e:=HH d;rw[q] at e
  have M:cW (nR (bS c s (.tell who st)))=(dN s).wait:=by
   show cW _=cW _;congr 1;unfold nR;rw[hl,u];simp only[List.flatMap_def];congr 2
   ·exact acT fun k _=>by
     unfold gL;rw[w];split;·rename_i b;subst b;rfl
     ·rfl
   ·exact acT fun k _=>by
     unfold fD;rw[p];split;·rename_i b;subst b;rfl
     ·rfl
  have N:cW (qV (bS c s (.tell who st)))=UD (dN s).done (bP (iJ who (nC s st).n) (dN s).done).toNat:=by apply L5 o;apply List.Perm.cons_inv (a:=nC s st);refine List.Perm.trans ?_ ((iU _).symm.trans e);rw[adY];intro z;have A:=yK (k:=st) (n:=s.bN.length) (by omega) (f:=fun k=>(aS (bS c s (.tell who st)) k).done) (g:=fun k=>(aS s k).done) (fun i hi=>by rw[p,if_neg hi]) z;have B:(aS s st).done=nC s st::(aS (bS c s (.tell who st)) st).done:=(by rw[p,if_pos rfl];exact lB v);rw[B] at A;unfold qV;rw[hl];simp only[adP,adZ,List.count_nil] at*;omega
  have U:(bS c s (.tell who st)).bC.map (·.next)=s.bC.map (·.next):=by
   apply aeB (by simp[bS]);intro i d j;simp only[bS,abT,ab0] at d;simp only[bS,aeT,List.getElem_set];split;·rename_i b;subst b;simp[aL,List.getD,d]
   ·rfl
  show TSt.mk _ _ ((bS c s (.tell who st)).bC.map (·.next)) (cW (nR (bS c s (.tell who st)))) (cW (qV (bS c s (.tell who st)))) (s.told++[nC s st])=_;rw[M,N,U,q];rfl
end Go.AM
namespace Go.AM
open Go.RowKit
def aaE(k:IntKind)(w:World)(a:Option Addr)(len cap:Nat)(zs:List Int):Prop:=
 (a=none/\len=0/\cap=0/\zs=[])\/
 ∃x,a=some x/\len<=cap/\cap<=maxLen/\zs.length=cap/\(∀i,i<zs.length->w.cell? (x.add i)=some (.int k (zs.getD i 0)))/\ ∀n∈zs,(Lit.int k n).wf=true
theorem xr{P:Program}{f:FuncId}{l:List Int}{w:World}{v:Value}{I:Nat->Prop}(h:aC P f [dS (l.map eU8)] .nil 0 fun n _ _=>n.plain=true/\n=dB true)(t: ∀b,I b->b<w.heap.size)(y:Imm I w (.isl (l.map eU8)) v):
 Calls P f #[v] w fun e p=>e= .returned (.bool true)/\Below w.heap.size w p:=by
 have c: ∀b,¬yA ⟨fun _=>(0,0),fun _=>False,I,w⟩ .nil b:=by rintro b ⟨id,o,h,_⟩;cases h
 have g:St ⟨fun _=>(0,0),fun _=>False,I,w⟩ .nil:=⟨fun id o h=>(by cases h),fun id o h=>(by cases h),fun id o h=>(by cases h),fun id o i j r d h=>(by cases h),fun id z o o' h=>(by cases h),fun id o h=>(by cases h),t⟩
 refine(h.2 ⟨fun _=>(0,0),fun _=>False,I,w⟩ [v] g (fun i hi=>hi.elim) rfl (fun i d u m q=> ?_)).mono ?_
 ·match i with
  |0=>simp at m q;subst m;subst q;exact y
  |i+1=>simp at m
 ·rintro x p ⟨u,c',r,H',nx',rfl,rfl,B,a,C,D,s,E,rfl⟩;have hu:u= .bool true:=by simp only[gN,lT,Rel,cO] at s;cases s;rfl
  subst hu;exact⟨rfl,a.os,a.tape,a.output,a.size,fun k A=>a.frame k A (c k)⟩
theorem abF{P:Program}{f:FuncId}(h: ∀l:List Int,(∀x∈l,0<=x/\x<256)->aC P f [dS (l.map eU8)] .nil 0 fun A _ _=>A.plain=true/\A=dB true)(B:Option Addr)(len0 a:Nat)(k:List Int)(w:World)(D:aaE .u8 w B len0 a k):
 Calls P f #[.slice B len0 a] w fun e E=>e= .returned (.bool true)/\Below w.heap.size w E:=by
 rcases D with⟨rfl,rfl,rfl,rfl⟩|⟨x,rfl,hl,hm,G,hc,hw⟩
 ·refine xr (I:=fun _=>False) (h [] (fun x F=>by cases F)) (fun b p=>p.elim) ?_;exact .isl [] none 0 1 0 0 (fun _ _=>.int .u8 0) (fun h=>absurd rfl h) (abG _) (fun i r h=>by simp at h) (fun i j r d h=>by simp at h) (fun i j r d h=>by simp at h)
 ·have q:(k.take len0).length=len0:=by simp;omega
  have t: ∀y∈k.take len0,0<=y/\y<256:=fun y g=>by have:=bounds_u8 (hw y (List.take_subset _ _ g));omega
  refine xr (I:=fun b=>b=x.block/\0<len0) (h (k.take len0) t) (fun b p=> ?_) ?_;·obtain⟨rfl,m⟩:=p;have:=World.block_lt_of_cell? w _ (hc 0 (by omega));simpa [Addr.add] using this
  ·have key:=Imm.isl (I:=fun b=>b=x.block/\0<len0) (w:=w) ((k.take len0).map eU8) (some x) a 1 x.block x.off (fun i _=>.int .u8 (k.getD i 0)) (fun u=> ?_) (by simp;omega) (fun i r hr=> ?_) (fun i j r d hr n=> ?_) (fun i j r d hr n=> ?_);·rw[abT,q] at key;exact key
   ·have m:0<len0:=by
     rcases ac3 len0 with m|m
     ·subst m;exact absurd (by simp) u
     ·exact m
    have c:=World.cell?_spot (hc 0 (by omega))
    refine⟨?_,rfl,m⟩
    obtain⟨b,o,s⟩:=x
    simp only[Addr.add,if_true] at c
    subst c
    rfl
   ·obtain⟨y,_,rfl⟩:=abP.1 (abV hr);rfl
   ·rw[abW] at hr;obtain⟨y,g,rfl⟩:=abR.1 hr
    match j with
    |0=>
     have hi:i<len0:=(by have:=(abN.1 g).1;omega);have C:=hc i (by omega);have c:=World.cell?_spot (hc 0 (by omega));obtain⟨b,o,s⟩:=x;simp only[Addr.add,if_true] at c;subst c
     have e:(Addr.mk b o none).add i=⟨b,o+(i*1+0),none⟩:=by
      unfold Addr.add;split;·rename_i h;subst h;simp
      ·simp
     rw[e] at C;exact C
    |j+1=>simp[eU8] at n
   ·rw[abW] at hr;obtain⟨y,g,rfl⟩:=abR.1 hr
    match j with
    |0=>
     simp only[eU8,List.getElem?_cons_zero,Option.some.injEq] at n;subst n
     have z:y=k.getD i 0:=by
      rw[acM] at g;split at g;·simp[List.getD,g]
      ·cases g
     subst z;exact .v _ rfl
    |j+1=>simp[eU8] at n
end Go.AM
namespace Go.Proofs.YtlncecohbakleaaGreat
open Go Go.AM
def jQ:AC:= (SR [RO 3 0,RO 4 1,RO 5 2,RV 6 (.kv (.slice none 0 0))] [3,4,5] (.seq (SR [RD 8 3 3,RD 9 5 4,RC 10 qK [8,9],RU 11 10,RM 12 11,GQ 13 (.load 3 true 5) 12 false,GQ 14 (.call A3 [13]) 12 false,GU 15 14 12 false,RP 16 12 kT 15] [3,4,5,16] (.cond 16 (SR [RV 6 (.kv (.slice none 0 0))] [6] .ret) .skip)) (SR [RD 17 5 4,RC 18 dH [17],RA 7 [OZ,OZ,OZ,OZ,OZ],WS 5 true 7 18] [3,5,7] (SR [RD 19 3 3,RD 20 3 5,RC 21 gQ [7,19,20],rq 22 (.field 0 1 false 21),RC 23 kJ [22],RM 6 23] [6] .ret))))
def FT:List aW:=[.tm 6]
theorem TF:aQ afA Tryz.f34 (aX jQ)=some (jQ,FT):=by kernel_rfl
def hZ:AC:= (SR [RV 2 (.kv (.slice none 0 0))] [0] (SR [RM 3 0,RC 4 eN [3],RC 5 dL [4],RM 2 5] [2] .ret))
def oL:List aW:=[.tm 2]
theorem DR:aQ afA Tryz.f107 (aX hZ)=some (hZ,oL):=by kernel_rfl
def eG:AC:= (SR [RV 2 (.kv (.slice none 0 0))] [0] (.seq (SR [RM 3 0,rq 4 (.xop (.tY false) [3])] [0,4] (.cond 4 (SR [RV 2 (.kv (.slice none 0 0))] [2] .ret) .skip)) (SR [rq 5 (.aU 3 0 [VZ,VZ,VZ] []),RM 6 0,rq 7 (.append 3 5 6),RM 2 7] [2] .ret)))
def kK:List aW:=[.tm 2]
theorem tF:aQ afA Tryz.f199 (aX eG)=some (eG,kK):=by kernel_rfl
def qM:AC:= (SR [RV 2 kF] [0] (.seq (SR [RM 12 0,RN 13 12,RB 14 .gtr 13 (ki 1048576)] [0,14] (.cond 14 (SR [RV 2 kT] [2] .ret) .skip)) (SR [RM 16 0,RC 17 wC [16],RM 15 17,rq 18 (.ext 15 0),rq 19 (.ext 15 1),rq 20 (.ext 15 2),RA 3 [OZ,OZ,OZ],RA 4 [OZ,OZ,OZ,OZ,OZ],WS 3 true 3 18,WS 5 true 4 19,RM 5 20] [3,4,5] (SR [RD 21 3 3,RD 22 5 4,RM 23 5,RC 24 iC [21,22,23],RA 6 [OZ,OZ,OZ,OZ,OZ],WS 5 true 6 24] [3,4,5,6] (SR [RD 25 3 3,RD 26 5 4,RM 27 5,RC 28 lA [25,26,27],RM 7 28] [3,4,5,6,7] (.seq (SR [RX 29 (.load 5 true 6) [] [] true,RD 30 3 3,RD 31 5 4,RM 32 5,RX 33 (.call rK [30,31,32]) [] [0] false,RC 34 i7 [29,33],RU 35 34,RM 36 35,GM 37 7 36 false,GQ 38 (.load 3 true 3) 36 false,GQ 39 (.load 5 true 4) 36 false,GM 40 5 36 false,GQ 41 (.call nJ [38,39,40]) 36 false,GQ 42 (.call iM [37,41]) 36 false,GU 43 42 36 false,RP 44 36 kT 43] [3,4,5,6,7,44] (.cond 44 (SR [RV 2 kF] [2] .ret) .skip)) (.seq (SR [RF 45 2 6,RL 46 45,RN 47 46,RB 48 .eql 47 (ki 0)] [3,4,5,6,7,48] (.cond 48 (SR [RM 49 7,RN 50 49,RB 51 .eql 50 (ki 0),RM 52 51,GQ 53 (.call FR []) 52 true,RP 54 52 53 kF,RM 2 54] [2] .ret) .skip)) (SR [RD 55 5 4,RA 8 [OZ,OZ,OZ,OZ,OZ],WS 5 true 8 55] [3,4,5,6,7,8] (SR [rq 56 (.aU 3 0 [VZ,VZ,VZ] []),RM 9 56] [3,4,5,6,7,8,9] (.seq (SR [RV 10 (ki 0)] [3,4,5,6,7,8,9,10] (.block 0 (.loop (.seq (SR [RM 57 10,RM 58 5,RN 59 58,RB 60 .lss 57 59] [3,4,5,6,7,8,9,10,60] (.cond 60 .skip (.exit 0))) (.seq (.block 1 (SR [RM 63 9,RD 64 3 3,RD 65 5 8,RM 66 5,RM 67 10,RI 68 3 66 67,RD 69 3 68,RC 70 mJ [64,65,69],rq 71 (.append 3 63 70),RM 9 71] [3,4,5,6,7,8,9,10] (RG [RD 72 3 3,RD 73 5 8,RM 74 5,RM 75 10,RI 76 3 74 75,RD 77 3 76,RC 78 uO [72,73,77],WS 5 true 8 78] [3,4,5,6,7,8,9,10]))) (RG [RM 61 10,RB 62 .add 61 (ki 1),RM 10 62] [3,4,5,6,7,8,9,10])))))) (SR [RM 79 5,RN 80 79,RB 81 .quo 80 (ki 2),RM 11 81] [3,4,5,6,7,8,9,11] (.seq (.region [RD 82 5 8 0,RD 83 5 6 1,RC 84 i7 [82,83] 2,RM 85 84 3,GM 86 9 85 true 4,GM 87 7 85 true 5,GQ 88 (.call iM [86,87]) 85 true 6,RP 89 85 88 kF 7,RM 90 89 8,RY (some 91) (.load 3 true 3) (some (90,true)) [] [] true 9,GQ 92 (.load 3 true 3) 90 true 10,GQ 93 (.load 5 true 4) 90 true 11,GM 94 5 90 true 12,GM 95 11 90 true 13,GQ 96 (.slc 3 94 none (some 95) none) 90 true 14,GM 98 5 90 true 16,GM 99 11 90 true 17,GQ 100 (.slc 3 98 (some 99) none none) 90 true 18,RY (some 102) (.load 5 true 6) (some (90,true)) [] [] true 20,RY (some 97) (.call iC [92,93,96]) (some (90,true)) [] [9,20] false 15,RY (some 101) (.call iC [91,97,100]) (some (90,true)) [] [20] false 19,GQ 103 (.call i7 [101,102]) 90 true 21,RP 104 90 103 kF 22,RM 2 104 23] 24 [2]) .ret))))))))))))
def I3:List aW:=[.tm 2]
theorem U2:aQ afA Tryz.f4 (aX qM)=some (qM,I3):=by kernel_rfl
end Go.Proofs.YtlncecohbakleaaGreat
