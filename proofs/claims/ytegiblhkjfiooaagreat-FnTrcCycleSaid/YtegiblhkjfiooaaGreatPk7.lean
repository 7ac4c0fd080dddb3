/- Texts laid together by a program: rules, contracts and the walk that leads to the law. -/
import Derived.Test.YtegiblhkjfiooaaGreatPk3
import Derived.Test.YtegiblhkjfiooaaGreatPk4
import Derived.Test.YtegiblhkjfiooaaGreatPk5
import Derived.Test.YtegiblhkjfiooaaGreatPk6
set_option linter.unusedVariables false
set_option linter.unusedSimpArgs false
set_option linter.unusedSectionVars false
section
section
namespace Go.AM
structure Rng where
 lo:Int
 hi:Int
 OT:Int
 only:Bool
 deriving Inhabited,DecidableEq
structure Req where
 id:Int
 kind:Int
 addr:Int
 many:Int
 wrap:Bool
 data:List Int
 lanes:List Int
 deriving Inhabited,DecidableEq
structure Rsp where
 id:Int
 code:Int
 data:List Int
 deriving Inhabited,DecidableEq
structure Job where
 who:Int
 n:Int
 rsp:Rsp
 deriving Inhabited,DecidableEq
structure Ev where
 kind:Int
 who:Int
 n:Int
 deriving Inhabited,DecidableEq
structure Cfg where
 map:List Rng
 lat:List Int
 dG:List (List Req)
 deriving Inhabited,DecidableEq
theorem aJ (x:Int):(aE x).length=1∧(aE x).all D1.dT=true:=⟨rfl,rfl⟩
def eY (r:Rng):List D1:=[cI r.lo,cI r.hi,cI r.OT,cB r.only]
theorem akD {r:Rng}:(eY r).length=4:=rfl
theorem ab1 {r:Rng}:(eY r).take 1=[cI r.lo]:=rfl
theorem ab5 {r:Rng}:(eY r).drop 1=[cI r.hi,cI r.OT,cB r.only]:=rfl
theorem adO {r:Rng}:(eY r).take 2=[cI r.lo,cI r.hi]:=rfl
theorem ac3 {r:Rng}:(eY r).drop 2=[cI r.OT,cB r.only]:=rfl
theorem ad2 {r:Rng}:(eY r).take 3=[cI r.lo,cI r.hi,cI r.OT]:=rfl
theorem ad3 {r:Rng}:(eY r).drop 3=[cB r.only]:=rfl
theorem acA {r:Rng}:(eY r).take 4=eY r:=rfl
theorem adL {r:Rng}:(eY r).drop 4=[]:=rfl
theorem ahQ {r:Rng} {cs:List D1} {k:Nat}:iX cs (k+1) (eY r)=iX cs (k+1) [cI r.lo,cI r.hi,cI r.OT,cB r.only]:=rfl
theorem LF (r:Rng):(eY r).length=4∧(eY r).all D1.dT=true:=⟨rfl,rfl⟩
attribute [go_sem] akD ab1 ab5 adO ac3 ad2 ad3 acA adL ahQ
def d9 (q:Req):List D1:=[cI q.id,cI q.kind,cI q.addr,cI q.many,cB q.wrap,.isl (q.data.map aE),.isl (q.lanes.map aE)]
theorem ak7 {q:Req}:(d9 q).length=7:=rfl
theorem acH {q:Req}:(d9 q).take 1=[cI q.id]:=rfl
theorem adW {q:Req}:(d9 q).drop 1=[cI q.kind,cI q.addr,cI q.many,cB q.wrap,.isl (q.data.map aE),.isl (q.lanes.map aE)]:=rfl
theorem adR {q:Req}:(d9 q).take 2=[cI q.id,cI q.kind]:=rfl
theorem aeO {q:Req}:(d9 q).drop 2=[cI q.addr,cI q.many,cB q.wrap,.isl (q.data.map aE),.isl (q.lanes.map aE)]:=rfl
theorem ae3 {q:Req}:(d9 q).take 3=[cI q.id,cI q.kind,cI q.addr]:=rfl
theorem adI {q:Req}:(d9 q).drop 3=[cI q.many,cB q.wrap,.isl (q.data.map aE),.isl (q.lanes.map aE)]:=rfl
theorem abZ {q:Req}:(d9 q).take 4=[cI q.id,cI q.kind,cI q.addr,cI q.many]:=rfl
theorem aeK {q:Req}:(d9 q).drop 4=[cB q.wrap,.isl (q.data.map aE),.isl (q.lanes.map aE)]:=rfl
theorem adG {q:Req}:(d9 q).take 5=[cI q.id,cI q.kind,cI q.addr,cI q.many,cB q.wrap]:=rfl
theorem adN {q:Req}:(d9 q).drop 5=[.isl (q.data.map aE),.isl (q.lanes.map aE)]:=rfl
theorem ac7 {q:Req}:(d9 q).take 6=[cI q.id,cI q.kind,cI q.addr,cI q.many,cB q.wrap,.isl (q.data.map aE)]:=rfl
theorem ae1 {q:Req}:(d9 q).drop 6=[.isl (q.lanes.map aE)]:=rfl
theorem ad4 {q:Req}:(d9 q).take 7=d9 q:=rfl
theorem adA {q:Req}:(d9 q).drop 7=[]:=rfl
theorem agP {q:Req} {cs:List D1} {k:Nat}:iX cs (k+1) (d9 q)=iX cs (k+1) [cI q.id,cI q.kind,cI q.addr,cI q.many,cB q.wrap,.isl (q.data.map aE),.isl (q.lanes.map aE)]:=rfl
theorem vE (q:Req):(d9 q).length=7∧(d9 q).all D1.dT=true:=⟨rfl,rfl⟩
attribute [go_sem] ak7 acH adW adR aeO ae3 adI abZ aeK adG adN ac7 ae1 ad4 adA agP
def qY (r:Rsp):List D1:=[cI r.id,cI r.code,.isl (r.data.map aE)]
theorem akS {r:Rsp}:(qY r).length=3:=rfl
theorem ae8 {r:Rsp}:(qY r).take 1=[cI r.id]:=rfl
theorem ae7 {r:Rsp}:(qY r).drop 1=[cI r.code,.isl (r.data.map aE)]:=rfl
theorem ab4 {r:Rsp}:(qY r).take 2=[cI r.id,cI r.code]:=rfl
theorem aeQ {r:Rsp}:(qY r).drop 2=[.isl (r.data.map aE)]:=rfl
theorem adM {r:Rsp}:(qY r).take 3=qY r:=rfl
theorem aeN {r:Rsp}:(qY r).drop 3=[]:=rfl
theorem ag8 {r:Rsp} {cs:List D1} {k:Nat}:iX cs (k+1) (qY r)=iX cs (k+1) [cI r.id,cI r.code,.isl (r.data.map aE)]:=rfl
attribute [go_sem] akS ae8 ae7 ab4 aeQ adM aeN ag8
def aK (j:Job):List D1:=[cI j.who,cI j.n,cI j.rsp.id,cI j.rsp.code,.isl (j.rsp.data.map aE)]
theorem amC {j:Job}:(aK j).length=5:=rfl
theorem adV {j:Job}:(aK j).take 1=[cI j.who]:=rfl
theorem aeL {j:Job}:(aK j).drop 1=[cI j.n,cI j.rsp.id,cI j.rsp.code,.isl (j.rsp.data.map aE)]:=rfl
theorem ac0 {j:Job}:(aK j).take 2=[cI j.who,cI j.n]:=rfl
theorem adD {j:Job}:(aK j).drop 2=[cI j.rsp.id,cI j.rsp.code,.isl (j.rsp.data.map aE)]:=rfl
theorem aeW {j:Job}:(aK j).take 3=[cI j.who,cI j.n,cI j.rsp.id]:=rfl
theorem acF {j:Job}:(aK j).drop 3=[cI j.rsp.code,.isl (j.rsp.data.map aE)]:=rfl
theorem ad9 {j:Job}:(aK j).take 4=[cI j.who,cI j.n,cI j.rsp.id,cI j.rsp.code]:=rfl
theorem ad5 {j:Job}:(aK j).drop 4=[.isl (j.rsp.data.map aE)]:=rfl
theorem acR {j:Job}:(aK j).take 5=aK j:=rfl
theorem afC {j:Job}:(aK j).drop 5=[]:=rfl
theorem aiP {j:Job} {cs:List D1} {k:Nat}:iX cs (k+1) (aK j)=iX cs (k+1) [cI j.who,cI j.n,cI j.rsp.id,cI j.rsp.code,.isl (j.rsp.data.map aE)]:=rfl
theorem aV (j:Job):(aK j).length=5∧(aK j).all D1.dT=true:=⟨rfl,rfl⟩
attribute [go_sem] amC adV aeL ac0 adD aeW acF ad9 ad5 acR afC aiP
def eEv (v:Ev):List D1:=[cI v.kind,cI v.who,cI v.n]
theorem anW {v:Ev}:(eEv v).length=3:=rfl
theorem ai9 {v:Ev}:(eEv v).take 1=[cI v.kind]:=rfl
theorem aiW {v:Ev}:(eEv v).drop 1=[cI v.who,cI v.n]:=rfl
theorem ahC {v:Ev}:(eEv v).take 2=[cI v.kind,cI v.who]:=rfl
theorem ahF {v:Ev}:(eEv v).drop 2=[cI v.n]:=rfl
theorem ag0 {v:Ev}:(eEv v).take 3=eEv v:=rfl
theorem aiK {v:Ev}:(eEv v).drop 3=[]:=rfl
theorem am3 {v:Ev} {cs:List D1} {k:Nat}:iX cs (k+1) (eEv v)=iX cs (k+1) [cI v.kind,cI v.who,cI v.n]:=rfl
theorem RE (v:Ev):(eEv v).length=3∧(eEv v).all D1.dT=true:=⟨rfl,rfl⟩
attribute [go_sem] anW ai9 aiW ahC ahF ag0 aiK am3
abbrev Prog:=List Req
def oQ (p:Prog):List D1:=[.isl (p.map d9)]
theorem agI {p:Prog}:(oQ p).length=1:=rfl
theorem aaP {p:Prog}:(oQ p).take 1=[.isl (p.map d9)]:=rfl
theorem ZQ {p:Prog}:(oQ p).drop 1=[]:=rfl
theorem adE {p:Prog} {cs:List D1} {k:Nat}:iX cs (k+1) (oQ p)=iX cs (k+1) [.isl (p.map d9)]:=rfl
theorem vO (p:Prog):(oQ p).length=1∧(oQ p).all D1.dT=true:=⟨rfl,rfl⟩
attribute [go_sem] agI aaP ZQ adE
def cH (c:Cfg):List D1:=[.isl (c.map.map eY),.isl (c.lat.map aE),.isl (c.dG.map oQ)]
theorem ajQ {c:Cfg}:(cH c).length=3:=rfl
theorem acX {c:Cfg}:(cH c).take 1=[.isl (c.map.map eY)]:=rfl
theorem ad8 {c:Cfg}:(cH c).drop 1=[.isl (c.lat.map aE),.isl (c.dG.map oQ)]:=rfl
theorem acY {c:Cfg}:(cH c).take 2=[.isl (c.map.map eY),.isl (c.lat.map aE)]:=rfl
theorem aeP {c:Cfg}:(cH c).drop 2=[.isl (c.dG.map oQ)]:=rfl
theorem ae0 {c:Cfg}:(cH c).take 3=cH c:=rfl
theorem aeG {c:Cfg}:(cH c).drop 3=[]:=rfl
theorem agL {c:Cfg} {cs:List D1} {k:Nat}:iX cs (k+1) (cH c)=iX cs (k+1) [.isl (c.map.map eY),.isl (c.lat.map aE),.isl (c.dG.map oQ)]:=rfl
attribute [go_sem] ajQ acX ad8 acY aeP ae0 aeG agL
def qU (addr many:Int) (wrap:Bool):Prop:=(many=1∨many=2∨many=4)∧(0≤addr∧addr≤63)∧(wrap=true∨addr+many-1≤63)
instance {addr many:Int} {wrap:Bool}:Decidable (qU addr many wrap):=by unfold qU;infer_instance
def inR (r:Rng) (a:Int):Bool:=decide (r.lo≤a∧a≤r.hi)
def aW {α:Type} (p:α→Bool) (l:List α):Int:=match l.findIdx? p with
 |some k=>k
 |none=>-1
theorem AH {α:Type} [Inhabited α] {p:α→Bool} {l:List α} {k:Nat} (hk:k<l.length) (h:p (l.getD k default)=true) (hinv: ∀i,i<k→p (l.getD i default)=false):aW p l=k:=by
 have:l.findIdx? p=some k:=by
  rw[List.findIdx?_eq_some_iff_getElem]
  refine⟨hk,by simpa [List.getD,hk] using h,fun j hj=> ?_⟩
  have:=hinv j hj
  have hj2:j<l.length:=by omega
  simpa [List.getD,hj2] using this
 simp[aW,this]
theorem rI {α:Type} [Inhabited α] {p:α→Bool} {l:List α} (hinv: ∀i,i<l.length→p (l.getD i default)=false):aW p l= -1:=by
 have:l.findIdx? p=none:=by
  rw[List.findIdx?_eq_none_iff]
  intro x hx
  obtain⟨i,hi,rfl⟩:=List.mem_iff_getElem.1 hx
  have:=hinv i hi
  simpa [List.getD,hi] using this
 simp[aW,this]
theorem QA {α:Type} {p:α→Bool} {l:List α}:aW p l<l.length:=by
 unfold aW;split
 ·rename_i k h;have:=(List.findIdx?_eq_some_iff_getElem.1 h).1;omega
 ·omega
theorem aoY {α:Type} {p:α→Bool} {l:List α}: -1≤aW p l:=by
 unfold aW;split<;>omega
theorem nG {P:Nat→Prop} {k:Nat} (h: ∀i,i<k→P i) (hk:P k): ∀i,i<k+1→P i:=fun i hi=>by
 rcases Nat.lt_succ_iff_lt_or_eq.1 hi with hi|rfl
 ·exact h i hi
 ·exact hk
def cS (l:List Rng) (all:List Int):Int:=
 if all.length=0 then-1 else if all.all (fun a=>decide (aW (inR · a) l=aW (inR · (all.getD 0 default)) l)) then aW (inR · (all.getD 0 default)) l else-1
theorem ad7 {l:List Rng} {all:List Int} (h:all.length=0):cS l all= -1:=by simp[cS,h]
theorem TR {l:List Rng} {all:List Int} (h: ¬all.length=0) (hinv: ∀i,i<all.length→1≤i→aW (inR · (all.getD i default)) l=aW (inR · (all.getD 0 default)) l):cS l all=aW (inR · (all.getD 0 default)) l:=by
 unfold cS
 rw[if_neg h,if_pos]
 rw[List.all_eq_true]
 intro a ha
 obtain⟨i,hi,rfl⟩:=List.mem_iff_getElem.1 ha
 rcases Nat.eq_zero_or_pos i with rfl|hp
 ·simp[List.getD,hi]
 ·have:=hinv i hi hp
  simp only[List.getD,hi,List.getElem?_eq_getElem,Option.getD_some] at this
  exact decide_eq_true this
theorem N7 {l:List Rng} {all:List Int} {i:Nat} (h:i<all.length) (hne: ¬aW (inR · (all.getD i default)) l=aW (inR · (all.getD 0 default)) l):cS l all= -1:=by
 unfold cS
 rw[if_neg (by omega),if_neg]
 rw[List.all_eq_true]
 intro hall
 have:=hall (all.getD i default) (by simp[List.getD,h])
 exact hne (of_decide_eq_true this)
def wrM (q:Req):Bool:=decide (q.kind=2∨q.kind=4)
def bAt (addr many:Int) (wrap:Bool) (k:Nat):Int:=if wrap then addr-addr%many+(addr+k)%many else addr+k
def bE (addr many:Int) (wrap:Bool):List Int:=if qU addr many wrap then (List.range many.toNat).map (bAt addr many wrap) else []
theorem asG {addr many:Int} {wrap:Bool} (h:qU addr many wrap) (k:Nat):addr-addr.tmod many+(addr-(addr-addr.tmod many)+k).tmod many=addr-addr%many+(addr+k)%many:=by
 obtain⟨h1,h2,h3⟩:=h
 rw[Int.tmod_eq_emod_of_nonneg (by omega)]
 rw[Int.tmod_eq_emod_of_nonneg (by rcases h1 with rfl|rfl|rfl<;>omega)]
 rcases h1 with rfl|rfl|rfl<;>omega
theorem abC {addr many:Int} {wrap:Bool} (h:qU addr many wrap): ¬many=0∧0<many∧many≤4∧0≤addr∧addr≤63∧addr.tmod many=addr%many∧0≤addr%many∧addr%many≤addr:=by
 obtain⟨h1,h2,h3⟩:=h
 rw[Int.tmod_eq_emod_of_nonneg (by omega)]
 rcases h1 with rfl|rfl|rfl<;>omega
theorem ag4 {addr many:Int} {wrap:Bool} (h:qU addr many wrap) (k:Nat) (hk:k<many.toNat):0≤(addr-(addr-addr%many)+k).tmod many∧(addr-(addr-addr%many)+k).tmod many<4∧addr-addr%many+(addr-(addr-addr%many)+k).tmod many=addr-addr%many+(addr+k)%many:=by
 obtain⟨h1,h2,h3⟩:=h
 rw[Int.tmod_eq_emod_of_nonneg (by rcases h1 with rfl|rfl|rfl<;>omega)]
 rcases h1 with rfl|rfl|rfl<;>omega
theorem aqR {addr many:Int} {wrap:Bool} (h:qU addr many wrap) {k:Nat} (hk:k<many.toNat):0≤bAt addr many wrap k∧bAt addr many wrap k≤63:=by
 obtain⟨h1,h2,h3⟩:=h
 unfold bAt
 split
 ·rcases h1 with rfl|rfl|rfl<;>omega
 ·rename_i hw
  simp[hw] at h3
  omega
theorem W6 {addr many:Int} {wrap:Bool}: ∀a∈bE addr many wrap,0≤a∧a≤63:=by
 intro a ha
 unfold bE at ha
 split at ha
 ·rename_i h
  obtain⟨k,hk,rfl⟩:=List.mem_map.1 ha
  exact aqR h (List.mem_range.1 hk)
 ·simp at ha
theorem zE {addr many:Int} {wrap:Bool} (h:qU addr many wrap):(bE addr many wrap).length=many.toNat:=by simp[bE,h]
theorem HS {addr many:Int} {wrap:Bool}:(bE addr many wrap).length≤4:=by
 unfold bE
 split
 ·rename_i h;obtain⟨h1,_⟩:=h;simp;rcases h1 with rfl|rfl|rfl<;>omega
 ·simp
theorem cL {α:Type} {p:α→Bool} {l:List α}:0≤aW p l↔∃x∈l,p x=true:=by
 unfold aW
 split
 ·rename_i k h
  obtain⟨h1,h2,_⟩:=List.findIdx?_eq_some_iff_getElem.1 h
  exact⟨fun _=>⟨_,List.getElem_mem h1,h2⟩,fun _=>by omega⟩
 ·rename_i h
  rw[List.findIdx?_eq_none_iff] at h
  exact⟨fun h=>by omega,fun⟨x,hx,hp⟩=>by rw[h x hx] at hp;cases hp⟩
structure TSt where
 words:List Int
 holds:List Int
 asked:List Int
 wait:List Job
 done:List Job
 told:List Job
 deriving Inhabited,DecidableEq
def eSt (s:TSt):List D1:=[.isl (s.words.map aE),.isl (s.holds.map aE),.isl (s.asked.map aE),.isl (s.wait.map aK),.isl (s.done.map aK),.isl (s.told.map aK)]
theorem apK {s:TSt}:(eSt s).length=6:=rfl
theorem aiO {s:TSt}:(eSt s).take 1=[.isl (s.words.map aE)]:=rfl
theorem aiZ {s:TSt}:(eSt s).drop 1=[.isl (s.holds.map aE),.isl (s.asked.map aE),.isl (s.wait.map aK),.isl (s.done.map aK),.isl (s.told.map aK)]:=rfl
theorem agT {s:TSt}:(eSt s).take 2=[.isl (s.words.map aE),.isl (s.holds.map aE)]:=rfl
theorem ajJ {s:TSt}:(eSt s).drop 2=[.isl (s.asked.map aE),.isl (s.wait.map aK),.isl (s.done.map aK),.isl (s.told.map aK)]:=rfl
theorem ah7 {s:TSt}:(eSt s).take 3=[.isl (s.words.map aE),.isl (s.holds.map aE),.isl (s.asked.map aE)]:=rfl
theorem aiB {s:TSt}:(eSt s).drop 3=[.isl (s.wait.map aK),.isl (s.done.map aK),.isl (s.told.map aK)]:=rfl
theorem ahS {s:TSt}:(eSt s).take 4=[.isl (s.words.map aE),.isl (s.holds.map aE),.isl (s.asked.map aE),.isl (s.wait.map aK)]:=rfl
theorem ag1 {s:TSt}:(eSt s).drop 4=[.isl (s.done.map aK),.isl (s.told.map aK)]:=rfl
theorem aiQ {s:TSt}:(eSt s).take 5=[.isl (s.words.map aE),.isl (s.holds.map aE),.isl (s.asked.map aE),.isl (s.wait.map aK),.isl (s.done.map aK)]:=rfl
theorem ajM {s:TSt}:(eSt s).drop 5=[.isl (s.told.map aK)]:=rfl
theorem ag2 {s:TSt}:(eSt s).take 6=eSt s:=rfl
theorem ahT {s:TSt}:(eSt s).drop 6=[]:=rfl
theorem ajU {s:TSt} {cs:List D1} {k:Nat}:iX cs (k+1) (eSt s)=iX cs (k+1) [.isl (s.words.map aE),.isl (s.holds.map aE),.isl (s.asked.map aE),.isl (s.wait.map aK),.isl (s.done.map aK),.isl (s.told.map aK)]:=rfl
attribute [go_sem] apK aiO aiZ agT ajJ ah7 aiB ahS ag1 aiQ ajM ag2 ahT ajU
def All (l:List Int) (lo up:Int):Prop:=∀x∈l,lo≤x∧x≤up
instance {l:List Int} {lo up:Int}:Decidable (All l lo up):=by unfold All;infer_instance
theorem LO {l:List Int} {lo up:Int}:All l lo up↔¬0≤aW (fun x=>decide (¬(lo≤x∧x≤up))) l:=by
 rw[cL]
 unfold All
 refine⟨fun h ⟨x,hx,hp⟩=>of_decide_eq_true hp (h x hx),fun h x hx=> ?_⟩
 by_cases hc:lo≤x∧x≤up
 ·exact hc
 ·exact absurd ⟨x,hx,decide_eq_true hc⟩ h
def rZ (q:Req):Int:=if q.kind=2∨q.kind=4 then q.many else 0
def gH (q:Req):Prop:=(0≤q.id∧q.id≤1)∧(1≤q.kind∧q.kind≤4)∧qU q.addr q.many q.wrap∧(q.data.length:Int)=rZ q∧(q.lanes.length:Int)=rZ q∧All q.data 0 65535∧All q.lanes 0 3∧(q.kind=1∨q.kind=2∨q.many=1)
instance {q:Req}:Decidable (gH q):=by unfold gH;infer_instance
def abL (q r:Rng):Bool:=decide (q.lo≤r.hi∧r.lo≤q.hi)
def QQ (r:Rng):Prop:=(0≤r.lo∧r.lo≤63)∧(r.lo≤r.hi∧r.hi≤63)∧(0≤r.OT∧r.OT≤2)
instance {r:Rng}:Decidable (QQ r):=by unfold QQ;infer_instance
def WU (l:List Rng) (i:Nat):Prop:=QQ (l.getD i default)∧ ¬0≤aW (fun q=>abL q (l.getD i default)) (l.take i)
instance {l:List Rng} {i:Nat}:Decidable (WU l i):=by unfold WU;infer_instance
def D3 (l:List Rng):Prop:=(l.length:Int)≤4∧ ∀i,i<l.length→WU l i
instance {l:List Rng}:Decidable (D3 l):=by unfold D3;infer_instance
def qA (p:List Req):Prop:=(p.length:Int)≤12∧ ¬0≤aW (fun q=>decide (¬gH q)) p
instance {p:List Req}:Decidable (qA p):=by unfold qA;infer_instance
def aY (c:Cfg):Prop:=D3 c.map∧(c.lat.length:Int)=4∧All c.lat 0 3∧(c.dG.length:Int)=3∧ ¬0≤aW (fun p=>decide (¬qA p)) c.dG
instance {c:Cfg}:Decidable (aY c):=by unfold aY;infer_instance
def KT (w h:List Int):Prop:=((w.length:Int)=64∧All w 0 65535)∧(h.length:Int)=6∧All h (-1) 63
instance {w h:List Int}:Decidable (KT w h):=by unfold KT;infer_instance
structure kC (c:Cfg):Prop where
 map:c.map.length<2^40
 lat:c.lat.length<2^40
 dG:c.dG.length<2^40
 prog: ∀p∈c.dG,p.length<2^40
 req: ∀p∈c.dG,∀q∈p,q.data.length<2^40∧q.lanes.length<2^40
def bF (c:Cfg) (who n:Int):Req:=(c.dG.getD who.toNat default).getD n.toNat default
def hT (c:Cfg) (who n:Int):Prop:=(0≤who∧who≤2)∧0≤n∧n≤(c.dG.getD who.toNat default).length-1
instance {c:Cfg} {who n:Int}:Decidable (hT c who n):=by unfold hT;infer_instance
def bV (who n:Int) (j:Job):Bool:=decide (j.who=who∧j.n=n)
def xC (c:Cfg) (e:Ev) (j:Job):Bool:=decide ((j.who=e.who∧j.n<e.n)∧(bF c j.who j.n).id=(bF c e.who e.n).id)
theorem kC.at {c:Cfg} (h:kC c) (k:Nat):(c.dG.getD k default).length<2^40:=by
 by_cases hk:k<c.dG.length
 ·exact h.prog _ (by simp[List.getD,hk])
 ·have:c.dG.getD k default=[]:=by simp[List.getD,hk];rfl
  rw[this];decide
end Go.AM
end
section
namespace Go.AM
def yL (c:Cfg) (s:TSt) (e:Ev):Int:=
 if ¬(hT c e.who e.n∧1≤e.kind∧e.kind≤3) then 1 else
 if e.kind=1 then (if ¬e.n=s.asked.getD e.who.toNat default then 2 else 0) else
 if e.kind=2 then (if aW (bV e.who e.n) s.wait<0 then 3 else if 0≤aW (xC c e) s.wait then 4 else 0) else
 if aW (bV e.who e.n) s.done<0 then 5 else if 0≤aW (xC c e) s.wait∨0≤aW (xC c e) s.done then 6 else 0
structure akW (c:Cfg) (s:TSt):Prop where
 words:s.words.length=64
 holds:s.holds.length=6
 asked:s.asked.length=3
 wJ:s.wait.length<2^20
 xW:s.done.length<2^20
 as7:s.told.length<2^20
 wait: ∀j∈s.wait,hT c j.who j.n
 done: ∀j∈s.done,hT c j.who j.n
 told: ∀j∈s.told,hT c j.who j.n
end Go.AM
end
section
namespace Go.AM
def nA (a b:Job):Bool:=decide (a.who<b.who∨(a.who=b.who∧a.n<b.n))
def gL (l:List Job) (j:Job):List Job:=l.take (l.findIdx (nA j))++j::l.drop (l.findIdx (nA j))
def iJ (l:List Job) (at_:Nat):List Job:=l.take at_++l.drop (at_+1)
theorem oM {α:Type} [Inhabited α] {l:List α} {k:Nat} (h:k<l.length):l.take (k+1)=l.take k++[l.getD k default]:=by
 rw[List.take_succ_eq_append_getElem h];simp[List.getD,h]
end Go.AM
end
section
namespace Go.AM
def eU8 (x:Int):List D1:=[.v (.int .u8 x)]
attribute [go_sem] eU8
def rdO (l:List Int) (p:Nat):bC:=⟨2,1,[[.isl (l.map eU8),cI p]]⟩
structure mI (l:List Int):Prop where
 len:l.length<2^40
 byte: ∀x∈l,0≤x∧x<256
theorem mI.at {l:List Int} (h:mI l) (k:Nat):0≤l.getD k default∧l.getD k default<256:=by
 by_cases hk:k<l.length
 ·exact h.byte _ (by simp[List.getD,hk])
 ·have:l.getD k default=0:=by simp[List.getD,hk]
  omega
theorem bM (l:List Int) (p:Nat):u6 (rdO l p):=by
 intro r hr x hx
 simp only[rdO,List.mem_singleton] at hr
 subst hr
 simp at hx
 rcases hx with rfl|rfl<;>rfl
theorem arC {a b:Int} (ha:0≤a∧a<9223372036854775808) (hb:0≤b∧b<9223372036854775808):0≤IntKind.i64.wrap ((BitVec.ofInt 64 a^^^BitVec.ofInt 64 b).toNat:Nat):=by
 have h:(BitVec.ofInt 64 a^^^BitVec.ofInt 64 b).toNat<2^63:=by
  rw[BitVec.toNat_xor,BitVec.toNat_ofInt,BitVec.toNat_ofInt]
  refine Nat.xor_lt_two_pow ?_ ?_<;>omega
 have h2:(BitVec.ofInt 64 a^^^BitVec.ofInt 64 b).toNat<9223372036854775808:=h
 rw[IntWalk.i64_in _ (by omega)]
 omega
end Go.AM
end
section
namespace Go.AM
def G7 (b:Bool):List Rng:=[⟨0,15,0,false⟩,⟨16,31,1,false⟩,⟨32,47,2,b⟩]
def amG (x:Int) (b:Bool):List Rng:=[⟨0,7,0,false⟩,⟨8,15,1,false⟩,⟨20,40,x,false⟩,⟨41,63,2,b⟩]
theorem QH (b:Bool) (k:Nat) (h:k≤3):D3 ((G7 b).take k):=by
 have:k=0∨k=1∨k=2∨k=3:=by omega
 rcases this with rfl|rfl|rfl|rfl<;>cases b<;>decide
theorem anI (x:Int) (b:Bool) (h:0≤x∧x≤2):D3 (amG x b):=by
 have:x=0∨x=1∨x=2:=by omega
 rcases this with rfl|rfl|rfl<;>cases b<;>decide
theorem TY {l:List Int} {lo up x:Int} (h:All l lo up) (h1:lo≤x) (h2:x≤up):All (l++[x]) lo up:=by
 intro y hy
 rcases List.mem_append.1 hy with hy|hy
 ·exact h y hy
 ·simp at hy;subst hy;exact⟨h1,h2⟩
end Go.AM
end
section
namespace Go.AM
theorem cY {α:Type} [Inhabited α] {l:List α} {k:Nat} (h:k<l.length):l.getD k default∈l:=by simp[List.getD,h]
def kO:Rsp:=⟨0,0,[]⟩
def yV (old new lanes:Int):Int:=(if lanes/2=1 then new/256 else old/256)*256+(if lanes%2=1 then new%256 else old%256)
theorem ahY {old new lanes:Int} (h1:0≤old∧old≤65535) (h2:0≤new∧new≤65535):0≤yV old new lanes∧yV old new lanes≤65535:=by
 unfold yV;split<;>split<;>omega
def IN (w all data lanes:List Int):Nat→List Int
 |0=>w
 |k+1=>(IN w all data lanes k).set (all.getD k default).toNat (yV ((IN w all data lanes k).getD (all.getD k default).toNat default) (data.getD k default) (lanes.getD k default))
theorem sQ {l:List Int} {lo up:Int} (h:All l lo up) {k:Nat} (hk:k<l.length):lo≤l.getD k default∧l.getD k default≤up:=h _ (by simp[List.getD,hk])
theorem QZ {l:List Int} {up:Int} (h:All l 0 up) (hu:0≤up) (k:Nat):0≤l.getD k default∧l.getD k default≤up:=by
 by_cases hk:k<l.length
 ·exact sQ h hk
 ·have:l.getD k default=0:=by simp[List.getD,hk]
  omega
theorem afX {l:List Int} {lo up x:Int} {i:Nat} (h:All l lo up) (h1:lo≤x∧x≤up):All (l.set i x) lo up:=by
 intro y hy
 rcases List.mem_or_eq_of_mem_set hy with h2|h2
 ·exact h y h2
 ·subst h2;exact h1
theorem SD {w all data lanes:List Int} (k:Nat):(IN w all data lanes k).length=w.length:=by
 induction k with
 |zero=>rfl
 |succ k ih=>simp only[IN,List.length_set,ih]
theorem XD {w all data lanes:List Int} (hw:All w 0 65535) (hd:All data 0 65535) (k:Nat):All (IN w all data lanes k) 0 65535:=by
 induction k with
 |zero=>exact hw
 |succ k ih=>exact afX ih (ahY (QZ ih (by decide) _) (QZ hd (by decide) _))
def oS (h all:List Int):List Int:=h.map fun x=>if x∈all then-1 else x
theorem amY {h all:List Int} (hh:All h (-1) 63):All (oS h all) (-1) 63:=by
 intro x hx
 obtain⟨y,hy,rfl⟩:=List.mem_map.1 hx
 have:=hh y hy
 split<;>omega
def doM (m:List Rng) (w h:List Int) (who:Int) (q:Req):(List Int×List Int)×Rsp:=
 if cS m (bE q.addr q.many q.wrap)<0 then ((w,h),⟨q.id,4,[]⟩) else
 if wrM q=true∧(m.getD (cS m (bE q.addr q.many q.wrap)).toNat default).only=true then ((w,h),⟨q.id,3,[]⟩) else
 if q.kind=1 then ((w,h),⟨q.id,1,(bE q.addr q.many q.wrap).map fun a=>w.getD a.toNat default⟩) else
 if q.kind=3 then ((w,h.set (who*2+q.id).toNat q.addr),⟨q.id,2,(bE q.addr q.many q.wrap).map fun a=>w.getD a.toNat default⟩) else
 if q.kind=4∧ ¬h.getD (who*2+q.id).toNat default=q.addr then ((w,h),⟨q.id,1,[]⟩) else
 ((IN w (bE q.addr q.many q.wrap) q.data q.lanes (bE q.addr q.many q.wrap).length,oS h (bE q.addr q.many q.wrap)),⟨q.id,if q.kind=4 then 2 else 1,[]⟩)
theorem QE {q:Req}:wrM q=true↔(q.kind=2∨q.kind=4):=by simp[wrM]
theorem aaY {m:List Rng} {w h:List Int} {who:Int} {q:Req} (h1:cS m (bE q.addr q.many q.wrap)<0):doM m w h who q=((w,h),⟨q.id,4,[]⟩):=by
 unfold doM;rw[if_pos h1]
theorem aaO {m:List Rng} {w h:List Int} {who:Int} {q:Req} (h1: ¬cS m (bE q.addr q.many q.wrap)<0) (h2:wrM q=true) (h3:(m.getD (cS m (bE q.addr q.many q.wrap)).toNat default).only=true):doM m w h who q=((w,h),⟨q.id,3,[]⟩):=by
 unfold doM;rw[if_neg h1,if_pos ⟨h2,h3⟩]
theorem abW {m:List Rng} {w h:List Int} {who:Int} {q:Req} (h1: ¬cS m (bE q.addr q.many q.wrap)<0) (h2:q.kind=1):doM m w h who q=((w,h),⟨q.id,1,(bE q.addr q.many q.wrap).map fun a=>w.getD a.toNat default⟩):=by
 unfold doM;rw[if_neg h1,if_neg (fun hc=>by have:=QE.1 hc.1;omega),if_pos h2]
theorem ZZ {m:List Rng} {w h:List Int} {who:Int} {q:Req} (h1: ¬cS m (bE q.addr q.many q.wrap)<0) (h2:q.kind=3):doM m w h who q=((w,h.set (who*2+q.id).toNat q.addr),⟨q.id,2,(bE q.addr q.many q.wrap).map fun a=>w.getD a.toNat default⟩):=by
 unfold doM;rw[if_neg h1,if_neg (fun hc=>by have:=QE.1 hc.1;omega),if_neg (by omega),if_pos h2]
theorem akN {m:List Rng} {w h:List Int} {who:Int} {q:Req} (h1: ¬cS m (bE q.addr q.many q.wrap)<0) (h2: ¬(m.getD (cS m (bE q.addr q.many q.wrap)).toNat default).only=true) (h3:q.kind=4) (h4: ¬h.getD (who*2+q.id).toNat default=q.addr):doM m w h who q=((w,h),⟨q.id,1,[]⟩):=by
 unfold doM;rw[if_neg h1,if_neg (fun hc=>h2 hc.2),if_neg (by omega),if_neg (by omega),if_pos ⟨h3,h4⟩]
theorem af5 {m:List Rng} {w h:List Int} {who:Int} {q:Req} (h1: ¬cS m (bE q.addr q.many q.wrap)<0) (h2: ¬(m.getD (cS m (bE q.addr q.many q.wrap)).toNat default).only=true) (h3:q.kind=4) (h4:h.getD (who*2+q.id).toNat default=q.addr):doM m w h who q=((IN w (bE q.addr q.many q.wrap) q.data q.lanes (bE q.addr q.many q.wrap).length,oS h (bE q.addr q.many q.wrap)),⟨q.id,2,[]⟩):=by
 unfold doM;rw[if_neg h1,if_neg (fun hc=>h2 hc.2),if_neg (by omega),if_neg (by omega),if_neg (fun hc=>hc.2 h4),if_pos h3]
theorem afM {m:List Rng} {w h:List Int} {who:Int} {q:Req} (h1: ¬cS m (bE q.addr q.many q.wrap)<0) (h2: ¬(m.getD (cS m (bE q.addr q.many q.wrap)).toNat default).only=true) (h3:q.kind=2):doM m w h who q=((IN w (bE q.addr q.many q.wrap) q.data q.lanes (bE q.addr q.many q.wrap).length,oS h (bE q.addr q.many q.wrap)),⟨q.id,1,[]⟩):=by
 unfold doM;rw[if_neg h1,if_neg (fun hc=>h2 hc.2),if_neg (by omega),if_neg (by omega),if_neg (fun hc=>by omega),if_neg (by omega)]
structure ON (w h:List Int):Prop where
 wl:w.length=64
 wr:All w 0 65535
 hl:h.length=6
 hr:All h (-1) 63
theorem YJ {m:List Rng} {w h:List Int} {who:Int} {q:Req} (hf:ON w h) (hq:gH q):ON (doM m w h who q).1.1 (doM m w h who q).1.2:=by
 obtain⟨h1,h2,h3,h4⟩:=hf
 obtain⟨_,_,ha,_,_,hd,_,_⟩:=hq
 unfold doM
 split
 ·exact⟨h1,h2,h3,h4⟩
 split
 ·exact⟨h1,h2,h3,h4⟩
 split
 ·exact⟨h1,h2,h3,h4⟩
 split
 ·exact⟨h1,h2,by simpa using h3,afX h4 (by have:=ha.2.1;omega)⟩
 split
 ·exact⟨h1,h2,h3,h4⟩
 ·exact⟨by rw[SD];exact h1,XD h2 hd _,by simpa [oS] using h3,amY h4⟩
def qN (r:Rsp):Prop:=(0≤r.id∧r.id≤1)∧(1≤r.code∧r.code≤4)∧(r.data.length:Int)≤4∧All r.data 0 65535
instance {r:Rsp}:Decidable (qN r):=by unfold qN;infer_instance
theorem af1 {m:List Rng} {w h:List Int} {who:Int} {q:Req} (hw:All w 0 65535) (hq:gH q):qN (doM m w h who q).2∧(doM m w h who q).2.id=q.id:=by
 obtain⟨hid,_⟩:=hq
 have hnil:All ([]:List Int) 0 65535:=fun x hx=>by simp at hx
 have hb4:=HS (addr:=q.addr) (many:=q.many) (wrap:=q.wrap)
 have hget:All ((bE q.addr q.many q.wrap).map fun a=>w.getD a.toNat default) 0 65535:=by
  intro x hx
  obtain⟨a,_,rfl⟩:=List.mem_map.1 hx
  exact QZ hw (by decide) _
 unfold doM
 split
 ·exact⟨⟨hid,by dsimp only;omega,by simp,hnil⟩,rfl⟩
 split
 ·exact⟨⟨hid,by dsimp only;omega,by simp,hnil⟩,rfl⟩
 split
 ·exact⟨⟨hid,by dsimp only;omega,by simp;omega,hget⟩,rfl⟩
 split
 ·exact⟨⟨hid,by dsimp only;omega,by simp;omega,hget⟩,rfl⟩
 split
 ·exact⟨⟨hid,by dsimp only;omega,by simp,hnil⟩,rfl⟩
 ·refine⟨⟨hid,?_,by simp,hnil⟩,rfl⟩
  dsimp only
  split<;>omega
def bQ (c:Cfg) (s:TSt) (e:Ev):TSt:=
 if e.kind=1 then {s with asked:=s.asked.set e.who.toNat (e.n+1),wait:=gL s.wait ⟨e.who,e.n,kO⟩} else
 if e.kind=2 then {s with words:=(doM c.map s.words s.holds e.who (bF c e.who e.n)).1.1,holds:=(doM c.map s.words s.holds e.who (bF c e.who e.n)).1.2,wait:=iJ s.wait (aW (bV e.who e.n) s.wait).toNat,done:=gL s.done ⟨e.who,e.n,(doM c.map s.words s.holds e.who (bF c e.who e.n)).2⟩} else
 {s with told:=s.told++[s.done.getD (aW (bV e.who e.n) s.done).toNat default],done:=iJ s.done (aW (bV e.who e.n) s.done).toNat}
def key (j:Job):Int×Int:=(j.who,j.n)
def keys (s:TSt):List (Int×Int):=(s.wait++s.done++s.told).map key
abbrev gQ (l:List Job):Prop:=l.Pairwise fun a b=>nA a b=true
def st0:TSt:=⟨List.replicate 64 0,List.replicate 6 (-1),List.replicate 3 0,[],[],[]⟩
structure rL (c:Cfg) (s:TSt):Prop where
 atm:ON s.words s.holds
 mF:s.asked.length=3
 BQ: ∀k,k<3→0≤s.asked.getD k default∧s.asked.getD k default≤(c.dG.getD k default).length
 K8:gQ s.wait
 KZ:gQ s.done
 ZF: ∀p∈keys s,(0≤p.1∧p.1≤2)∧0≤p.2∧p.2<s.asked.getD p.1.toNat default
 nodup:(keys s).Nodup
 count:(s.wait.length:Int)+s.done.length+s.told.length=s.asked.getD 0 default+s.asked.getD 1 default+s.asked.getD 2 default
 TM: ∀j∈s.wait,j.rsp=kO
 TK: ∀j∈s.done++s.told,qN j.rsp∧j.rsp.id=(bF c j.who j.n).id
theorem nN {a b:Job}:nA a b=true↔a.who<b.who∨(a.who=b.who∧a.n<b.n):=by simp[nA]
theorem kT (l:List Job) (j:Job):(gL l j).Perm (j::l):=by
 unfold gL
 refine List.perm_middle.trans ?_
 rw[List.take_append_drop]
theorem mD {l:List Job} {k:Nat} (h:k<l.length):l.Perm (l.getD k default::iJ l k):=by
 have e:l=l.take k++l.getD k default::l.drop (k+1):=by
  have:l.getD k default=l[k]:=by simp[List.getD,h]
  rw[this,←List.drop_eq_getElem_cons h,List.take_append_drop]
 conv=>lhs;rw[e]
 exact List.perm_middle
theorem LS {l:List Job} {k:Nat}:(iJ l k).Sublist l:=by
 unfold iJ
 have h:=(List.Sublist.refl (l.take k)).append (List.drop_sublist_drop_left l (Nat.le_succ k))
 rwa [List.take_append_drop] at h
theorem OJ {l:List Job} {k:Nat} (h:gQ l):gQ (iJ l k):=h.sublist LS
theorem GZ {l:List Job} {j:Job} (h:gQ l) (hn:key j∉l.map key):gQ (gL l j):=by
 unfold gL
 have hs:=h
 rw[gQ,←List.take_append_drop (l.findIdx (nA j)) l,List.pairwise_append] at hs
 obtain⟨h1,h2,h3⟩:=hs
 have hlt: ∀x∈l.take (l.findIdx (nA j)),nA x j=true:=by
  intro x hx
  obtain⟨i,hi,rfl⟩:=List.mem_iff_getElem.1 hx
  simp only[List.length_take] at hi
  have hi2:i<l.findIdx (nA j):=by omega
  have hb:=List.not_of_lt_findIdx hi2
  have hne:key l[i]≠key j:=fun he=>hn (he▸List.mem_map_of_mem (List.getElem_mem _))
  rw[List.getElem_take]
  rw[nN]
  simp only[key,ne_eq,Prod.mk.injEq] at hne
  simp only[nA,decide_eq_false_iff_not] at hb
  omega
 have hgt: ∀x∈l.drop (l.findIdx (nA j)),nA j x=true:=by
  intro x hx
  cases hd:l.drop (l.findIdx (nA j)) with
  |nil=>rw[hd] at hx;simp at hx
  |cons y ys=>
   rw[hd] at hx h2
   have hlen:l.findIdx (nA j)<l.length:=by
    have:=congrArg List.length hd
    simp at this;omega
   have hy:y=l[l.findIdx (nA j)]:=by
    rw[List.drop_eq_getElem_cons hlen] at hd
    exact(List.cons.inj hd).1.symm
   have hby:nA j y=true:=by rw[hy];exact List.findIdx_getElem (w:=hlen)
   rcases List.mem_cons.1 hx with rfl|hx
   ·exact hby
   ·have:=(List.pairwise_cons.1 h2).1 x hx
    rw[nN] at this hby ⊢
    omega
 refine List.pairwise_append.2 ⟨h1,List.pairwise_cons.2 ⟨hgt,h2⟩,fun a ha b hb=> ?_⟩
 rcases List.mem_cons.1 hb with rfl|hb
 ·exact hlt a ha
 ·exact h3 a ha b hb
theorem cU {l:List Job} {who n:Int} (h: ¬aW (bV who n) l<0):(aW (bV who n) l).toNat<l.length∧key (l.getD (aW (bV who n) l).toNat default)=(who,n):=by
 unfold aW at h ⊢
 split
 ·rename_i k hk
  obtain⟨h1,h2,_⟩:=List.findIdx?_eq_some_iff_getElem.1 hk
  refine⟨by simpa using h1,?_⟩
  simp only[bV,decide_eq_true_eq] at h2
  simp only[Int.toNat_natCast,key,List.getD,h1,List.getElem?_eq_getElem,Option.getD_some,h2.1,h2.2]
 ·rename_i hk;rw[hk] at h;simp at h
theorem oG {c:Cfg} {s:TSt} {e:Ev} (h:yL c s e=0):hT c e.who e.n∧(e.kind=1∧e.n=s.asked.getD e.who.toNat default∨e.kind=2∧ ¬aW (bV e.who e.n) s.wait<0∨e.kind=3∧ ¬aW (bV e.who e.n) s.done<0):=by
 unfold yL at h
 split at h
 ·exact absurd h (by decide)
 rename_i h1
 have h1:=Classical.not_not.1 h1
 refine⟨h1.1,?_⟩
 split at h
 ·rename_i hk
  split at h
  ·exact absurd h (by decide)
  ·rename_i h2;exact .inl ⟨hk,Classical.not_not.1 h2⟩
 split at h
 ·rename_i hk
  split at h
  ·exact absurd h (by decide)
  ·rename_i h2;exact .inr (.inl ⟨hk,h2⟩)
 split at h
 ·exact absurd h (by decide)
 ·rename_i h2;exact .inr (.inr ⟨by omega,h2⟩)
theorem alQ {c:Cfg} {s:TSt} {e:Ev} (hk:e.kind=1):(keys (bQ c s e)).Perm ((e.who,e.n)::keys s):=by
 simp only[keys,bQ,hk,if_true,List.map_append]
 have:=(kT s.wait ⟨e.who,e.n,kO⟩).map key
 exact(this.append_right _).append_right _
theorem aoZ {c:Cfg} {s:TSt} {e:Ev} (hk:e.kind=2) (hi: ¬aW (bV e.who e.n) s.wait<0):(keys (bQ c s e)).Perm (keys s):=by
 obtain⟨h1,h2⟩:=cU hi
 simp only[keys,bQ,hk,if_true,if_false,List.map_append,Int.reduceEq]
 refine List.Perm.append_right _ ?_
 refine(((kT s.done _).map key).append_left _).trans ?_
 simp only[List.map_cons]
 refine List.perm_middle.trans ?_
 have h3:=(mD h1).map key
 simp only[List.map_cons,h2] at h3
 exact(h3.symm.append_right _)
theorem aiV {c:Cfg} {s:TSt} {e:Ev} (hk:e.kind=3) (hi: ¬aW (bV e.who e.n) s.done<0):(keys (bQ c s e)).Perm (keys s):=by
 obtain⟨h1,h2⟩:=cU hi
 simp only[keys,bQ,hk,if_false,List.map_append,Int.reduceEq,List.append_assoc]
 refine List.Perm.append_left _ ?_
 have h3:=(mD h1).map key
 simp only[List.map_cons] at h3
 have h4:=h3.append_right (s.told.map key)
 refine List.Perm.trans ?_ h4.symm
 simp only[List.map_cons,List.map_nil,List.cons_append]
 rw[←List.append_assoc]
 exact(List.perm_append_singleton _ _)
theorem asU {l:List Int} {k:Nat} {x:Int} (hl:l.length=3) (hk:k<3) (hx:x=l.getD k default+1):(l.set k x).getD 0 default+(l.set k x).getD 1 default+(l.set k x).getD 2 default=l.getD 0 default+l.getD 1 default+l.getD 2 default+1:=by
 match l,hl with
 | [a,b,c],_=>
   subst hx
   have:k=0∨k=1∨k=2:=by omega
   rcases this with rfl|rfl|rfl<;>simp[List.getD]<;>omega
theorem HT {l:List Int} {k i:Nat} {x:Int} (hk:k<l.length):(l.set k x).getD i default=if i=k then x else l.getD i default:=by
 simp only[List.getD,List.getElem?_set]
 by_cases h:k=i
 ·subst h;simp[hk]
 ·simp[h,Ne.symm h,eq_comm]
theorem LD {l:List Job} {k:Nat} (h:k<l.length):(iJ l k).length+1=l.length:=by
 have:=(mD h).length_eq
 simpa using this.symm
theorem GM {l:List Job} {j:Job}:(gL l j).length=l.length+1:=by simpa using (kT l j).length_eq
theorem SI {s:TSt} (h:(keys s).Nodup): ∀p∈s.wait.map key,p∉s.done.map key:=by
 simp only[keys,List.map_append] at h
 rw[List.append_assoc,List.nodup_append] at h
 intro p hp hq
 exact h.2.2 p hp p (List.mem_append_left _ hq) rfl
theorem L7 {c:Cfg} {who n:Int} (hb:aY c) (h:hT c who n):gH (bF c who n):=by
 obtain⟨_,_,_,h4,h5⟩:=hb
 obtain⟨h1,h2,h3⟩:=h
 rw[cL] at h5
 have hk:who.toNat<c.dG.length:=by omega
 have h6:qA (c.dG.getD who.toNat default):=Classical.byContradiction fun hc=>h5 ⟨c.dG.getD who.toNat default,by simp[List.getD,hk],decide_eq_true hc⟩
 have h7:=h6.2
 rw[cL] at h7
 have hn:n.toNat<(c.dG.getD who.toNat default).length:=by omega
 exact Classical.byContradiction fun hc=>h7 ⟨(c.dG.getD who.toNat default).getD n.toNat default,cY hn,decide_eq_true hc⟩
theorem yI {c:Cfg} {s:TSt} {e:Ev} (hb:aY c) (hs:rL c s) (h:yL c s e=0):rL c (bQ c s e):=by
 obtain⟨hask,hcase⟩:=oG h
 obtain⟨hw,hn⟩:=hask
 have hq:gH (bF c e.who e.n):=L7 hb ⟨hw,hn⟩
 have hwl:e.who.toNat<3:=by omega
 have hwl2:e.who.toNat<s.asked.length:=by rw[hs.mF];exact hwl
 rcases hcase with⟨hk,hi⟩|⟨hk,hi⟩|⟨hk,hi⟩
 ·have hp:=alQ (c:=c) (s:=s) hk
  have hnot:(e.who,e.n)∉keys s:=fun hm=>by have:=(hs.ZF _ hm).2.2;dsimp only at this;omega
  have e1:bQ c s e= {s with asked:=s.asked.set e.who.toNat (e.n+1),wait:=gL s.wait ⟨e.who,e.n,kO⟩}:=by simp only[bQ,hk,if_true]
  refine⟨by rw[e1];exact hs.atm,by rw[e1];simpa using hs.mF,fun k h3=> ?_,?_,by rw[e1];exact hs.KZ,fun p hpm=> ?_,hp.nodup_iff.2 (List.nodup_cons.2 ⟨hnot,hs.nodup⟩),?_,?_,?_⟩
  ·have:=hs.BQ k h3
   rw[e1];dsimp only
   rw[HT hwl2]
   split
   ·rename_i hk2;subst hk2;omega
   ·exact this
  ·rw[e1]
   refine GZ hs.K8 fun hm=>hnot ?_
   simp only[keys,List.map_append]
   exact List.mem_append_left _ (List.mem_append_left _ hm)
  ·rcases List.mem_cons.1 (hp.mem_iff.1 hpm) with rfl|hm
   ·rw[e1];dsimp only
    rw[HT hwl2,if_pos rfl];omega
   ·have:=hs.ZF p hm
    rw[e1];dsimp only
    rw[HT hwl2]
    split
    ·rename_i hk2;rw[hk2] at this;omega
    ·exact this
  ·have:=hs.count
   rw[e1];dsimp only
   rw[GM,asU hs.mF hwl (by omega)];omega
  ·rw[e1];intro j hj
   rcases List.mem_cons.1 ((kT _ _).mem_iff.1 hj) with rfl|hj
   ·rfl
   ·exact hs.TM j hj
  ·rw[e1];exact hs.TK
 ·have hp:=aoZ (c:=c) hk hi
  obtain⟨h1,h2⟩:=cU hi
  have hp2: ∀p,p∈keys (bQ c s e)↔p∈keys s:=fun p=>hp.mem_iff
  have hlen:=LD h1
  have hnd:(e.who,e.n)∉s.done.map key:=SI hs.nodup _ (List.mem_map.2 ⟨_,cY h1,h2⟩)
  have hat:=YJ (m:=c.map) (who:=e.who) hs.atm hq
  have e1:bQ c s e= {s with words:=(doM c.map s.words s.holds e.who (bF c e.who e.n)).1.1,holds:=(doM c.map s.words s.holds e.who (bF c e.who e.n)).1.2,wait:=iJ s.wait (aW (bV e.who e.n) s.wait).toNat,done:=gL s.done ⟨e.who,e.n,(doM c.map s.words s.holds e.who (bF c e.who e.n)).2⟩}:=by simp[bQ,hk]
  have hnod:=hp.nodup_iff.2 hs.nodup
  rw[e1] at hp2 hnod ⊢
  exact⟨hat,hs.mF,hs.BQ,OJ hs.K8,GZ hs.KZ hnd,fun p hpm=>hs.ZF p ((hp2 p).1 hpm),hnod,by have:=hs.count;have:=GM (l:=s.done) (j:=⟨e.who,e.n,(doM c.map s.words s.holds e.who (bF c e.who e.n)).2⟩);dsimp only;omega,fun j hj=>hs.TM j (LS.mem hj),fun j hj=>by
   rcases List.mem_append.1 hj with hj|hj
   ·rcases List.mem_cons.1 ((kT _ _).mem_iff.1 hj) with rfl|hj
    ·exact af1 hs.atm.wr hq
    ·exact hs.TK j (List.mem_append_left _ hj)
   ·exact hs.TK j (List.mem_append_right _ hj)⟩
 ·have hp:=aiV (c:=c) hk hi
  obtain⟨h1,h2⟩:=cU hi
  have hp2: ∀p,p∈keys (bQ c s e)↔p∈keys s:=fun p=>hp.mem_iff
  have hlen:=LD h1
  have e1:bQ c s e= {s with told:=s.told++[s.done.getD (aW (bV e.who e.n) s.done).toNat default],done:=iJ s.done (aW (bV e.who e.n) s.done).toNat}:=by simp[bQ,hk]
  have hnod:=hp.nodup_iff.2 hs.nodup
  rw[e1] at hp2 hnod ⊢
  exact⟨hs.atm,hs.mF,hs.BQ,hs.K8,OJ hs.KZ,fun p hpm=>hs.ZF p ((hp2 p).1 hpm),hnod,by have:=hs.count;simp only[List.length_append,List.length_cons,List.length_nil];omega,hs.TM,fun j hj=>by
   rcases List.mem_append.1 hj with hj|hj
   ·exact hs.TK j (List.mem_append_left _ (LS.mem hj))
   ·rcases List.mem_append.1 hj with hj|hj
    ·exact hs.TK j (List.mem_append_right _ hj)
    ·simp only[List.mem_singleton] at hj;subst hj;exact hs.TK _ (List.mem_append_left _ (cY h1))⟩
theorem i7 {c:Cfg} (hb:aY c):c.dG.length=3∧ ∀k,(c.dG.getD k default).length≤12:=by
 obtain⟨_,_,_,h4,h5⟩:=hb
 refine⟨by omega,fun k=> ?_⟩
 rw[cL] at h5
 by_cases hk:k<c.dG.length
 ·have h6:qA (c.dG.getD k default):=Classical.byContradiction fun hc=>h5 ⟨c.dG.getD k default,by simp[List.getD,hk],decide_eq_true hc⟩
  have:=h6.1
  omega
 ·have:c.dG.getD k default=[]:=by simp[List.getD,hk];rfl
  rw[this];simp
theorem rL.lens {c:Cfg} {s:TSt} (hb:aY c) (hs:rL c s):s.wait.length+s.done.length+s.told.length≤36:=by
 have h1:=(i7 hb).2
 have h2:=hs.BQ 0 (by decide)
 have h3:=hs.BQ 1 (by decide)
 have h4:=hs.BQ 2 (by decide)
 have h5:=hs.count
 have:=h1 0;have:=h1 1;have:=h1 2
 omega
theorem rL.mem {c:Cfg} {s:TSt} (hs:rL c s) {j:Job} (hj:j∈s.wait++s.done++s.told):hT c j.who j.n:=by
 have h:=hs.ZF (key j) (List.mem_map.2 ⟨j,hj,rfl⟩)
 simp only[key] at h
 have:=hs.BQ j.who.toNat (by omega)
 exact⟨h.1,by omega⟩
theorem KG (c:Cfg):rL c st0:=by
 refine⟨⟨by decide,by decide,by decide,by decide⟩,by decide,fun k hk=> ?_,List.Pairwise.nil,List.Pairwise.nil,fun p hp=> ?_,by decide,by decide,fun j hj=> ?_,fun j hj=> ?_⟩
 ·have:k=0∨k=1∨k=2:=by omega
  have h0:st0.asked.getD k default=0:=by rcases this with rfl|rfl|rfl<;>rfl
  rw[h0];omega
 ·cases hp
 ·cases hj
 ·cases hj
theorem rL.asK {c:Cfg} {s:TSt} (hs:rL c s): ∀j∈s.wait++s.done++s.told,j.rsp.data.length<2^20:=by
 intro j hj
 rw[List.append_assoc] at hj
 rcases List.mem_append.1 hj with hj|hj
 ·rw[hs.TM j hj];decide
 ·have:=(hs.TK j hj).1.2.2.1;omega
def runM (c:Cfg) (s:TSt) (l:List Ev):TSt:=l.foldl (bQ c) s
def lJ (c:Cfg) (s:TSt) (l:List Ev):Prop:=∀k,k<l.length→yL c (runM c s (l.take k)) (l.getD k default)=0
theorem aiY {c:Cfg} {s:TSt} {l:List Ev} {e:Ev}:runM c s (l++[e])=bQ c (runM c s l) e:=by simp[runM]
theorem mA {c:Cfg} {s:TSt}:lJ c s []:=fun k hk=>by simp at hk
theorem Q5 {l:List Ev} {k:Nat} (h:k<l.length):l.take (k+1)=l.take k++[l.getD k default]:=by
 rw[List.take_succ_eq_append_getElem h];simp[List.getD,h]
theorem uR {c:Cfg} {s:TSt} {l:List Ev} {k:Nat} (h:k<l.length):runM c s (l.take (k+1))=bQ c (runM c s (l.take k)) (l.getD k default):=by
 rw[Q5 h,aiY]
theorem CZ {c:Cfg} {s:TSt} {l:List Ev} (hb:aY c) (hs:rL c s) (h:lJ c s l): ∀k,k≤l.length→rL c (runM c s (l.take k)):=by
 intro k
 induction k with
 |zero=>intro _;simpa [runM] using hs
 |succ k ih=>
  intro hk
  rw[uR (by omega)]
  exact yI hb (ih (by omega)) (h k (by omega))
theorem ajA {c:Cfg} {s:TSt} {l:List Ev} (hb:aY c) (hs:rL c s) (h:lJ c s l):rL c (runM c s l):=by
 have:=CZ hb hs h l.length (Nat.le_refl _)
 rwa [List.take_length] at this
theorem rL.fit {c:Cfg} {s:TSt} (hb:aY c) (hs:rL c s):akW c s:=by
 have:=hs.lens hb
 exact⟨hs.atm.wl,hs.atm.hl,hs.mF,by omega,by omega,by omega,fun j hj=>hs.mem (by simp[hj]),fun j hj=>hs.mem (by simp[hj]),fun j hj=>hs.mem (by simp[hj])⟩
theorem adY {l:List Int} {k:Nat} (h:k<l.length):l.take (k+1)=l.take k++[l.getD k default]:=oM h
def xU (h all:List Int) (k:Nat):List Int:=oS (h.take k) all++h.drop k
theorem WI {h all:List Int} {k:Nat} (hk:k≤h.length):(xU h all k).length=h.length:=by simp[xU,oS];omega
theorem ZD {h all:List Int} {k:Nat} (hk:k<h.length):(xU h all k).getD k default=h.getD k default:=by
 have e:(oS (h.take k) all).length=k:=by simp[oS];omega
 simp only[xU,List.getD,List.getElem?_append,e,Nat.lt_irrefl,if_false,Nat.sub_self,List.getElem?_drop,Nat.add_zero]
theorem drop_cons {l:List Int} {k:Nat} (h:k<l.length):l.drop k=l.getD k default::l.drop (k+1):=by
 rw[List.drop_eq_getElem_cons h];simp[List.getD,h]
theorem ac1 {l all:List Int} {x:Int}:oS (l++[x]) all=oS l all++[if x∈all then-1 else x]:=by simp[oS]
theorem W0 {h all:List Int} {k:Nat} {x:Int} (hk:k<h.length) (hx:x=if h.getD k default∈all then-1 else h.getD k default):(xU h all k).set k x=xU h all (k+1):=by
 have e:(oS (h.take k) all).length=k:=by simp[oS];omega
 unfold xU
 rw[List.set_append,e,if_neg (by omega),Nat.sub_self,adY hk,drop_cons hk,ac1,List.set_cons_zero,hx,List.append_assoc]
 rfl
theorem TH {h all:List Int} {k:Nat} (hk:k<h.length):(xU h all k).set k (h.getD k default)=xU h all k:=by
 have e:(oS (h.take k) all).length=k:=by simp[oS];omega
 unfold xU
 rw[List.set_append,e,if_neg (by omega),Nat.sub_self,drop_cons hk,List.set_cons_zero]
theorem Q2 {h all:List Int}:xU h all 0=h:=by simp[xU,oS]
theorem WW {h all:List Int}:xU h all h.length=oS h all:=by simp[xU]
theorem WR {addr many:Int} {wrap:Bool} (h:qU addr many wrap):0<(bE addr many wrap).length:=by
 rw[zE h];obtain⟨h1,_⟩:=h;omega
end Go.AM
end
section
namespace Go.AM
theorem SU {a m k:Nat} (h:a<2^(m+k)):a&&& ((2^m-1)<<<k)=a/2^k*2^k:=by
 apply Nat.eq_of_testBit_eq
 intro i
 have e2:a/2^k*2^k=(a>>>k)<<<k:=by rw[Nat.shiftRight_eq_div_pow,Nat.shiftLeft_eq]
 rw[e2,Nat.testBit_and,Nat.testBit_shiftLeft,Nat.testBit_shiftLeft,Nat.testBit_two_pow_sub_one,Nat.testBit_shiftRight]
 by_cases h8:k≤i
 ·have e3:k+(i-k)=i:=by omega
  by_cases h16:i<m+k
  ·simp[h8,e3];omega
  ·have:a.testBit i=false:=Nat.testBit_lt_two_pow (Nat.lt_of_lt_of_le h (Nat.pow_le_pow_right (Nat.succ_pos 1) (Nat.le_of_not_lt h16)))
   simp[e3,this]
 ·simp[h8]
theorem anA {a:Nat}:a&&& 255=a%256:=Nat.and_two_pow_sub_one_eq_mod a 8
theorem akH {a b:Nat} (h:b<256):a*256|||b=a*256+b:=by
 have:=Nat.two_pow_add_eq_or_of_lt (i:=8) (b:=b) h a
 rw[show (2:Nat)^8*a=a*256 from Nat.mul_comm _ _] at this
 exact this.symm
def acL (old new m:Int):Int:=IntKind.i64.wrap ↑(BitVec.ofInt 64 (IntKind.i64.wrap ↑(BitVec.ofInt 64 old&&& ~~~BitVec.ofInt 64 m).toNat)|||BitVec.ofInt 64 (IntKind.i64.wrap ↑(BitVec.ofInt 64 new&&& BitVec.ofInt 64 m).toNat)).toNat
theorem WJ {a:Nat} (h:a<65536):(BitVec.ofNat 64 a).toNat=a:=by
 rw[BitVec.toNat_ofNat];omega
theorem L6 {a b m x y:Nat} (ha:a<65536) (hb:b<65536) (hx:a&&& (18446744073709551615-m)=x) (hy:b&&& m=y) (hm:m<65536) (hxl:x<65536) (hyl:y<65536) (hz:x|||y<65536):acL a b m=((x|||y:Nat):Int):=by
 have h1:(BitVec.ofInt 64 (a:Int)&&& ~~~BitVec.ofInt 64 (m:Int)).toNat=x:=by
  rw[BitVec.ofInt_natCast,BitVec.ofInt_natCast,BitVec.toNat_and,BitVec.toNat_not,WJ ha,WJ hm]
  exact hx
 have h2:(BitVec.ofInt 64 (b:Int)&&& BitVec.ofInt 64 (m:Int)).toNat=y:=by
  rw[BitVec.ofInt_natCast,BitVec.ofInt_natCast,BitVec.toNat_and,WJ hb,WJ hm]
  exact hy
 unfold acL
 rw[h1,h2,IntWalk.i64_in (x:Int) (by omega),IntWalk.i64_in (y:Int) (by omega),BitVec.ofInt_natCast,BitVec.ofInt_natCast,BitVec.toNat_or,WJ hxl,WJ hyl,IntWalk.i64_in _ (by omega)]
theorem QF {old new lanes m:Int} (h1:0≤old∧old≤65535) (h2:0≤new∧new≤65535) (h:lanes=0∧m=0∨lanes=1∧m=255∨lanes=2∧m=65280∨lanes=3∧m=65535):acL old new m=yV old new lanes:=by
 obtain⟨a,rfl⟩: ∃a:Nat,old=a:=⟨old.toNat,by omega⟩
 obtain⟨b,rfl⟩: ∃b:Nat,new=b:=⟨new.toNat,by omega⟩
 have ha:a<65536:=by omega
 have hb:b<65536:=by omega
 have t1:=SU (a:=a) (m:=56) (k:=8) (by omega)
 have t2:=SU (a:=b) (m:=8) (k:=8) (by omega)
 have t3:=SU (a:=a) (m:=48) (k:=16) (by omega)
 rcases h with⟨rfl,rfl⟩|⟨rfl,rfl⟩|⟨rfl,rfl⟩|⟨rfl,rfl⟩
 ·have:=L6 (a:=a) (b:=b) (m:=0) (x:=a) (y:=0) ha hb (by rw[show 18446744073709551615-0=2^64-1 from rfl,Nat.and_two_pow_sub_one_eq_mod];omega) (Nat.and_zero b) (by omega) ha (by omega) (by simpa using ha)
  rw[show ((0:Nat):Int)=0 from rfl] at this
  rw[this,Nat.or_zero]
  unfold yV;simp;omega
 ·have hx:a&&& (18446744073709551615-255)=a/256*256:=t1
  have hlt:a/256*256|||b%256=a/256*256+b%256:=akH (by omega)
  have:=L6 (a:=a) (b:=b) (m:=255) ha hb hx anA (by omega) (by omega) (by omega) (by omega)
  rw[show ((255:Nat):Int)=255 from rfl] at this
  rw[this,hlt]
  unfold yV;simp
 ·have hx:a&&& (18446744073709551615-65280)=a%256:=by
   have e:18446744073709551615-65280=((2^48-1)<<<16)|||255:=by decide
   rw[e,Nat.and_or_distrib_left,t3,anA]
   have:a/2^16=0:=by omega
   rw[this];simp
  have hy:b&&& 65280=b/256*256:=t2
  have hlt:a%256|||b/256*256=b/256*256+a%256:=by rw[Nat.or_comm];exact akH (by omega)
  have:=L6 (a:=a) (b:=b) (m:=65280) ha hb hx hy (by omega) (by omega) (by omega) (by omega)
  rw[show ((65280:Nat):Int)=65280 from rfl] at this
  rw[this,hlt]
  unfold yV;simp
 ·have hx:a&&& (18446744073709551615-65535)=0:=by
   have e:18446744073709551615-65535=((2^48-1)<<<16):=by decide
   rw[e,t3];omega
  have hy:b&&& 65535=b:=by rw[show (65535:Nat)=2^16-1 from rfl,Nat.and_two_pow_sub_one_eq_mod];omega
  have:=L6 (a:=a) (b:=b) (m:=65535) ha hb hx hy (by omega) (by omega) (by omega) (by simpa using hb)
  rw[show ((65535:Nat):Int)=65535 from rfl] at this
  rw[this,Nat.zero_or]
  unfold yV;simp;omega
def aaV (x:Int):Int:=IntKind.i64.wrap ↑(BitVec.ofInt 64 (IntKind.i64.wrap (IntKind.i64.wrap ↑(BitVec.ofInt 64 x&&& BitVec.ofInt 64 1).toNat*255))|||BitVec.ofInt 64 (IntKind.i64.wrap (Int.fdiv x (2^min 1 64)*65280))).toNat
theorem arF:aaV 0=0:=by decide
theorem arG:aaV 1=255:=by decide
theorem arI:aaV 2=65280:=by decide
theorem aq1:aaV 3=65535:=by decide
end Go.AM
end
end
section
namespace Go.Proofs.YtegiblhkjfiooaaGreat
open Go Go.AM
set_option maxRecDepth 100000
section
variable {H : aA} {nx : Nat} {K : D → aA → Nat → Prop}
theorem ai4 (n lo up:Int):aB Tryz.prog cE [dI n,dI lo,dI up] .nil 0 fun rr _ _=>rr.plain=true∧rr=dB (decide (lo≤n∧n≤up)):=by
 refine ad0 rfl fun Q hQ=> ?_
 unfold KH
 repeat' (first| (with_reducible first| (refine hK _ _ _ ?_;clear hK K)|refine Z1 ?_)| (with_reducible first|refine Y2 fun K hK=> ?_|refine Y6 (fun h=> ?_) fun h=> ?_)<;>(simp only[go_sem])| ((with_reducible refine Y8 ?_);try simp only[AQ.then,AQ.blk,reduceIte,Nat.reduceEqDiff])|fail)
 all_goals first|with_reducible refine bJ hQ _ rfl rfl ?_|skip
 all_goals first|exact pF (by omega)|exact wT (by omega)|exact pO (by omega)|rfl
theorem eG {n:Int} {lo:Int} {up:Int} (h:K (dB (decide (lo≤n∧n≤up))) H nx):aB Tryz.prog cE [dI n,dI lo,dI up] H nx K:=
 (ai4 n lo up).pure rfl (aI ⟨aF rfl,aF rfl,aF rfl,trivial⟩) (fun r hr=>hr▸h)
theorem P0 (n:Int):aB Tryz.prog iD [dI n] .nil 0 fun rr _ _=>rr.plain=true∧rr=dB (decide (0≤n∧n≤2)):=by
 refine NB rfl fun Q hQ=> ?_
 unfold vA
 repeat' (first| (with_reducible first| (refine hK _ _ _ ?_;clear hK K)|refine Z1 ?_)| (first| (with_reducible refine Y2 fun K hK=> ?_)| (with_reducible refine eG ?_))<;>(simp only[go_sem])| ((with_reducible refine Y8 ?_);try simp only[AQ.then,AQ.blk,reduceIte,Nat.reduceEqDiff])|fail)
 all_goals first|with_reducible refine bJ hQ _ rfl rfl ?_|skip
 all_goals first|exact pF (by omega)|exact wT (by omega)|exact pO (by omega)|rfl
theorem l4 {n:Int} (h:K (dB (decide (0≤n∧n≤2))) H nx):aB Tryz.prog iD [dI n] H nx K:=
 (P0 n).pure rfl (aI ⟨aF rfl,trivial⟩) (fun r hr=>hr▸h)
theorem UJ (n:Int):aB Tryz.prog vJ [dI n] .nil 0 fun rr _ _=>rr.plain=true∧rr=dB (decide (0≤n∧n≤65535)):=by
 refine QN rfl fun Q hQ=> ?_
 unfold zG
 repeat' (first| (with_reducible first| (refine hK _ _ _ ?_;clear hK K)|refine Z1 ?_)| (first| (with_reducible refine Y2 fun K hK=> ?_)| (with_reducible refine eG ?_))<;>(simp only[go_sem])| ((with_reducible refine Y8 ?_);try simp only[AQ.then,AQ.blk,reduceIte,Nat.reduceEqDiff])|fail)
 all_goals first|with_reducible refine bJ hQ _ rfl rfl ?_|skip
 all_goals first|exact pF (by omega)|exact wT (by omega)|exact pO (by omega)|rfl
theorem UK {n:Int} (h:K (dB (decide (0≤n∧n≤65535))) H nx):aB Tryz.prog vJ [dI n] H nx K:=
 (UJ n).pure rfl (aI ⟨aF rfl,trivial⟩) (fun r hr=>hr▸h)
theorem X4 (addr many:Int) (wrap:Bool):aB Tryz.prog n8 [dI addr,dI many,dB wrap] .nil 0 fun rr _ _=>rr.plain=true∧rr=dB (decide (qU addr many wrap)):=by
 refine V7 rfl fun Q hQ=> ?_
 unfold BH
 repeat' (first| (with_reducible first| (refine hK _ _ _ ?_;clear hK K)|refine Z1 ?_)| (first| (with_reducible first|refine Y2 fun K hK=> ?_|refine Y6 (fun h=> ?_) fun h=> ?_| (refine Y7 (fun h=> ?_) (fun h=> ?_)<;>try subst h))| (with_reducible refine eG ?_))<;>(simp only[go_sem];try simp (disch:=omega) only[Iw])| ((with_reducible refine Y8 ?_);try simp only[AQ.then,AQ.blk,reduceIte,Nat.reduceEqDiff])|fail)
 all_goals first|with_reducible refine bJ hQ _ rfl rfl ?_|skip
 all_goals unfold qU
 all_goals first|exact pF (by simp;omega)|exact wT (by simp;omega)|exact pO (by simp;omega)
theorem x7 {addr:Int} {many:Int} {wrap:Bool} (h:K (dB (decide (qU addr many wrap))) H nx):aB Tryz.prog n8 [dI addr,dI many,dB wrap] H nx K:=
 (X4 addr many wrap).pure rfl (aI ⟨aF rfl,aF rfl,aF rfl,trivial⟩) (fun r hr=>hr▸h)
end
end Go.Proofs.YtegiblhkjfiooaaGreat
end
