/- Texts laid together by a program: rules, contracts and the walk that leads to the law. -/
import Derived.Test.YtmccpdapaccnoaaPG3
set_option linter.unusedVariables false
set_option linter.unusedSimpArgs false
set_option linter.unusedSectionVars false
section
namespace Go.AM
structure Rng where
 lo:Int
 hi:Int
 K5:Int
 only:Bool
 deriving Inhabited,DecidableEq
structure Req where
 id:Int
 kind:Int
 addr:Int
 many:Int
 wrap:Bool
 data:List Int
 g6:List Int
 deriving Inhabited,DecidableEq
structure Rsp where
 id:Int
 code:Int
 data:List Int
 deriving Inhabited,DecidableEq
structure Job where
 who:Int
 n:Int
 rsp:Rsp
 deriving Inhabited,DecidableEq
structure Ev where
 kind:Int
 who:Int
 n:Int
 deriving Inhabited,DecidableEq
structure Cfg where
 map:List Rng
 lat:List Int
 cP:List (List Req)
 deriving Inhabited,DecidableEq
theorem bF (x:Int):(aJ x).length=1∧(aJ x).all D1.dQ=true:=⟨rfl,rfl⟩
def eN (r:Rng):List D1:=[cI r.lo,cI r.hi,cI r.K5,cB r.only]
theorem amQ {r:Rng}:(eN r).length=4:=rfl
theorem acT {r:Rng}:(eN r).take 1=[cI r.lo]:=rfl
theorem adK {r:Rng}:(eN r).drop 1=[cI r.hi,cI r.K5,cB r.only]:=rfl
theorem abT {r:Rng}:(eN r).take 2=[cI r.lo,cI r.hi]:=rfl
theorem acH {r:Rng}:(eN r).drop 2=[cI r.K5,cB r.only]:=rfl
theorem acK {r:Rng}:(eN r).take 3=[cI r.lo,cI r.hi,cI r.K5]:=rfl
theorem ae9 {r:Rng}:(eN r).drop 3=[cB r.only]:=rfl
theorem ac2 {r:Rng}:(eN r).take 4=eN r:=rfl
theorem acG {r:Rng}:(eN r).drop 4=[]:=rfl
theorem ai6 {r:Rng} {cs:List D1} {k:Nat}:iA cs (k+1) (eN r)=iA cs (k+1) [cI r.lo,cI r.hi,cI r.K5,cB r.only]:=rfl
theorem K3 (r:Rng):(eN r).length=4∧(eN r).all D1.dQ=true:=⟨rfl,rfl⟩
attribute [go_sem] amQ acT adK abT acH acK ae9 ac2 acG ai6
def eB (q:Req):List D1:=[cI q.id,cI q.kind,cI q.addr,cI q.many,cB q.wrap,.isl (q.data.map aJ),.isl (q.g6.map aJ)]
theorem aj5 {q:Req}:(eB q).length=7:=rfl
theorem ab1 {q:Req}:(eB q).take 1=[cI q.id]:=rfl
theorem aeZ {q:Req}:(eB q).drop 1=[cI q.kind,cI q.addr,cI q.many,cB q.wrap,.isl (q.data.map aJ),.isl (q.g6.map aJ)]:=rfl
theorem adJ {q:Req}:(eB q).take 2=[cI q.id,cI q.kind]:=rfl
theorem adR {q:Req}:(eB q).drop 2=[cI q.addr,cI q.many,cB q.wrap,.isl (q.data.map aJ),.isl (q.g6.map aJ)]:=rfl
theorem adD {q:Req}:(eB q).take 3=[cI q.id,cI q.kind,cI q.addr]:=rfl
theorem ae1 {q:Req}:(eB q).drop 3=[cI q.many,cB q.wrap,.isl (q.data.map aJ),.isl (q.g6.map aJ)]:=rfl
theorem adU {q:Req}:(eB q).take 4=[cI q.id,cI q.kind,cI q.addr,cI q.many]:=rfl
theorem aeB {q:Req}:(eB q).drop 4=[cB q.wrap,.isl (q.data.map aJ),.isl (q.g6.map aJ)]:=rfl
theorem ad3 {q:Req}:(eB q).take 5=[cI q.id,cI q.kind,cI q.addr,cI q.many,cB q.wrap]:=rfl
theorem acC {q:Req}:(eB q).drop 5=[.isl (q.data.map aJ),.isl (q.g6.map aJ)]:=rfl
theorem acS {q:Req}:(eB q).take 6=[cI q.id,cI q.kind,cI q.addr,cI q.many,cB q.wrap,.isl (q.data.map aJ)]:=rfl
theorem ad7 {q:Req}:(eB q).drop 6=[.isl (q.g6.map aJ)]:=rfl
theorem acD {q:Req}:(eB q).take 7=eB q:=rfl
theorem acQ {q:Req}:(eB q).drop 7=[]:=rfl
theorem ah6 {q:Req} {cs:List D1} {k:Nat}:iA cs (k+1) (eB q)=iA cs (k+1) [cI q.id,cI q.kind,cI q.addr,cI q.many,cB q.wrap,.isl (q.data.map aJ),.isl (q.g6.map aJ)]:=rfl
theorem rL (q:Req):(eB q).length=7∧(eB q).all D1.dQ=true:=⟨rfl,rfl⟩
attribute [go_sem] aj5 ab1 aeZ adJ adR adD ae1 adU aeB ad3 acC acS ad7 acD acQ ah6
def tG (r:Rsp):List D1:=[cI r.id,cI r.code,.isl (r.data.map aJ)]
theorem akZ {r:Rsp}:(tG r).length=3:=rfl
theorem ab7 {r:Rsp}:(tG r).take 1=[cI r.id]:=rfl
theorem adG {r:Rsp}:(tG r).drop 1=[cI r.code,.isl (r.data.map aJ)]:=rfl
theorem ab5 {r:Rsp}:(tG r).take 2=[cI r.id,cI r.code]:=rfl
theorem ab4 {r:Rsp}:(tG r).drop 2=[.isl (r.data.map aJ)]:=rfl
theorem ac4 {r:Rsp}:(tG r).take 3=tG r:=rfl
theorem aeP {r:Rsp}:(tG r).drop 3=[]:=rfl
theorem aiZ {r:Rsp} {cs:List D1} {k:Nat}:iA cs (k+1) (tG r)=iA cs (k+1) [cI r.id,cI r.code,.isl (r.data.map aJ)]:=rfl
attribute [go_sem] akZ ab7 adG ab5 ab4 ac4 aeP aiZ
def aS (j:Job):List D1:=[cI j.who,cI j.n,cI j.rsp.id,cI j.rsp.code,.isl (j.rsp.data.map aJ)]
theorem aj4 {j:Job}:(aS j).length=5:=rfl
theorem adB {j:Job}:(aS j).take 1=[cI j.who]:=rfl
theorem aeL {j:Job}:(aS j).drop 1=[cI j.n,cI j.rsp.id,cI j.rsp.code,.isl (j.rsp.data.map aJ)]:=rfl
theorem abW {j:Job}:(aS j).take 2=[cI j.who,cI j.n]:=rfl
theorem ad8 {j:Job}:(aS j).drop 2=[cI j.rsp.id,cI j.rsp.code,.isl (j.rsp.data.map aJ)]:=rfl
theorem abZ {j:Job}:(aS j).take 3=[cI j.who,cI j.n,cI j.rsp.id]:=rfl
theorem aeW {j:Job}:(aS j).drop 3=[cI j.rsp.code,.isl (j.rsp.data.map aJ)]:=rfl
theorem aeJ {j:Job}:(aS j).take 4=[cI j.who,cI j.n,cI j.rsp.id,cI j.rsp.code]:=rfl
theorem ae6 {j:Job}:(aS j).drop 4=[.isl (j.rsp.data.map aJ)]:=rfl
theorem aeO {j:Job}:(aS j).take 5=aS j:=rfl
theorem ad1 {j:Job}:(aS j).drop 5=[]:=rfl
theorem ahS {j:Job} {cs:List D1} {k:Nat}:iA cs (k+1) (aS j)=iA cs (k+1) [cI j.who,cI j.n,cI j.rsp.id,cI j.rsp.code,.isl (j.rsp.data.map aJ)]:=rfl
theorem dZ (j:Job):(aS j).length=5∧(aS j).all D1.dQ=true:=⟨rfl,rfl⟩
attribute [go_sem] aj4 adB aeL abW ad8 abZ aeW aeJ ae6 aeO ad1 ahS
def eEv (v:Ev):List D1:=[cI v.kind,cI v.who,cI v.n]
theorem apB {v:Ev}:(eEv v).length=3:=rfl
theorem ai8 {v:Ev}:(eEv v).take 1=[cI v.kind]:=rfl
theorem ai2 {v:Ev}:(eEv v).drop 1=[cI v.who,cI v.n]:=rfl
theorem ahH {v:Ev}:(eEv v).take 2=[cI v.kind,cI v.who]:=rfl
theorem ahK {v:Ev}:(eEv v).drop 2=[cI v.n]:=rfl
theorem ahB {v:Ev}:(eEv v).take 3=eEv v:=rfl
theorem aiS {v:Ev}:(eEv v).drop 3=[]:=rfl
theorem aj8 {v:Ev} {cs:List D1} {k:Nat}:iA cs (k+1) (eEv v)=iA cs (k+1) [cI v.kind,cI v.who,cI v.n]:=rfl
attribute [go_sem] apB ai8 ai2 ahH ahK ahB aiS aj8
abbrev Prog:=List Req
def jR (p:Prog):List D1:=[.isl (p.map eB)]
theorem aiU {p:Prog}:(jR p).length=1:=rfl
theorem ZQ {p:Prog}:(jR p).take 1=[.isl (p.map eB)]:=rfl
theorem ZV {p:Prog}:(jR p).drop 1=[]:=rfl
theorem acV {p:Prog} {cs:List D1} {k:Nat}:iA cs (k+1) (jR p)=iA cs (k+1) [.isl (p.map eB)]:=rfl
theorem iR (p:Prog):(jR p).length=1∧(jR p).all D1.dQ=true:=⟨rfl,rfl⟩
attribute [go_sem] aiU ZQ ZV acV
def cU (c:Cfg):List D1:=[.isl (c.map.map eN),.isl (c.lat.map aJ),.isl (c.cP.map jR)]
theorem akD {c:Cfg}:(cU c).length=3:=rfl
theorem aeV {c:Cfg}:(cU c).take 1=[.isl (c.map.map eN)]:=rfl
theorem aeI {c:Cfg}:(cU c).drop 1=[.isl (c.lat.map aJ),.isl (c.cP.map jR)]:=rfl
theorem abV {c:Cfg}:(cU c).take 2=[.isl (c.map.map eN),.isl (c.lat.map aJ)]:=rfl
theorem adV {c:Cfg}:(cU c).drop 2=[.isl (c.cP.map jR)]:=rfl
theorem aeG {c:Cfg}:(cU c).take 3=cU c:=rfl
theorem acR {c:Cfg}:(cU c).drop 3=[]:=rfl
theorem agU {c:Cfg} {cs:List D1} {k:Nat}:iA cs (k+1) (cU c)=iA cs (k+1) [.isl (c.map.map eN),.isl (c.lat.map aJ),.isl (c.cP.map jR)]:=rfl
attribute [go_sem] akD aeV aeI abV adV aeG acR agU
def o7 (addr many:Int) (wrap:Bool):Prop:=(many=1∨many=2∨many=4)∧(0≤addr∧addr≤63)∧(wrap=true∨addr+many-1≤63)
instance {addr many:Int} {wrap:Bool}:Decidable (o7 addr many wrap):=by unfold o7;infer_instance
def inR (r:Rng) (a:Int):Bool:=decide (r.lo≤a∧a≤r.hi)
def bK {α:Type} (p:α→Bool) (l:List α):Int:=match l.findIdx? p with
 |some k=>k
 |none=>-1
theorem CU {α:Type} [Inhabited α] {p:α→Bool} {l:List α} {k:Nat} (hk:k<l.length) (h:p (l.getD k default)=true) (hinv: ∀i,i<k→p (l.getD i default)=false):bK p l=k:=by
 have:l.findIdx? p=some k:=by
  rw[List.findIdx?_eq_some_iff_getElem]
  refine⟨hk,by simpa [List.getD,hk] using h,fun j hj=> ?_⟩
  have:=hinv j hj
  have hj2:j<l.length:=by omega
  simpa [List.getD,hj2] using this
 simp[bK,this]
theorem tI {α:Type} [Inhabited α] {p:α→Bool} {l:List α} (hinv: ∀i,i<l.length→p (l.getD i default)=false):bK p l= -1:=by
 have:l.findIdx? p=none:=by
  rw[List.findIdx?_eq_none_iff]
  intro x hx
  obtain⟨i,hi,rfl⟩:=List.mem_iff_getElem.1 hx
  have:=hinv i hi
  simpa [List.getD,hi] using this
 simp[bK,this]
theorem PQ {α:Type} {p:α→Bool} {l:List α}:bK p l<l.length:=by
 unfold bK;split
 ·rename_i k h;have:=(List.findIdx?_eq_some_iff_getElem.1 h).1;omega
 ·omega
theorem iS {P:Nat→Prop} {k:Nat} (h: ∀i,i<k→P i) (hk:P k): ∀i,i<k+1→P i:=fun i hi=>by
 rcases Nat.lt_succ_iff_lt_or_eq.1 hi with hi|rfl
 ·exact h i hi
 ·exact hk
def bV (l:List Rng) (all:List Int):Int:=
 if all.length=0 then-1 else if all.all (fun a=>decide (bK (inR · a) l=bK (inR · (all.getD 0 default)) l)) then bK (inR · (all.getD 0 default)) l else-1
theorem adL {l:List Rng} {all:List Int} (h:all.length=0):bV l all= -1:=by simp[bV,h]
theorem RH {l:List Rng} {all:List Int} (h: ¬all.length=0) (hinv: ∀i,i<all.length→1≤i→bK (inR · (all.getD i default)) l=bK (inR · (all.getD 0 default)) l):bV l all=bK (inR · (all.getD 0 default)) l:=by
 unfold bV
 rw[if_neg h,if_pos]
 rw[List.all_eq_true]
 intro a ha
 obtain⟨i,hi,rfl⟩:=List.mem_iff_getElem.1 ha
 rcases Nat.eq_zero_or_pos i with rfl|hp
 ·simp[List.getD,hi]
 ·have:=hinv i hi hp
  simp only[List.getD,hi,List.getElem?_eq_getElem,Option.getD_some] at this
  exact decide_eq_true this
theorem L8 {l:List Rng} {all:List Int} {i:Nat} (h:i<all.length) (hne: ¬bK (inR · (all.getD i default)) l=bK (inR · (all.getD 0 default)) l):bV l all= -1:=by
 unfold bV
 rw[if_neg (by omega),if_neg]
 rw[List.all_eq_true]
 intro hall
 have:=hall (all.getD i default) (by simp[List.getD,h])
 exact hne (of_decide_eq_true this)
def wrM (q:Req):Bool:=decide (q.kind=2∨q.kind=4)
def bAt (addr many:Int) (wrap:Bool) (k:Nat):Int:=if wrap then addr-addr%many+(addr+k)%many else addr+k
def bE (addr many:Int) (wrap:Bool):List Int:=if o7 addr many wrap then (List.range many.toNat).map (bAt addr many wrap) else []
theorem asN {addr many:Int} {wrap:Bool} (h:o7 addr many wrap) (k:Nat):addr-addr.tmod many+(addr-(addr-addr.tmod many)+k).tmod many=addr-addr%many+(addr+k)%many:=by
 obtain⟨h1,h2,h3⟩:=h
 rw[Int.tmod_eq_emod_of_nonneg (by omega)]
 rw[Int.tmod_eq_emod_of_nonneg (by rcases h1 with rfl|rfl|rfl<;>omega)]
 rcases h1 with rfl|rfl|rfl<;>omega
theorem aaA {addr many:Int} {wrap:Bool} (h:o7 addr many wrap): ¬many=0∧0<many∧many≤4∧0≤addr∧addr≤63∧addr.tmod many=addr%many∧0≤addr%many∧addr%many≤addr:=by
 obtain⟨h1,h2,h3⟩:=h
 rw[Int.tmod_eq_emod_of_nonneg (by omega)]
 rcases h1 with rfl|rfl|rfl<;>omega
theorem agW {addr many:Int} {wrap:Bool} (h:o7 addr many wrap) (k:Nat) (hk:k<many.toNat):0≤(addr-(addr-addr%many)+k).tmod many∧(addr-(addr-addr%many)+k).tmod many<4∧addr-addr%many+(addr-(addr-addr%many)+k).tmod many=addr-addr%many+(addr+k)%many:=by
 obtain⟨h1,h2,h3⟩:=h
 rw[Int.tmod_eq_emod_of_nonneg (by rcases h1 with rfl|rfl|rfl<;>omega)]
 rcases h1 with rfl|rfl|rfl<;>omega
theorem aDH {addr many:Int} {wrap:Bool} {k:Nat} {x:Int} (h:x=bAt addr many wrap k):(List.range (k+1)).map (bAt addr many wrap)=(List.range k).map (bAt addr many wrap)++[x]:=by
 rw[List.range_succ,List.map_append,h];rfl
theorem aq9 {addr many:Int} {wrap:Bool} (h:o7 addr many wrap) {k:Nat} (hk:k<many.toNat):0≤bAt addr many wrap k∧bAt addr many wrap k≤63:=by
 obtain⟨h1,h2,h3⟩:=h
 unfold bAt
 split
 ·rcases h1 with rfl|rfl|rfl<;>omega
 ·rename_i hw
  simp[hw] at h3
  omega
theorem V1 {addr many:Int} {wrap:Bool}: ∀a∈bE addr many wrap,0≤a∧a≤63:=by
 intro a ha
 unfold bE at ha
 split at ha
 ·rename_i h
  obtain⟨k,hk,rfl⟩:=List.mem_map.1 ha
  exact aq9 h (List.mem_range.1 hk)
 ·simp at ha
theorem DF {addr many:Int} {wrap:Bool} (h:o7 addr many wrap):(bE addr many wrap).length=many.toNat:=by simp[bE,h]
theorem MK {addr many:Int} {wrap:Bool}:(bE addr many wrap).length≤4:=by
 unfold bE
 split
 ·rename_i h;obtain⟨h1,_⟩:=h;simp;rcases h1 with rfl|rfl|rfl<;>omega
 ·simp
theorem cH {α:Type} {p:α→Bool} {l:List α}:0≤bK p l↔∃x∈l,p x=true:=by
 unfold bK
 split
 ·rename_i k h
  obtain⟨h1,h2,_⟩:=List.findIdx?_eq_some_iff_getElem.1 h
  exact⟨fun _=>⟨_,List.getElem_mem h1,h2⟩,fun _=>by omega⟩
 ·rename_i h
  rw[List.findIdx?_eq_none_iff] at h
  exact⟨fun h=>by omega,fun⟨x,hx,hp⟩=>by rw[h x hx] at hp;cases hp⟩
structure TSt where
 words:List Int
 holds:List Int
 asked:List Int
 wait:List Job
 done:List Job
 told:List Job
 deriving Inhabited,DecidableEq
def eSt (s:TSt):List D1:=[.isl (s.words.map aJ),.isl (s.holds.map aJ),.isl (s.asked.map aJ),.isl (s.wait.map aS),.isl (s.done.map aS),.isl (s.told.map aS)]
theorem an0 {s:TSt}:(eSt s).length=6:=rfl
theorem ahY {s:TSt}:(eSt s).take 1=[.isl (s.words.map aJ)]:=rfl
theorem aiN {s:TSt}:(eSt s).drop 1=[.isl (s.holds.map aJ),.isl (s.asked.map aJ),.isl (s.wait.map aS),.isl (s.done.map aS),.isl (s.told.map aS)]:=rfl
theorem agV {s:TSt}:(eSt s).take 2=[.isl (s.words.map aJ),.isl (s.holds.map aJ)]:=rfl
theorem ai0 {s:TSt}:(eSt s).drop 2=[.isl (s.asked.map aJ),.isl (s.wait.map aS),.isl (s.done.map aS),.isl (s.told.map aS)]:=rfl
theorem ahO {s:TSt}:(eSt s).take 3=[.isl (s.words.map aJ),.isl (s.holds.map aJ),.isl (s.asked.map aJ)]:=rfl
theorem agR {s:TSt}:(eSt s).drop 3=[.isl (s.wait.map aS),.isl (s.done.map aS),.isl (s.told.map aS)]:=rfl
theorem aiD {s:TSt}:(eSt s).take 4=[.isl (s.words.map aJ),.isl (s.holds.map aJ),.isl (s.asked.map aJ),.isl (s.wait.map aS)]:=rfl
theorem ah4 {s:TSt}:(eSt s).drop 4=[.isl (s.done.map aS),.isl (s.told.map aS)]:=rfl
theorem aiP {s:TSt}:(eSt s).take 5=[.isl (s.words.map aJ),.isl (s.holds.map aJ),.isl (s.asked.map aJ),.isl (s.wait.map aS),.isl (s.done.map aS)]:=rfl
theorem ahQ {s:TSt}:(eSt s).drop 5=[.isl (s.told.map aS)]:=rfl
theorem aiK {s:TSt}:(eSt s).take 6=eSt s:=rfl
theorem WQ {s:TSt}:(eSt s).drop 6=[]:=rfl
theorem ajS {s:TSt} {cs:List D1} {k:Nat}:iA cs (k+1) (eSt s)=iA cs (k+1) [.isl (s.words.map aJ),.isl (s.holds.map aJ),.isl (s.asked.map aJ),.isl (s.wait.map aS),.isl (s.done.map aS),.isl (s.told.map aS)]:=rfl
attribute [go_sem] an0 ahY aiN agV ai0 ahO agR aiD ah4 aiP ahQ aiK WQ ajS
def All (l:List Int) (lo up:Int):Prop:=∀x∈l,lo≤x∧x≤up
instance {l:List Int} {lo up:Int}:Decidable (All l lo up):=by unfold All;infer_instance
def n5 (q:Req):Int:=if q.kind=2∨q.kind=4 then q.many else 0
def dH (q:Req):Prop:=(0≤q.id∧q.id≤1)∧(1≤q.kind∧q.kind≤4)∧o7 q.addr q.many q.wrap∧(q.data.length:Int)=n5 q∧(q.g6.length:Int)=n5 q∧All q.data 0 65535∧All q.g6 0 3∧(q.kind=1∨q.kind=2∨q.many=1)
instance {q:Req}:Decidable (dH q):=by unfold dH;infer_instance
def aaM (q r:Rng):Bool:=decide (q.lo≤r.hi∧r.lo≤q.hi)
def SF (r:Rng):Prop:=(0≤r.lo∧r.lo≤63)∧(r.lo≤r.hi∧r.hi≤63)∧(0≤r.K5∧r.K5≤2)
instance {r:Rng}:Decidable (SF r):=by unfold SF;infer_instance
def V9 (l:List Rng) (i:Nat):Prop:=SF (l.getD i default)∧ ¬0≤bK (fun q=>aaM q (l.getD i default)) (l.take i)
instance {l:List Rng} {i:Nat}:Decidable (V9 l i):=by unfold V9;infer_instance
def DH (l:List Rng):Prop:=(l.length:Int)≤4∧ ∀i,i<l.length→V9 l i
instance {l:List Rng}:Decidable (DH l):=by unfold DH;infer_instance
def mV (p:List Req):Prop:=(p.length:Int)≤12∧ ¬0≤bK (fun q=>decide (¬dH q)) p
instance {p:List Req}:Decidable (mV p):=by unfold mV;infer_instance
def aQ (c:Cfg):Prop:=DH c.map∧(c.lat.length:Int)=4∧All c.lat 0 3∧(c.cP.length:Int)=3∧ ¬0≤bK (fun p=>decide (¬mV p)) c.cP
instance {c:Cfg}:Decidable (aQ c):=by unfold aQ;infer_instance
def JS (w h:List Int):Prop:=((w.length:Int)=64∧All w 0 65535)∧(h.length:Int)=6∧All h (-1) 63
instance {w h:List Int}:Decidable (JS w h):=by unfold JS;infer_instance
structure jO (c:Cfg):Prop where
 map:c.map.length<2^40
 lat:c.lat.length<2^40
 cP:c.cP.length<2^40
 prog: ∀p∈c.cP,p.length<2^40
 req: ∀p∈c.cP,∀q∈p,q.data.length<2^40∧q.g6.length<2^40
def bT (c:Cfg) (who n:Int):Req:=(c.cP.getD who.toNat default).getD n.toNat default
def oA (c:Cfg) (who n:Int):Prop:=(0≤who∧who≤2)∧0≤n∧n≤(c.cP.getD who.toNat default).length-1
instance {c:Cfg} {who n:Int}:Decidable (oA c who n):=by unfold oA;infer_instance
def iM (who n:Int) (j:Job):Bool:=decide (j.who=who∧j.n=n)
def adI (c:Cfg) (e:Ev) (j:Job):Bool:=decide ((j.who=e.who∧j.n<e.n)∧(bT c j.who j.n).id=(bT c e.who e.n).id)
theorem jO.at {c:Cfg} (h:jO c) (k:Nat):(c.cP.getD k default).length<2^40:=by
 by_cases hk:k<c.cP.length
 ·exact h.prog _ (by simp[List.getD,hk])
 ·have:c.cP.getD k default=[]:=by simp[List.getD,hk];rfl
  rw[this];decide
end Go.AM
end
section
namespace Go.AM
def X6 (c:Cfg) (s:TSt) (e:Ev):Int:=
 if ¬(oA c e.who e.n∧1≤e.kind∧e.kind≤3) then 1 else
 if e.kind=1 then (if ¬e.n=s.asked.getD e.who.toNat default then 2 else 0) else
 if e.kind=2 then (if bK (iM e.who e.n) s.wait<0 then 3 else if 0≤bK (adI c e) s.wait then 4 else 0) else
 if bK (iM e.who e.n) s.done<0 then 5 else if 0≤bK (adI c e) s.wait∨0≤bK (adI c e) s.done then 6 else 0
structure azJ (c:Cfg) (s:TSt):Prop where
 words:s.words.length=64
 holds:s.holds.length=6
 asked:s.asked.length=3
 qU:s.wait.length<2^21
 uQ:s.done.length<2^21
 az1:s.told.length<2^21
 wait: ∀j∈s.wait,oA c j.who j.n
 done: ∀j∈s.done,oA c j.who j.n
 told: ∀j∈s.told,oA c j.who j.n
end Go.AM
end
section
namespace Go.AM
theorem agE {j:Job}:[cI j.who,cI j.n,cI j.rsp.id,cI j.rsp.code,.isl (j.rsp.data.map aJ)]=aS j:=rfl
theorem ai7 {r:Rsp}:[cI r.id,cI r.code,.isl (r.data.map aJ)]=tG r:=rfl
def uL (a b:Job):Bool:=decide (a.who<b.who∨(a.who=b.who∧a.n<b.n))
def BM (l:List Job) (j:Job):List Job:=l.take (l.findIdx (uL j))++j::l.drop (l.findIdx (uL j))
def MT (l:List Job) (at_:Nat):List Job:=l.take at_++l.drop (at_+1)
def aN7 (l:List Job) (j:Job) (f k:Nat):List Job:=if k≤f then l.take k else l.take f++j::(l.take k).drop f
theorem nK {α:Type} [Inhabited α] {l:List α} {k:Nat} (h:k<l.length):l.take (k+1)=l.take k++[l.getD k default]:=by
 rw[List.take_succ_eq_append_getElem h];simp[List.getD,h]
theorem aT3 {l:List Job} {j:Job} {f k:Nat} (h:k<l.length) (hf:k<f):aN7 l j f (k+1)=aN7 l j f k++[l.getD k default]:=by
 unfold aN7
 rw[if_pos (by omega),if_pos (by omega),nK h]
theorem aT6 {l:List Job} {j:Job} {f k:Nat} (h:k<l.length) (hf:k=f):aN7 l j f (k+1)=(aN7 l j f k++[j])++[l.getD k default]:=by
 subst hf
 unfold aN7
 rw[if_neg (by omega),if_pos (Nat.le_refl _),nK h,List.drop_append_of_le_length (by simp;omega)]
 rw[List.drop_of_length_le (by simp;omega)]
 simp
theorem aT8 {l:List Job} {j:Job} {f k:Nat} (h:k<l.length) (hf:f<k):aN7 l j f (k+1)=aN7 l j f k++[l.getD k default]:=by
 unfold aN7
 rw[if_neg (by omega),if_neg (by omega),nK h,List.drop_append_of_le_length (by simp;omega)]
 simp
theorem aTU {l:List Job} {j:Job} {f k:Nat} (h:k≤l.length):(aN7 l j f k).length≤k+1:=by
 unfold aN7;split<;>simp<;>omega
theorem aTW {l:List Job} {j:Job} (hf:l.findIdx (uL j)<l.length):aN7 l j (l.findIdx (uL j)) l.length=BM l j:=by
 unfold aN7 BM;rw[if_neg (by omega)];simp
theorem aTO {l:List Job} {j:Job} (hf: ¬l.findIdx (uL j)<l.length):aN7 l j (l.findIdx (uL j)) l.length++[j]=BM l j:=by
 have:l.findIdx (uL j)=l.length:=by have:=List.findIdx_le_length (p:=uL j) (xs:=l);omega
 unfold aN7 BM;rw[this];simp
theorem aT2 {l:List Job} {j:Job} {k:Nat} (h:k<l.length) (hk:k≤l.findIdx (uL j)):uL j (l.getD k default)=true↔k=l.findIdx (uL j):=by
 have hg:l.getD k default=l[k]:=by simp[List.getD,h]
 rw[hg]
 constructor
 ·intro hb
  have: ¬k<l.findIdx (uL j):=fun hlt=>by
   have:=List.not_of_lt_findIdx hlt
   simp[hb] at this
  omega
 ·intro he
  have hlt:l.findIdx (uL j)<l.length:=by omega
  have:=List.findIdx_getElem (w:=hlt)
  subst he
  simpa using this
end Go.AM
end
section
namespace Go.AM
def eU8 (x:Int):List D1:=[.v (.int .u8 x)]
attribute [go_sem] eU8
def rdO (l:List Int) (p:Nat):bA:=⟨2,1,[[.isl (l.map eU8),cI p]]⟩
structure kZ (l:List Int):Prop where
 len:l.length<2^40
 byte: ∀x∈l,0≤x∧x<256
theorem kZ.at {l:List Int} (h:kZ l) (k:Nat):0≤l.getD k default∧l.getD k default<256:=by
 by_cases hk:k<l.length
 ·exact h.byte _ (by simp[List.getD,hk])
 ·have:l.getD k default=0:=by simp[List.getD,hk]
  omega
theorem aV (l:List Int) (p:Nat):C7 (rdO l p):=by
 intro r hr x hx
 simp only[rdO,List.mem_singleton] at hr
 subst hr
 simp at hx
 rcases hx with rfl|rfl<;>rfl
theorem aq7 {a b:Int} (ha:0≤a∧a<9223372036854775808) (hb:0≤b∧b<9223372036854775808):0≤IntKind.i64.wrap ((BitVec.ofInt 64 a^^^BitVec.ofInt 64 b).toNat:Nat):=by
 have h:(BitVec.ofInt 64 a^^^BitVec.ofInt 64 b).toNat<2^63:=by
  rw[BitVec.toNat_xor,BitVec.toNat_ofInt,BitVec.toNat_ofInt]
  refine Nat.xor_lt_two_pow ?_ ?_<;>omega
 have h2:(BitVec.ofInt 64 a^^^BitVec.ofInt 64 b).toNat<9223372036854775808:=h
 rw[IntWalk.i64_in _ (by omega)]
 omega
end Go.AM
end
section
namespace Go.AM
def E9 (b:Bool):List Rng:=[⟨0,15,0,false⟩,⟨16,31,1,false⟩,⟨32,47,2,b⟩]
def al2 (x:Int) (b:Bool):List Rng:=[⟨0,7,0,false⟩,⟨8,15,1,false⟩,⟨20,40,x,false⟩,⟨41,63,2,b⟩]
theorem PO (b:Bool) (k:Nat) (h:k≤3):DH ((E9 b).take k):=by
 have:k=0∨k=1∨k=2∨k=3:=by omega
 rcases this with rfl|rfl|rfl|rfl<;>cases b<;>decide
theorem apM (x:Int) (b:Bool) (h:0≤x∧x≤2):DH (al2 x b):=by
 have:x=0∨x=1∨x=2:=by omega
 rcases this with rfl|rfl|rfl<;>cases b<;>decide
theorem KC {l:List Int} {lo up x:Int} (h:All l lo up) (h1:lo≤x) (h2:x≤up):All (l++[x]) lo up:=by
 intro y hy
 rcases List.mem_append.1 hy with hy|hy
 ·exact h y hy
 ·simp at hy;subst hy;exact⟨h1,h2⟩
end Go.AM
end
section
namespace Go.AM
theorem cC {α:Type} [Inhabited α] {l:List α} {k:Nat} (h:k<l.length):l.getD k default∈l:=by simp[List.getD,h]
def oW:Rsp:=⟨0,0,[]⟩
def xZ (old new g6:Int):Int:=(if g6/2=1 then new/256 else old/256)*256+(if g6%2=1 then new%256 else old%256)
theorem ag0 {old new g6:Int} (h1:0≤old∧old≤65535) (h2:0≤new∧new≤65535):0≤xZ old new g6∧xZ old new g6≤65535:=by
 unfold xZ;split<;>split<;>omega
def FV (w all data g6:List Int):Nat→List Int
 |0=>w
 |k+1=>(FV w all data g6 k).set (all.getD k default).toNat (xZ ((FV w all data g6 k).getD (all.getD k default).toNat default) (data.getD k default) (g6.getD k default))
theorem HB {l:List Int} {lo up:Int} (h:All l lo up) {k:Nat} (hk:k<l.length):lo≤l.getD k default∧l.getD k default≤up:=h _ (by simp[List.getD,hk])
theorem Q4 {l:List Int} {up:Int} (h:All l 0 up) (hu:0≤up) (k:Nat):0≤l.getD k default∧l.getD k default≤up:=by
 by_cases hk:k<l.length
 ·exact HB h hk
 ·have:l.getD k default=0:=by simp[List.getD,hk]
  omega
theorem afU {l:List Int} {lo up x:Int} {i:Nat} (h:All l lo up) (h1:lo≤x∧x≤up):All (l.set i x) lo up:=by
 intro y hy
 rcases List.mem_or_eq_of_mem_set hy with h2|h2
 ·exact h y h2
 ·subst h2;exact h1
theorem AX {w all data g6:List Int} (k:Nat):(FV w all data g6 k).length=w.length:=by
 induction k with
 |zero=>rfl
 |succ k ih=>simp only[FV,List.length_set,ih]
theorem afR {w all data g6:List Int} (hw:All w 0 65535) (hd:All data 0 65535) (k:Nat):All (FV w all data g6 k) 0 65535:=by
 induction k with
 |zero=>exact hw
 |succ k ih=>exact afU ih (ag0 (Q4 ih (by decide) _) (Q4 hd (by decide) _))
def iU (h all:List Int):List Int:=h.map fun x=>if x∈all then-1 else x
theorem ajK {h all:List Int} (hh:All h (-1) 63):All (iU h all) (-1) 63:=by
 intro x hx
 obtain⟨y,hy,rfl⟩:=List.mem_map.1 hx
 have:=hh y hy
 split<;>omega
def doM (m:List Rng) (w h:List Int) (who:Int) (q:Req):(List Int×List Int)×Rsp:=
 if bV m (bE q.addr q.many q.wrap)<0 then ((w,h),⟨q.id,4,[]⟩) else
 if wrM q=true∧(m.getD (bV m (bE q.addr q.many q.wrap)).toNat default).only=true then ((w,h),⟨q.id,3,[]⟩) else
 if q.kind=1 then ((w,h),⟨q.id,1,(bE q.addr q.many q.wrap).map fun a=>w.getD a.toNat default⟩) else
 if q.kind=3 then ((w,h.set (who*2+q.id).toNat q.addr),⟨q.id,2,(bE q.addr q.many q.wrap).map fun a=>w.getD a.toNat default⟩) else
 if q.kind=4∧ ¬h.getD (who*2+q.id).toNat default=q.addr then ((w,h),⟨q.id,1,[]⟩) else
 ((FV w (bE q.addr q.many q.wrap) q.data q.g6 (bE q.addr q.many q.wrap).length,iU h (bE q.addr q.many q.wrap)),⟨q.id,if q.kind=4 then 2 else 1,[]⟩)
theorem W4 {q:Req}:wrM q=true↔(q.kind=2∨q.kind=4):=by simp[wrM]
theorem alZ {m:List Rng} {w h:List Int} {who:Int} {q:Req} (h1:bV m (bE q.addr q.many q.wrap)<0):doM m w h who q=((w,h),⟨q.id,4,[]⟩):=by
 unfold doM;rw[if_pos h1]
theorem anB {m:List Rng} {w h:List Int} {who:Int} {q:Req} (h1: ¬bV m (bE q.addr q.many q.wrap)<0) (h2:wrM q=true) (h3:(m.getD (bV m (bE q.addr q.many q.wrap)).toNat default).only=true):doM m w h who q=((w,h),⟨q.id,3,[]⟩):=by
 unfold doM;rw[if_neg h1,if_pos ⟨h2,h3⟩]
theorem akI {m:List Rng} {w h:List Int} {who:Int} {q:Req} (h1: ¬bV m (bE q.addr q.many q.wrap)<0) (h2:q.kind=1):doM m w h who q=((w,h),⟨q.id,1,(bE q.addr q.many q.wrap).map fun a=>w.getD a.toNat default⟩):=by
 unfold doM;rw[if_neg h1,if_neg (fun hc=>by have:=W4.1 hc.1;omega),if_pos h2]
theorem amK {m:List Rng} {w h:List Int} {who:Int} {q:Req} (h1: ¬bV m (bE q.addr q.many q.wrap)<0) (h2:q.kind=3):doM m w h who q=((w,h.set (who*2+q.id).toNat q.addr),⟨q.id,2,(bE q.addr q.many q.wrap).map fun a=>w.getD a.toNat default⟩):=by
 unfold doM;rw[if_neg h1,if_neg (fun hc=>by have:=W4.1 hc.1;omega),if_neg (by omega),if_pos h2]
theorem aqU {m:List Rng} {w h:List Int} {who:Int} {q:Req} (h1: ¬bV m (bE q.addr q.many q.wrap)<0) (h2: ¬(m.getD (bV m (bE q.addr q.many q.wrap)).toNat default).only=true) (h3:q.kind=4) (h4: ¬h.getD (who*2+q.id).toNat default=q.addr):doM m w h who q=((w,h),⟨q.id,1,[]⟩):=by
 unfold doM;rw[if_neg h1,if_neg (fun hc=>h2 hc.2),if_neg (by omega),if_neg (by omega),if_pos ⟨h3,h4⟩]
theorem aoE {m:List Rng} {w h:List Int} {who:Int} {q:Req} (h1: ¬bV m (bE q.addr q.many q.wrap)<0) (h2: ¬(m.getD (bV m (bE q.addr q.many q.wrap)).toNat default).only=true) (h3:q.kind=4) (h4:h.getD (who*2+q.id).toNat default=q.addr):doM m w h who q=((FV w (bE q.addr q.many q.wrap) q.data q.g6 (bE q.addr q.many q.wrap).length,iU h (bE q.addr q.many q.wrap)),⟨q.id,2,[]⟩):=by
 unfold doM;rw[if_neg h1,if_neg (fun hc=>h2 hc.2),if_neg (by omega),if_neg (by omega),if_neg (fun hc=>hc.2 h4),if_pos h3]
theorem ao1 {m:List Rng} {w h:List Int} {who:Int} {q:Req} (h1: ¬bV m (bE q.addr q.many q.wrap)<0) (h2: ¬(m.getD (bV m (bE q.addr q.many q.wrap)).toNat default).only=true) (h3:q.kind=2):doM m w h who q=((FV w (bE q.addr q.many q.wrap) q.data q.g6 (bE q.addr q.many q.wrap).length,iU h (bE q.addr q.many q.wrap)),⟨q.id,1,[]⟩):=by
 unfold doM;rw[if_neg h1,if_neg (fun hc=>h2 hc.2),if_neg (by omega),if_neg (by omega),if_neg (fun hc=>by omega),if_neg (by omega)]
structure WK (w h:List Int):Prop where
 wl:w.length=64
 wr:All w 0 65535
 hl:h.length=6
 hr:All h (-1) 63
theorem ao7 {m:List Rng} {w h:List Int} {who:Int} {q:Req} (hf:WK w h) (hq:dH q):WK (doM m w h who q).1.1 (doM m w h who q).1.2:=by
 obtain⟨h1,h2,h3,h4⟩:=hf
 obtain⟨_,_,ha,_,_,hd,_,_⟩:=hq
 unfold doM
 split
 ·exact⟨h1,h2,h3,h4⟩
 split
 ·exact⟨h1,h2,h3,h4⟩
 split
 ·exact⟨h1,h2,h3,h4⟩
 split
 ·exact⟨h1,h2,by simpa using h3,afU h4 (by have:=ha.2.1;omega)⟩
 split
 ·exact⟨h1,h2,h3,h4⟩
 ·exact⟨by rw[AX];exact h1,afR h2 hd _,by simpa [iU] using h3,ajK h4⟩
def pA (r:Rsp):Prop:=(0≤r.id∧r.id≤1)∧(1≤r.code∧r.code≤4)∧(r.data.length:Int)≤4∧All r.data 0 65535
instance {r:Rsp}:Decidable (pA r):=by unfold pA;infer_instance
theorem afD {m:List Rng} {w h:List Int} {who:Int} {q:Req} (hw:All w 0 65535) (hq:dH q):pA (doM m w h who q).2∧(doM m w h who q).2.id=q.id:=by
 obtain⟨hid,_⟩:=hq
 have hnil:All ([]:List Int) 0 65535:=fun x hx=>by simp at hx
 have hb4:=MK (addr:=q.addr) (many:=q.many) (wrap:=q.wrap)
 have hget:All ((bE q.addr q.many q.wrap).map fun a=>w.getD a.toNat default) 0 65535:=by
  intro x hx
  obtain⟨a,_,rfl⟩:=List.mem_map.1 hx
  exact Q4 hw (by decide) _
 unfold doM
 split
 ·exact⟨⟨hid,by dsimp only;omega,by simp,hnil⟩,rfl⟩
 split
 ·exact⟨⟨hid,by dsimp only;omega,by simp,hnil⟩,rfl⟩
 split
 ·exact⟨⟨hid,by dsimp only;omega,by simp;omega,hget⟩,rfl⟩
 split
 ·exact⟨⟨hid,by dsimp only;omega,by simp;omega,hget⟩,rfl⟩
 split
 ·exact⟨⟨hid,by dsimp only;omega,by simp,hnil⟩,rfl⟩
 ·refine⟨⟨hid,?_,by simp,hnil⟩,rfl⟩
  dsimp only
  split<;>omega
def lS (c:Cfg) (s:TSt) (e:Ev):TSt:=
 if e.kind=1 then {s with asked:=s.asked.set e.who.toNat (e.n+1),wait:=BM s.wait ⟨e.who,e.n,oW⟩} else
 if e.kind=2 then {s with words:=(doM c.map s.words s.holds e.who (bT c e.who e.n)).1.1,holds:=(doM c.map s.words s.holds e.who (bT c e.who e.n)).1.2,wait:=MT s.wait (bK (iM e.who e.n) s.wait).toNat,done:=BM s.done ⟨e.who,e.n,(doM c.map s.words s.holds e.who (bT c e.who e.n)).2⟩} else
 {s with told:=s.told++[s.done.getD (bK (iM e.who e.n) s.done).toNat default],done:=MT s.done (bK (iM e.who e.n) s.done).toNat}
def key (j:Job):Int×Int:=(j.who,j.n)
def keys (s:TSt):List (Int×Int):=(s.wait++s.done++s.told).map key
abbrev kW (l:List Job):Prop:=l.Pairwise fun a b=>uL a b=true
def st0:TSt:=⟨List.replicate 64 0,List.replicate 6 (-1),List.replicate 3 0,[],[],[]⟩
structure BA (c:Cfg) (s:TSt):Prop where
 atm:WK s.words s.holds
 JI:s.asked.length=3
 DC: ∀k,k<3→0≤s.asked.getD k default∧s.asked.getD k default≤(c.cP.getD k default).length
 NR:kW s.wait
 NW:kW s.done
 ab8: ∀p∈keys s,(0≤p.1∧p.1≤2)∧0≤p.2∧p.2<s.asked.getD p.1.toNat default
 nodup:(keys s).Nodup
 count:(s.wait.length:Int)+s.done.length+s.told.length=s.asked.getD 0 default+s.asked.getD 1 default+s.asked.getD 2 default
 P4: ∀j∈s.wait,j.rsp=oW
 R8: ∀j∈s.done++s.told,pA j.rsp∧j.rsp.id=(bT c j.who j.n).id
theorem qL {a b:Job}:uL a b=true↔a.who<b.who∨(a.who=b.who∧a.n<b.n):=by simp[uL]
theorem nE (l:List Job) (j:Job):(BM l j).Perm (j::l):=by
 unfold BM
 refine List.perm_middle.trans ?_
 rw[List.take_append_drop]
theorem A4 {l:List Job} {k:Nat} (h:k<l.length):l.Perm (l.getD k default::MT l k):=by
 have e:l=l.take k++l.getD k default::l.drop (k+1):=by
  have:l.getD k default=l[k]:=by simp[List.getD,h]
  rw[this,←List.drop_eq_getElem_cons h,List.take_append_drop]
 conv=>lhs;rw[e]
 exact List.perm_middle
theorem P2 {l:List Job} {k:Nat}:(MT l k).Sublist l:=by
 unfold MT
 have h:=(List.Sublist.refl (l.take k)).append (List.drop_sublist_drop_left l (Nat.le_succ k))
 rwa [List.take_append_drop] at h
theorem NS {l:List Job} {k:Nat} (h:kW l):kW (MT l k):=h.sublist P2
theorem FW {l:List Job} {j:Job} (h:kW l) (hn:key j∉l.map key):kW (BM l j):=by
 unfold BM
 have hs:=h
 rw[kW,←List.take_append_drop (l.findIdx (uL j)) l,List.pairwise_append] at hs
 obtain⟨h1,h2,h3⟩:=hs
 have hlt: ∀x∈l.take (l.findIdx (uL j)),uL x j=true:=by
  intro x hx
  obtain⟨i,hi,rfl⟩:=List.mem_iff_getElem.1 hx
  simp only[List.length_take] at hi
  have hi2:i<l.findIdx (uL j):=by omega
  have hb:=List.not_of_lt_findIdx hi2
  have hne:key l[i]≠key j:=fun he=>hn (he▸List.mem_map_of_mem (List.getElem_mem _))
  rw[List.getElem_take]
  rw[qL]
  simp only[key,ne_eq,Prod.mk.injEq] at hne
  simp only[uL,decide_eq_false_iff_not] at hb
  omega
 have hgt: ∀x∈l.drop (l.findIdx (uL j)),uL j x=true:=by
  intro x hx
  cases hd:l.drop (l.findIdx (uL j)) with
  |nil=>rw[hd] at hx;simp at hx
  |cons y ys=>
   rw[hd] at hx h2
   have hlen:l.findIdx (uL j)<l.length:=by
    have:=congrArg List.length hd
    simp at this;omega
   have hy:y=l[l.findIdx (uL j)]:=by
    rw[List.drop_eq_getElem_cons hlen] at hd
    exact(List.cons.inj hd).1.symm
   have hby:uL j y=true:=by rw[hy];exact List.findIdx_getElem (w:=hlen)
   rcases List.mem_cons.1 hx with rfl|hx
   ·exact hby
   ·have:=(List.pairwise_cons.1 h2).1 x hx
    rw[qL] at this hby ⊢
    omega
 refine List.pairwise_append.2 ⟨h1,List.pairwise_cons.2 ⟨hgt,h2⟩,fun a ha b hb=> ?_⟩
 rcases List.mem_cons.1 hb with rfl|hb
 ·exact hlt a ha
 ·exact h3 a ha b hb
theorem pW {l:List Job} {who n:Int} (h: ¬bK (iM who n) l<0):(bK (iM who n) l).toNat<l.length∧key (l.getD (bK (iM who n) l).toNat default)=(who,n):=by
 unfold bK at h ⊢
 split
 ·rename_i k hk
  obtain⟨h1,h2,_⟩:=List.findIdx?_eq_some_iff_getElem.1 hk
  refine⟨by simpa using h1,?_⟩
  simp only[iM,decide_eq_true_eq] at h2
  simp only[Int.toNat_natCast,key,List.getD,h1,List.getElem?_eq_getElem,Option.getD_some,h2.1,h2.2]
 ·rename_i hk;rw[hk] at h;simp at h
theorem M8 {c:Cfg} {s:TSt} {e:Ev} (h:X6 c s e=0):oA c e.who e.n∧(e.kind=1∧e.n=s.asked.getD e.who.toNat default∨e.kind=2∧ ¬bK (iM e.who e.n) s.wait<0∨e.kind=3∧ ¬bK (iM e.who e.n) s.done<0):=by
 unfold X6 at h
 split at h
 ·exact absurd h (by decide)
 rename_i h1
 have h1:=Classical.not_not.1 h1
 refine⟨h1.1,?_⟩
 split at h
 ·rename_i hk
  split at h
  ·exact absurd h (by decide)
  ·rename_i h2;exact .inl ⟨hk,Classical.not_not.1 h2⟩
 split at h
 ·rename_i hk
  split at h
  ·exact absurd h (by decide)
  ·rename_i h2;exact .inr (.inl ⟨hk,h2⟩)
 split at h
 ·exact absurd h (by decide)
 ·rename_i h2;exact .inr (.inr ⟨by omega,h2⟩)
theorem alI {c:Cfg} {s:TSt} {e:Ev} (hk:e.kind=1):(keys (lS c s e)).Perm ((e.who,e.n)::keys s):=by
 simp only[keys,lS,hk,if_true,List.map_append]
 have:=(nE s.wait ⟨e.who,e.n,oW⟩).map key
 exact(this.append_right _).append_right _
theorem anP {c:Cfg} {s:TSt} {e:Ev} (hk:e.kind=2) (hi: ¬bK (iM e.who e.n) s.wait<0):(keys (lS c s e)).Perm (keys s):=by
 obtain⟨h1,h2⟩:=pW hi
 simp only[keys,lS,hk,if_true,if_false,List.map_append,Int.reduceEq]
 refine List.Perm.append_right _ ?_
 refine(((nE s.done _).map key).append_left _).trans ?_
 simp only[List.map_cons]
 refine List.perm_middle.trans ?_
 have h3:=(A4 h1).map key
 simp only[List.map_cons,h2] at h3
 exact(h3.symm.append_right _)
theorem aiH {c:Cfg} {s:TSt} {e:Ev} (hk:e.kind=3) (hi: ¬bK (iM e.who e.n) s.done<0):(keys (lS c s e)).Perm (keys s):=by
 obtain⟨h1,h2⟩:=pW hi
 simp only[keys,lS,hk,if_false,List.map_append,Int.reduceEq,List.append_assoc]
 refine List.Perm.append_left _ ?_
 have h3:=(A4 h1).map key
 simp only[List.map_cons] at h3
 have h4:=h3.append_right (s.told.map key)
 refine List.Perm.trans ?_ h4.symm
 simp only[List.map_cons,List.map_nil,List.cons_append]
 rw[←List.append_assoc]
 exact(List.perm_append_singleton _ _)
theorem atB {l:List Int} {k:Nat} {x:Int} (hl:l.length=3) (hk:k<3) (hx:x=l.getD k default+1):(l.set k x).getD 0 default+(l.set k x).getD 1 default+(l.set k x).getD 2 default=l.getD 0 default+l.getD 1 default+l.getD 2 default+1:=by
 match l,hl with
 | [a,b,c],_=>
   subst hx
   have:k=0∨k=1∨k=2:=by omega
   rcases this with rfl|rfl|rfl<;>simp[List.getD]<;>omega
theorem wV {l:List Int} {k i:Nat} {x:Int} (hk:k<l.length):(l.set k x).getD i default=if i=k then x else l.getD i default:=by
 simp only[List.getD,List.getElem?_set]
 by_cases h:k=i
 ·subst h;simp[hk]
 ·simp[h,Ne.symm h,eq_comm]
theorem abN {l:List Job} {k:Nat} (h:k<l.length):(MT l k).length+1=l.length:=by
 have:=(A4 h).length_eq
 simpa using this.symm
theorem ZE {l:List Job} {j:Job}:(BM l j).length=l.length+1:=by simpa using (nE l j).length_eq
theorem ab0 {s:TSt} (h:(keys s).Nodup): ∀p∈s.wait.map key,p∉s.done.map key:=by
 simp only[keys,List.map_append] at h
 rw[List.append_assoc,List.nodup_append] at h
 intro p hp hq
 exact h.2.2 p hp p (List.mem_append_left _ hq) rfl
theorem GK {c:Cfg} {who n:Int} (hb:aQ c) (h:oA c who n):dH (bT c who n):=by
 obtain⟨_,_,_,h4,h5⟩:=hb
 obtain⟨h1,h2,h3⟩:=h
 rw[cH] at h5
 have hk:who.toNat<c.cP.length:=by omega
 have h6:mV (c.cP.getD who.toNat default):=Classical.byContradiction fun hc=>h5 ⟨c.cP.getD who.toNat default,by simp[List.getD,hk],decide_eq_true hc⟩
 have h7:=h6.2
 rw[cH] at h7
 have hn:n.toNat<(c.cP.getD who.toNat default).length:=by omega
 exact Classical.byContradiction fun hc=>h7 ⟨(c.cP.getD who.toNat default).getD n.toNat default,cC hn,decide_eq_true hc⟩
theorem G9 {c:Cfg} {s:TSt} {e:Ev} (hb:aQ c) (hs:BA c s) (h:X6 c s e=0):BA c (lS c s e):=by
 obtain⟨hask,hcase⟩:=M8 h
 obtain⟨hw,hn⟩:=hask
 have hq:dH (bT c e.who e.n):=GK hb ⟨hw,hn⟩
 have hwl:e.who.toNat<3:=by omega
 have hwl2:e.who.toNat<s.asked.length:=by rw[hs.JI];exact hwl
 rcases hcase with⟨hk,hi⟩|⟨hk,hi⟩|⟨hk,hi⟩
 ·have hp:=alI (c:=c) (s:=s) hk
  have hnot:(e.who,e.n)∉keys s:=fun hm=>by have:=(hs.ab8 _ hm).2.2;dsimp only at this;omega
  have e1:lS c s e= {s with asked:=s.asked.set e.who.toNat (e.n+1),wait:=BM s.wait ⟨e.who,e.n,oW⟩}:=by simp only[lS,hk,if_true]
  refine⟨by rw[e1];exact hs.atm,by rw[e1];simpa using hs.JI,fun k h3=> ?_,?_,by rw[e1];exact hs.NW,fun p hpm=> ?_,hp.nodup_iff.2 (List.nodup_cons.2 ⟨hnot,hs.nodup⟩),?_,?_,?_⟩
  ·have:=hs.DC k h3
   rw[e1];dsimp only
   rw[wV hwl2]
   split
   ·rename_i hk2;subst hk2;omega
   ·exact this
  ·rw[e1]
   refine FW hs.NR fun hm=>hnot ?_
   simp only[keys,List.map_append]
   exact List.mem_append_left _ (List.mem_append_left _ hm)
  ·rcases List.mem_cons.1 (hp.mem_iff.1 hpm) with rfl|hm
   ·rw[e1];dsimp only
    rw[wV hwl2,if_pos rfl];omega
   ·have:=hs.ab8 p hm
    rw[e1];dsimp only
    rw[wV hwl2]
    split
    ·rename_i hk2;rw[hk2] at this;omega
    ·exact this
  ·have:=hs.count
   rw[e1];dsimp only
   rw[ZE,atB hs.JI hwl (by omega)];omega
  ·rw[e1];intro j hj
   rcases List.mem_cons.1 ((nE _ _).mem_iff.1 hj) with rfl|hj
   ·rfl
   ·exact hs.P4 j hj
  ·rw[e1];exact hs.R8
 ·have hp:=anP (c:=c) hk hi
  obtain⟨h1,h2⟩:=pW hi
  have hp2: ∀p,p∈keys (lS c s e)↔p∈keys s:=fun p=>hp.mem_iff
  have hlen:=abN h1
  have hnd:(e.who,e.n)∉s.done.map key:=ab0 hs.nodup _ (List.mem_map.2 ⟨_,cC h1,h2⟩)
  have hat:=ao7 (m:=c.map) (who:=e.who) hs.atm hq
  have e1:lS c s e= {s with words:=(doM c.map s.words s.holds e.who (bT c e.who e.n)).1.1,holds:=(doM c.map s.words s.holds e.who (bT c e.who e.n)).1.2,wait:=MT s.wait (bK (iM e.who e.n) s.wait).toNat,done:=BM s.done ⟨e.who,e.n,(doM c.map s.words s.holds e.who (bT c e.who e.n)).2⟩}:=by simp[lS,hk]
  have hnod:=hp.nodup_iff.2 hs.nodup
  rw[e1] at hp2 hnod ⊢
  exact⟨hat,hs.JI,hs.DC,NS hs.NR,FW hs.NW hnd,fun p hpm=>hs.ab8 p ((hp2 p).1 hpm),hnod,by have:=hs.count;have:=ZE (l:=s.done) (j:=⟨e.who,e.n,(doM c.map s.words s.holds e.who (bT c e.who e.n)).2⟩);dsimp only;omega,fun j hj=>hs.P4 j (P2.mem hj),fun j hj=>by
   rcases List.mem_append.1 hj with hj|hj
   ·rcases List.mem_cons.1 ((nE _ _).mem_iff.1 hj) with rfl|hj
    ·exact afD hs.atm.wr hq
    ·exact hs.R8 j (List.mem_append_left _ hj)
   ·exact hs.R8 j (List.mem_append_right _ hj)⟩
 ·have hp:=aiH (c:=c) hk hi
  obtain⟨h1,h2⟩:=pW hi
  have hp2: ∀p,p∈keys (lS c s e)↔p∈keys s:=fun p=>hp.mem_iff
  have hlen:=abN h1
  have e1:lS c s e= {s with told:=s.told++[s.done.getD (bK (iM e.who e.n) s.done).toNat default],done:=MT s.done (bK (iM e.who e.n) s.done).toNat}:=by simp[lS,hk]
  have hnod:=hp.nodup_iff.2 hs.nodup
  rw[e1] at hp2 hnod ⊢
  exact⟨hs.atm,hs.JI,hs.DC,hs.NR,NS hs.NW,fun p hpm=>hs.ab8 p ((hp2 p).1 hpm),hnod,by have:=hs.count;simp only[List.length_append,List.length_cons,List.length_nil];omega,hs.P4,fun j hj=>by
   rcases List.mem_append.1 hj with hj|hj
   ·exact hs.R8 j (List.mem_append_left _ (P2.mem hj))
   ·rcases List.mem_append.1 hj with hj|hj
    ·exact hs.R8 j (List.mem_append_right _ hj)
    ·simp only[List.mem_singleton] at hj;subst hj;exact hs.R8 _ (List.mem_append_left _ (cC h1))⟩
theorem hC {c:Cfg} (hb:aQ c):c.cP.length=3∧ ∀k,(c.cP.getD k default).length≤12:=by
 obtain⟨_,_,_,h4,h5⟩:=hb
 refine⟨by omega,fun k=> ?_⟩
 rw[cH] at h5
 by_cases hk:k<c.cP.length
 ·have h6:mV (c.cP.getD k default):=Classical.byContradiction fun hc=>h5 ⟨c.cP.getD k default,by simp[List.getD,hk],decide_eq_true hc⟩
  have:=h6.1
  omega
 ·have:c.cP.getD k default=[]:=by simp[List.getD,hk];rfl
  rw[this];simp
theorem BA.lens {c:Cfg} {s:TSt} (hb:aQ c) (hs:BA c s):s.wait.length+s.done.length+s.told.length≤36:=by
 have h1:=(hC hb).2
 have h2:=hs.DC 0 (by decide)
 have h3:=hs.DC 1 (by decide)
 have h4:=hs.DC 2 (by decide)
 have h5:=hs.count
 have:=h1 0;have:=h1 1;have:=h1 2
 omega
theorem BA.mem {c:Cfg} {s:TSt} (hs:BA c s) {j:Job} (hj:j∈s.wait++s.done++s.told):oA c j.who j.n:=by
 have h:=hs.ab8 (key j) (List.mem_map.2 ⟨j,hj,rfl⟩)
 simp only[key] at h
 have:=hs.DC j.who.toNat (by omega)
 exact⟨h.1,by omega⟩
theorem arF (c:Cfg):BA c st0:=by
 refine⟨⟨by decide,by decide,by decide,by decide⟩,by decide,fun k hk=> ?_,List.Pairwise.nil,List.Pairwise.nil,fun p hp=> ?_,by decide,by decide,fun j hj=> ?_,fun j hj=> ?_⟩
 ·have:k=0∨k=1∨k=2:=by omega
  have h0:st0.asked.getD k default=0:=by rcases this with rfl|rfl|rfl<;>rfl
  rw[h0];omega
 ·cases hp
 ·cases hj
 ·cases hj
def runM (c:Cfg) (s:TSt) (l:List Ev):TSt:=l.foldl (lS c) s
def F9 (c:Cfg) (s:TSt) (l:List Ev):Prop:=∀k,k<l.length→X6 c (runM c s (l.take k)) (l.getD k default)=0
theorem pV {c:Cfg} {s:TSt}:F9 c s []:=fun k hk=>by simp at hk
theorem BA.fit {c:Cfg} {s:TSt} (hb:aQ c) (hs:BA c s):azJ c s:=by
 have:=hs.lens hb
 exact⟨hs.atm.wl,hs.atm.hl,hs.JI,by omega,by omega,by omega,fun j hj=>hs.mem (by simp[hj]),fun j hj=>hs.mem (by simp[hj]),fun j hj=>hs.mem (by simp[hj])⟩
theorem acW {l:List Int} {k:Nat} (h:k<l.length):l.take (k+1)=l.take k++[l.getD k default]:=nK h
def xI (h all:List Int) (k:Nat):List Int:=iU (h.take k) all++h.drop k
theorem aiJ {h all:List Int} {k:Nat} (hk:k≤h.length):(xI h all k).length=h.length:=by simp[xI,iU];omega
theorem akN {h all:List Int} {k:Nat} (hk:k<h.length):(xI h all k).getD k default=h.getD k default:=by
 have e:(iU (h.take k) all).length=k:=by simp[iU];omega
 simp only[xI,List.getD,List.getElem?_append,e,Nat.lt_irrefl,if_false,Nat.sub_self,List.getElem?_drop,Nat.add_zero]
theorem drop_cons {l:List Int} {k:Nat} (h:k<l.length):l.drop k=l.getD k default::l.drop (k+1):=by
 rw[List.drop_eq_getElem_cons h];simp[List.getD,h]
theorem aeS {l all:List Int} {x:Int}:iU (l++[x]) all=iU l all++[if x∈all then-1 else x]:=by simp[iU]
theorem agQ {h all:List Int} {k:Nat} {x:Int} (hk:k<h.length) (hx:x=if h.getD k default∈all then-1 else h.getD k default):(xI h all k).set k x=xI h all (k+1):=by
 have e:(iU (h.take k) all).length=k:=by simp[iU];omega
 unfold xI
 rw[List.set_append,e,if_neg (by omega),Nat.sub_self,acW hk,drop_cons hk,aeS,List.set_cons_zero,hx,List.append_assoc]
 rfl
theorem acP {h all:List Int} {k:Nat} (hk:k<h.length):(xI h all k).set k (h.getD k default)=xI h all k:=by
 have e:(iU (h.take k) all).length=k:=by simp[iU];omega
 unfold xI
 rw[List.set_append,e,if_neg (by omega),Nat.sub_self,drop_cons hk,List.set_cons_zero]
theorem ac9 {h all:List Int}:xI h all 0=h:=by simp[xI,iU]
theorem ahC {h all:List Int}:xI h all h.length=iU h all:=by simp[xI]
theorem ai5 {addr many:Int} {wrap:Bool} (h:o7 addr many wrap):0<(bE addr many wrap).length:=by
 rw[DF h];obtain⟨h1,_⟩:=h;omega
end Go.AM
end
