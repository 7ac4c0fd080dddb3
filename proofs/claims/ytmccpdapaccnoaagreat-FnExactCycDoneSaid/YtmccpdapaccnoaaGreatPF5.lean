/- Texts laid together by a program: rules, contracts and the walk that leads to the law. -/
import Derived.Test.YtmccpdapaccnoaaGreatPF3
set_option linter.unusedVariables false
set_option linter.unusedSimpArgs false
set_option linter.unusedSectionVars false
section
section
namespace Go.AM
structure Rng where
 lo:Int
 hi:Int
 K5:Int
 only:Bool
 deriving Inhabited,DecidableEq
structure Req where
 id:Int
 kind:Int
 addr:Int
 many:Int
 wrap:Bool
 data:List Int
 g6:List Int
 deriving Inhabited,DecidableEq
structure Rsp where
 id:Int
 code:Int
 data:List Int
 deriving Inhabited,DecidableEq
structure Job where
 who:Int
 n:Int
 rsp:Rsp
 deriving Inhabited,DecidableEq
structure Ev where
 kind:Int
 who:Int
 n:Int
 deriving Inhabited,DecidableEq
structure Cfg where
 map:List Rng
 lat:List Int
 cP:List (List Req)
 deriving Inhabited,DecidableEq
theorem bF (x:Int):(aJ x).length=1∧(aJ x).all D1.dQ=true:=⟨rfl,rfl⟩
def eN (r:Rng):List D1:=[cI r.lo,cI r.hi,cI r.K5,cB r.only]
theorem amQ {r:Rng}:(eN r).length=4:=rfl
theorem acT {r:Rng}:(eN r).take 1=[cI r.lo]:=rfl
theorem adK {r:Rng}:(eN r).drop 1=[cI r.hi,cI r.K5,cB r.only]:=rfl
theorem abT {r:Rng}:(eN r).take 2=[cI r.lo,cI r.hi]:=rfl
theorem acH {r:Rng}:(eN r).drop 2=[cI r.K5,cB r.only]:=rfl
theorem acK {r:Rng}:(eN r).take 3=[cI r.lo,cI r.hi,cI r.K5]:=rfl
theorem ae9 {r:Rng}:(eN r).drop 3=[cB r.only]:=rfl
theorem ac2 {r:Rng}:(eN r).take 4=eN r:=rfl
theorem acG {r:Rng}:(eN r).drop 4=[]:=rfl
theorem ai6 {r:Rng} {cs:List D1} {k:Nat}:iA cs (k+1) (eN r)=iA cs (k+1) [cI r.lo,cI r.hi,cI r.K5,cB r.only]:=rfl
theorem K3 (r:Rng):(eN r).length=4∧(eN r).all D1.dQ=true:=⟨rfl,rfl⟩
attribute [go_sem] amQ acT adK abT acH acK ae9 ac2 acG ai6
def eB (q:Req):List D1:=[cI q.id,cI q.kind,cI q.addr,cI q.many,cB q.wrap,.isl (q.data.map aJ),.isl (q.g6.map aJ)]
theorem aj5 {q:Req}:(eB q).length=7:=rfl
theorem ab1 {q:Req}:(eB q).take 1=[cI q.id]:=rfl
theorem aeZ {q:Req}:(eB q).drop 1=[cI q.kind,cI q.addr,cI q.many,cB q.wrap,.isl (q.data.map aJ),.isl (q.g6.map aJ)]:=rfl
theorem adJ {q:Req}:(eB q).take 2=[cI q.id,cI q.kind]:=rfl
theorem adR {q:Req}:(eB q).drop 2=[cI q.addr,cI q.many,cB q.wrap,.isl (q.data.map aJ),.isl (q.g6.map aJ)]:=rfl
theorem adD {q:Req}:(eB q).take 3=[cI q.id,cI q.kind,cI q.addr]:=rfl
theorem ae1 {q:Req}:(eB q).drop 3=[cI q.many,cB q.wrap,.isl (q.data.map aJ),.isl (q.g6.map aJ)]:=rfl
theorem adU {q:Req}:(eB q).take 4=[cI q.id,cI q.kind,cI q.addr,cI q.many]:=rfl
theorem aeB {q:Req}:(eB q).drop 4=[cB q.wrap,.isl (q.data.map aJ),.isl (q.g6.map aJ)]:=rfl
theorem ad3 {q:Req}:(eB q).take 5=[cI q.id,cI q.kind,cI q.addr,cI q.many,cB q.wrap]:=rfl
theorem acC {q:Req}:(eB q).drop 5=[.isl (q.data.map aJ),.isl (q.g6.map aJ)]:=rfl
theorem acS {q:Req}:(eB q).take 6=[cI q.id,cI q.kind,cI q.addr,cI q.many,cB q.wrap,.isl (q.data.map aJ)]:=rfl
theorem ad7 {q:Req}:(eB q).drop 6=[.isl (q.g6.map aJ)]:=rfl
theorem acD {q:Req}:(eB q).take 7=eB q:=rfl
theorem acQ {q:Req}:(eB q).drop 7=[]:=rfl
theorem ah6 {q:Req} {cs:List D1} {k:Nat}:iA cs (k+1) (eB q)=iA cs (k+1) [cI q.id,cI q.kind,cI q.addr,cI q.many,cB q.wrap,.isl (q.data.map aJ),.isl (q.g6.map aJ)]:=rfl
theorem rL (q:Req):(eB q).length=7∧(eB q).all D1.dQ=true:=⟨rfl,rfl⟩
attribute [go_sem] aj5 ab1 aeZ adJ adR adD ae1 adU aeB ad3 acC acS ad7 acD acQ ah6
def tG (r:Rsp):List D1:=[cI r.id,cI r.code,.isl (r.data.map aJ)]
theorem akZ {r:Rsp}:(tG r).length=3:=rfl
theorem ab7 {r:Rsp}:(tG r).take 1=[cI r.id]:=rfl
theorem adG {r:Rsp}:(tG r).drop 1=[cI r.code,.isl (r.data.map aJ)]:=rfl
theorem ab5 {r:Rsp}:(tG r).take 2=[cI r.id,cI r.code]:=rfl
theorem ab4 {r:Rsp}:(tG r).drop 2=[.isl (r.data.map aJ)]:=rfl
theorem ac4 {r:Rsp}:(tG r).take 3=tG r:=rfl
theorem aeP {r:Rsp}:(tG r).drop 3=[]:=rfl
theorem aiZ {r:Rsp} {cs:List D1} {k:Nat}:iA cs (k+1) (tG r)=iA cs (k+1) [cI r.id,cI r.code,.isl (r.data.map aJ)]:=rfl
attribute [go_sem] akZ ab7 adG ab5 ab4 ac4 aeP aiZ
def aS (j:Job):List D1:=[cI j.who,cI j.n,cI j.rsp.id,cI j.rsp.code,.isl (j.rsp.data.map aJ)]
theorem aj4 {j:Job}:(aS j).length=5:=rfl
theorem adB {j:Job}:(aS j).take 1=[cI j.who]:=rfl
theorem aeL {j:Job}:(aS j).drop 1=[cI j.n,cI j.rsp.id,cI j.rsp.code,.isl (j.rsp.data.map aJ)]:=rfl
theorem abW {j:Job}:(aS j).take 2=[cI j.who,cI j.n]:=rfl
theorem ad8 {j:Job}:(aS j).drop 2=[cI j.rsp.id,cI j.rsp.code,.isl (j.rsp.data.map aJ)]:=rfl
theorem abZ {j:Job}:(aS j).take 3=[cI j.who,cI j.n,cI j.rsp.id]:=rfl
theorem aeW {j:Job}:(aS j).drop 3=[cI j.rsp.code,.isl (j.rsp.data.map aJ)]:=rfl
theorem aeJ {j:Job}:(aS j).take 4=[cI j.who,cI j.n,cI j.rsp.id,cI j.rsp.code]:=rfl
theorem ae6 {j:Job}:(aS j).drop 4=[.isl (j.rsp.data.map aJ)]:=rfl
theorem aeO {j:Job}:(aS j).take 5=aS j:=rfl
theorem ad1 {j:Job}:(aS j).drop 5=[]:=rfl
theorem ahS {j:Job} {cs:List D1} {k:Nat}:iA cs (k+1) (aS j)=iA cs (k+1) [cI j.who,cI j.n,cI j.rsp.id,cI j.rsp.code,.isl (j.rsp.data.map aJ)]:=rfl
theorem dZ (j:Job):(aS j).length=5∧(aS j).all D1.dQ=true:=⟨rfl,rfl⟩
attribute [go_sem] aj4 adB aeL abW ad8 abZ aeW aeJ ae6 aeO ad1 ahS
def eEv (v:Ev):List D1:=[cI v.kind,cI v.who,cI v.n]
theorem apB {v:Ev}:(eEv v).length=3:=rfl
theorem ai8 {v:Ev}:(eEv v).take 1=[cI v.kind]:=rfl
theorem ai2 {v:Ev}:(eEv v).drop 1=[cI v.who,cI v.n]:=rfl
theorem ahH {v:Ev}:(eEv v).take 2=[cI v.kind,cI v.who]:=rfl
theorem ahK {v:Ev}:(eEv v).drop 2=[cI v.n]:=rfl
theorem ahB {v:Ev}:(eEv v).take 3=eEv v:=rfl
theorem aiS {v:Ev}:(eEv v).drop 3=[]:=rfl
theorem aj8 {v:Ev} {cs:List D1} {k:Nat}:iA cs (k+1) (eEv v)=iA cs (k+1) [cI v.kind,cI v.who,cI v.n]:=rfl
attribute [go_sem] apB ai8 ai2 ahH ahK ahB aiS aj8
abbrev Prog:=List Req
def jR (p:Prog):List D1:=[.isl (p.map eB)]
theorem aiU {p:Prog}:(jR p).length=1:=rfl
theorem ZQ {p:Prog}:(jR p).take 1=[.isl (p.map eB)]:=rfl
theorem ZV {p:Prog}:(jR p).drop 1=[]:=rfl
theorem acV {p:Prog} {cs:List D1} {k:Nat}:iA cs (k+1) (jR p)=iA cs (k+1) [.isl (p.map eB)]:=rfl
theorem iR (p:Prog):(jR p).length=1∧(jR p).all D1.dQ=true:=⟨rfl,rfl⟩
attribute [go_sem] aiU ZQ ZV acV
def cU (c:Cfg):List D1:=[.isl (c.map.map eN),.isl (c.lat.map aJ),.isl (c.cP.map jR)]
theorem akD {c:Cfg}:(cU c).length=3:=rfl
theorem aeV {c:Cfg}:(cU c).take 1=[.isl (c.map.map eN)]:=rfl
theorem aeI {c:Cfg}:(cU c).drop 1=[.isl (c.lat.map aJ),.isl (c.cP.map jR)]:=rfl
theorem abV {c:Cfg}:(cU c).take 2=[.isl (c.map.map eN),.isl (c.lat.map aJ)]:=rfl
theorem adV {c:Cfg}:(cU c).drop 2=[.isl (c.cP.map jR)]:=rfl
theorem aeG {c:Cfg}:(cU c).take 3=cU c:=rfl
theorem acR {c:Cfg}:(cU c).drop 3=[]:=rfl
theorem agU {c:Cfg} {cs:List D1} {k:Nat}:iA cs (k+1) (cU c)=iA cs (k+1) [.isl (c.map.map eN),.isl (c.lat.map aJ),.isl (c.cP.map jR)]:=rfl
attribute [go_sem] akD aeV aeI abV adV aeG acR agU
def o7 (addr many:Int) (wrap:Bool):Prop:=(many=1∨many=2∨many=4)∧(0≤addr∧addr≤63)∧(wrap=true∨addr+many-1≤63)
instance {addr many:Int} {wrap:Bool}:Decidable (o7 addr many wrap):=by unfold o7;infer_instance
def inR (r:Rng) (a:Int):Bool:=decide (r.lo≤a∧a≤r.hi)
def bK {α:Type} (p:α→Bool) (l:List α):Int:=match l.findIdx? p with
 |some k=>k
 |none=>-1
theorem CU {α:Type} [Inhabited α] {p:α→Bool} {l:List α} {k:Nat} (hk:k<l.length) (h:p (l.getD k default)=true) (hinv: ∀i,i<k→p (l.getD i default)=false):bK p l=k:=by
 have:l.findIdx? p=some k:=by
  rw[List.findIdx?_eq_some_iff_getElem]
  refine⟨hk,by simpa [List.getD,hk] using h,fun j hj=> ?_⟩
  have:=hinv j hj
  have hj2:j<l.length:=by omega
  simpa [List.getD,hj2] using this
 simp[bK,this]
theorem tI {α:Type} [Inhabited α] {p:α→Bool} {l:List α} (hinv: ∀i,i<l.length→p (l.getD i default)=false):bK p l= -1:=by
 have:l.findIdx? p=none:=by
  rw[List.findIdx?_eq_none_iff]
  intro x hx
  obtain⟨i,hi,rfl⟩:=List.mem_iff_getElem.1 hx
  have:=hinv i hi
  simpa [List.getD,hi] using this
 simp[bK,this]
theorem PQ {α:Type} {p:α→Bool} {l:List α}:bK p l<l.length:=by
 unfold bK;split
 ·rename_i k h;have:=(List.findIdx?_eq_some_iff_getElem.1 h).1;omega
 ·omega
theorem aoF {α:Type} {p:α→Bool} {l:List α}: -1≤bK p l:=by
 unfold bK;split<;>omega
theorem iS {P:Nat→Prop} {k:Nat} (h: ∀i,i<k→P i) (hk:P k): ∀i,i<k+1→P i:=fun i hi=>by
 rcases Nat.lt_succ_iff_lt_or_eq.1 hi with hi|rfl
 ·exact h i hi
 ·exact hk
def bV (l:List Rng) (all:List Int):Int:=
 if all.length=0 then-1 else if all.all (fun a=>decide (bK (inR · a) l=bK (inR · (all.getD 0 default)) l)) then bK (inR · (all.getD 0 default)) l else-1
theorem adL {l:List Rng} {all:List Int} (h:all.length=0):bV l all= -1:=by simp[bV,h]
theorem RH {l:List Rng} {all:List Int} (h: ¬all.length=0) (hinv: ∀i,i<all.length→1≤i→bK (inR · (all.getD i default)) l=bK (inR · (all.getD 0 default)) l):bV l all=bK (inR · (all.getD 0 default)) l:=by
 unfold bV
 rw[if_neg h,if_pos]
 rw[List.all_eq_true]
 intro a ha
 obtain⟨i,hi,rfl⟩:=List.mem_iff_getElem.1 ha
 rcases Nat.eq_zero_or_pos i with rfl|hp
 ·simp[List.getD,hi]
 ·have:=hinv i hi hp
  simp only[List.getD,hi,List.getElem?_eq_getElem,Option.getD_some] at this
  exact decide_eq_true this
theorem L8 {l:List Rng} {all:List Int} {i:Nat} (h:i<all.length) (hne: ¬bK (inR · (all.getD i default)) l=bK (inR · (all.getD 0 default)) l):bV l all= -1:=by
 unfold bV
 rw[if_neg (by omega),if_neg]
 rw[List.all_eq_true]
 intro hall
 have:=hall (all.getD i default) (by simp[List.getD,h])
 exact hne (of_decide_eq_true this)
def wrM (q:Req):Bool:=decide (q.kind=2∨q.kind=4)
def bAt (addr many:Int) (wrap:Bool) (k:Nat):Int:=if wrap then addr-addr%many+(addr+k)%many else addr+k
def bE (addr many:Int) (wrap:Bool):List Int:=if o7 addr many wrap then (List.range many.toNat).map (bAt addr many wrap) else []
theorem asN {addr many:Int} {wrap:Bool} (h:o7 addr many wrap) (k:Nat):addr-addr.tmod many+(addr-(addr-addr.tmod many)+k).tmod many=addr-addr%many+(addr+k)%many:=by
 obtain⟨h1,h2,h3⟩:=h
 rw[Int.tmod_eq_emod_of_nonneg (by omega)]
 rw[Int.tmod_eq_emod_of_nonneg (by rcases h1 with rfl|rfl|rfl<;>omega)]
 rcases h1 with rfl|rfl|rfl<;>omega
theorem aaA {addr many:Int} {wrap:Bool} (h:o7 addr many wrap): ¬many=0∧0<many∧many≤4∧0≤addr∧addr≤63∧addr.tmod many=addr%many∧0≤addr%many∧addr%many≤addr:=by
 obtain⟨h1,h2,h3⟩:=h
 rw[Int.tmod_eq_emod_of_nonneg (by omega)]
 rcases h1 with rfl|rfl|rfl<;>omega
theorem agW {addr many:Int} {wrap:Bool} (h:o7 addr many wrap) (k:Nat) (hk:k<many.toNat):0≤(addr-(addr-addr%many)+k).tmod many∧(addr-(addr-addr%many)+k).tmod many<4∧addr-addr%many+(addr-(addr-addr%many)+k).tmod many=addr-addr%many+(addr+k)%many:=by
 obtain⟨h1,h2,h3⟩:=h
 rw[Int.tmod_eq_emod_of_nonneg (by rcases h1 with rfl|rfl|rfl<;>omega)]
 rcases h1 with rfl|rfl|rfl<;>omega
theorem aDH {addr many:Int} {wrap:Bool} {k:Nat} {x:Int} (h:x=bAt addr many wrap k):(List.range (k+1)).map (bAt addr many wrap)=(List.range k).map (bAt addr many wrap)++[x]:=by
 rw[List.range_succ,List.map_append,h];rfl
theorem DF {addr many:Int} {wrap:Bool} (h:o7 addr many wrap):(bE addr many wrap).length=many.toNat:=by simp[bE,h]
theorem MK {addr many:Int} {wrap:Bool}:(bE addr many wrap).length≤4:=by
 unfold bE
 split
 ·rename_i h;obtain⟨h1,_⟩:=h;simp;rcases h1 with rfl|rfl|rfl<;>omega
 ·simp
theorem cH {α:Type} {p:α→Bool} {l:List α}:0≤bK p l↔∃x∈l,p x=true:=by
 unfold bK
 split
 ·rename_i k h
  obtain⟨h1,h2,_⟩:=List.findIdx?_eq_some_iff_getElem.1 h
  exact⟨fun _=>⟨_,List.getElem_mem h1,h2⟩,fun _=>by omega⟩
 ·rename_i h
  rw[List.findIdx?_eq_none_iff] at h
  exact⟨fun h=>by omega,fun⟨x,hx,hp⟩=>by rw[h x hx] at hp;cases hp⟩
structure TSt where
 words:List Int
 holds:List Int
 asked:List Int
 wait:List Job
 done:List Job
 told:List Job
 deriving Inhabited,DecidableEq
def eSt (s:TSt):List D1:=[.isl (s.words.map aJ),.isl (s.holds.map aJ),.isl (s.asked.map aJ),.isl (s.wait.map aS),.isl (s.done.map aS),.isl (s.told.map aS)]
theorem an0 {s:TSt}:(eSt s).length=6:=rfl
theorem ahY {s:TSt}:(eSt s).take 1=[.isl (s.words.map aJ)]:=rfl
theorem aiN {s:TSt}:(eSt s).drop 1=[.isl (s.holds.map aJ),.isl (s.asked.map aJ),.isl (s.wait.map aS),.isl (s.done.map aS),.isl (s.told.map aS)]:=rfl
theorem agV {s:TSt}:(eSt s).take 2=[.isl (s.words.map aJ),.isl (s.holds.map aJ)]:=rfl
theorem ai0 {s:TSt}:(eSt s).drop 2=[.isl (s.asked.map aJ),.isl (s.wait.map aS),.isl (s.done.map aS),.isl (s.told.map aS)]:=rfl
theorem ahO {s:TSt}:(eSt s).take 3=[.isl (s.words.map aJ),.isl (s.holds.map aJ),.isl (s.asked.map aJ)]:=rfl
theorem agR {s:TSt}:(eSt s).drop 3=[.isl (s.wait.map aS),.isl (s.done.map aS),.isl (s.told.map aS)]:=rfl
theorem aiD {s:TSt}:(eSt s).take 4=[.isl (s.words.map aJ),.isl (s.holds.map aJ),.isl (s.asked.map aJ),.isl (s.wait.map aS)]:=rfl
theorem ah4 {s:TSt}:(eSt s).drop 4=[.isl (s.done.map aS),.isl (s.told.map aS)]:=rfl
theorem aiP {s:TSt}:(eSt s).take 5=[.isl (s.words.map aJ),.isl (s.holds.map aJ),.isl (s.asked.map aJ),.isl (s.wait.map aS),.isl (s.done.map aS)]:=rfl
theorem ahQ {s:TSt}:(eSt s).drop 5=[.isl (s.told.map aS)]:=rfl
theorem aiK {s:TSt}:(eSt s).take 6=eSt s:=rfl
theorem WQ {s:TSt}:(eSt s).drop 6=[]:=rfl
theorem ajS {s:TSt} {cs:List D1} {k:Nat}:iA cs (k+1) (eSt s)=iA cs (k+1) [.isl (s.words.map aJ),.isl (s.holds.map aJ),.isl (s.asked.map aJ),.isl (s.wait.map aS),.isl (s.done.map aS),.isl (s.told.map aS)]:=rfl
attribute [go_sem] an0 ahY aiN agV ai0 ahO agR aiD ah4 aiP ahQ aiK WQ ajS
def All (l:List Int) (lo up:Int):Prop:=∀x∈l,lo≤x∧x≤up
instance {l:List Int} {lo up:Int}:Decidable (All l lo up):=by unfold All;infer_instance
theorem KP {l:List Int} {lo up:Int}:All l lo up↔¬0≤bK (fun x=>decide (¬(lo≤x∧x≤up))) l:=by
 rw[cH]
 unfold All
 refine⟨fun h ⟨x,hx,hp⟩=>of_decide_eq_true hp (h x hx),fun h x hx=> ?_⟩
 by_cases hc:lo≤x∧x≤up
 ·exact hc
 ·exact absurd ⟨x,hx,decide_eq_true hc⟩ h
def n5 (q:Req):Int:=if q.kind=2∨q.kind=4 then q.many else 0
def dH (q:Req):Prop:=(0≤q.id∧q.id≤1)∧(1≤q.kind∧q.kind≤4)∧o7 q.addr q.many q.wrap∧(q.data.length:Int)=n5 q∧(q.g6.length:Int)=n5 q∧All q.data 0 65535∧All q.g6 0 3∧(q.kind=1∨q.kind=2∨q.many=1)
instance {q:Req}:Decidable (dH q):=by unfold dH;infer_instance
def aaM (q r:Rng):Bool:=decide (q.lo≤r.hi∧r.lo≤q.hi)
def SF (r:Rng):Prop:=(0≤r.lo∧r.lo≤63)∧(r.lo≤r.hi∧r.hi≤63)∧(0≤r.K5∧r.K5≤2)
instance {r:Rng}:Decidable (SF r):=by unfold SF;infer_instance
def V9 (l:List Rng) (i:Nat):Prop:=SF (l.getD i default)∧ ¬0≤bK (fun q=>aaM q (l.getD i default)) (l.take i)
instance {l:List Rng} {i:Nat}:Decidable (V9 l i):=by unfold V9;infer_instance
def DH (l:List Rng):Prop:=(l.length:Int)≤4∧ ∀i,i<l.length→V9 l i
instance {l:List Rng}:Decidable (DH l):=by unfold DH;infer_instance
def mV (p:List Req):Prop:=(p.length:Int)≤12∧ ¬0≤bK (fun q=>decide (¬dH q)) p
instance {p:List Req}:Decidable (mV p):=by unfold mV;infer_instance
def aQ (c:Cfg):Prop:=DH c.map∧(c.lat.length:Int)=4∧All c.lat 0 3∧(c.cP.length:Int)=3∧ ¬0≤bK (fun p=>decide (¬mV p)) c.cP
instance {c:Cfg}:Decidable (aQ c):=by unfold aQ;infer_instance
def JS (w h:List Int):Prop:=((w.length:Int)=64∧All w 0 65535)∧(h.length:Int)=6∧All h (-1) 63
instance {w h:List Int}:Decidable (JS w h):=by unfold JS;infer_instance
structure jO (c:Cfg):Prop where
 map:c.map.length<2^40
 lat:c.lat.length<2^40
 cP:c.cP.length<2^40
 prog: ∀p∈c.cP,p.length<2^40
 req: ∀p∈c.cP,∀q∈p,q.data.length<2^40∧q.g6.length<2^40
def bT (c:Cfg) (who n:Int):Req:=(c.cP.getD who.toNat default).getD n.toNat default
def oA (c:Cfg) (who n:Int):Prop:=(0≤who∧who≤2)∧0≤n∧n≤(c.cP.getD who.toNat default).length-1
instance {c:Cfg} {who n:Int}:Decidable (oA c who n):=by unfold oA;infer_instance
def iM (who n:Int) (j:Job):Bool:=decide (j.who=who∧j.n=n)
theorem jO.at {c:Cfg} (h:jO c) (k:Nat):(c.cP.getD k default).length<2^40:=by
 by_cases hk:k<c.cP.length
 ·exact h.prog _ (by simp[List.getD,hk])
 ·have:c.cP.getD k default=[]:=by simp[List.getD,hk];rfl
  rw[this];decide
end Go.AM
end
section
namespace Go.AM
structure azJ (c:Cfg) (s:TSt):Prop where
 words:s.words.length=64
 holds:s.holds.length=6
 asked:s.asked.length=3
 qU:s.wait.length<2^21
 uQ:s.done.length<2^21
 az1:s.told.length<2^21
 wait: ∀j∈s.wait,oA c j.who j.n
 done: ∀j∈s.done,oA c j.who j.n
 told: ∀j∈s.told,oA c j.who j.n
end Go.AM
end
section
namespace Go.AM
theorem agE {j:Job}:[cI j.who,cI j.n,cI j.rsp.id,cI j.rsp.code,.isl (j.rsp.data.map aJ)]=aS j:=rfl
theorem ai7 {r:Rsp}:[cI r.id,cI r.code,.isl (r.data.map aJ)]=tG r:=rfl
def uL (a b:Job):Bool:=decide (a.who<b.who∨(a.who=b.who∧a.n<b.n))
def BM (l:List Job) (j:Job):List Job:=l.take (l.findIdx (uL j))++j::l.drop (l.findIdx (uL j))
def aN7 (l:List Job) (j:Job) (f k:Nat):List Job:=if k≤f then l.take k else l.take f++j::(l.take k).drop f
theorem nK {α:Type} [Inhabited α] {l:List α} {k:Nat} (h:k<l.length):l.take (k+1)=l.take k++[l.getD k default]:=by
 rw[List.take_succ_eq_append_getElem h];simp[List.getD,h]
theorem aT3 {l:List Job} {j:Job} {f k:Nat} (h:k<l.length) (hf:k<f):aN7 l j f (k+1)=aN7 l j f k++[l.getD k default]:=by
 unfold aN7
 rw[if_pos (by omega),if_pos (by omega),nK h]
theorem aT6 {l:List Job} {j:Job} {f k:Nat} (h:k<l.length) (hf:k=f):aN7 l j f (k+1)=(aN7 l j f k++[j])++[l.getD k default]:=by
 subst hf
 unfold aN7
 rw[if_neg (by omega),if_pos (Nat.le_refl _),nK h,List.drop_append_of_le_length (by simp;omega)]
 rw[List.drop_of_length_le (by simp;omega)]
 simp
theorem aT8 {l:List Job} {j:Job} {f k:Nat} (h:k<l.length) (hf:f<k):aN7 l j f (k+1)=aN7 l j f k++[l.getD k default]:=by
 unfold aN7
 rw[if_neg (by omega),if_neg (by omega),nK h,List.drop_append_of_le_length (by simp;omega)]
 simp
theorem aTU {l:List Job} {j:Job} {f k:Nat} (h:k≤l.length):(aN7 l j f k).length≤k+1:=by
 unfold aN7;split<;>simp<;>omega
theorem aTW {l:List Job} {j:Job} (hf:l.findIdx (uL j)<l.length):aN7 l j (l.findIdx (uL j)) l.length=BM l j:=by
 unfold aN7 BM;rw[if_neg (by omega)];simp
theorem aTO {l:List Job} {j:Job} (hf: ¬l.findIdx (uL j)<l.length):aN7 l j (l.findIdx (uL j)) l.length++[j]=BM l j:=by
 have:l.findIdx (uL j)=l.length:=by have:=List.findIdx_le_length (p:=uL j) (xs:=l);omega
 unfold aN7 BM;rw[this];simp
theorem aT2 {l:List Job} {j:Job} {k:Nat} (h:k<l.length) (hk:k≤l.findIdx (uL j)):uL j (l.getD k default)=true↔k=l.findIdx (uL j):=by
 have hg:l.getD k default=l[k]:=by simp[List.getD,h]
 rw[hg]
 constructor
 ·intro hb
  have: ¬k<l.findIdx (uL j):=fun hlt=>by
   have:=List.not_of_lt_findIdx hlt
   simp[hb] at this
  omega
 ·intro he
  have hlt:l.findIdx (uL j)<l.length:=by omega
  have:=List.findIdx_getElem (w:=hlt)
  subst he
  simpa using this
end Go.AM
end
section
namespace Go.AM
def eU8 (x:Int):List D1:=[.v (.int .u8 x)]
attribute [go_sem] eU8
structure kZ (l:List Int):Prop where
 len:l.length<2^40
 byte: ∀x∈l,0≤x∧x<256
theorem kZ.at {l:List Int} (h:kZ l) (k:Nat):0≤l.getD k default∧l.getD k default<256:=by
 by_cases hk:k<l.length
 ·exact h.byte _ (by simp[List.getD,hk])
 ·have:l.getD k default=0:=by simp[List.getD,hk]
  omega
end Go.AM
end
section
namespace Go.AM
theorem cC {α:Type} [Inhabited α] {l:List α} {k:Nat} (h:k<l.length):l.getD k default∈l:=by simp[List.getD,h]
def oW:Rsp:=⟨0,0,[]⟩
def xZ (old new g6:Int):Int:=(if g6/2=1 then new/256 else old/256)*256+(if g6%2=1 then new%256 else old%256)
def FV (w all data g6:List Int):Nat→List Int
 |0=>w
 |k+1=>(FV w all data g6 k).set (all.getD k default).toNat (xZ ((FV w all data g6 k).getD (all.getD k default).toNat default) (data.getD k default) (g6.getD k default))
def iU (h all:List Int):List Int:=h.map fun x=>if x∈all then-1 else x
def doM (m:List Rng) (w h:List Int) (who:Int) (q:Req):(List Int×List Int)×Rsp:=
 if bV m (bE q.addr q.many q.wrap)<0 then ((w,h),⟨q.id,4,[]⟩) else
 if wrM q=true∧(m.getD (bV m (bE q.addr q.many q.wrap)).toNat default).only=true then ((w,h),⟨q.id,3,[]⟩) else
 if q.kind=1 then ((w,h),⟨q.id,1,(bE q.addr q.many q.wrap).map fun a=>w.getD a.toNat default⟩) else
 if q.kind=3 then ((w,h.set (who*2+q.id).toNat q.addr),⟨q.id,2,(bE q.addr q.many q.wrap).map fun a=>w.getD a.toNat default⟩) else
 if q.kind=4∧ ¬h.getD (who*2+q.id).toNat default=q.addr then ((w,h),⟨q.id,1,[]⟩) else
 ((FV w (bE q.addr q.many q.wrap) q.data q.g6 (bE q.addr q.many q.wrap).length,iU h (bE q.addr q.many q.wrap)),⟨q.id,if q.kind=4 then 2 else 1,[]⟩)
structure WK (w h:List Int):Prop where
 wl:w.length=64
 wr:All w 0 65535
 hl:h.length=6
 hr:All h (-1) 63
def pA (r:Rsp):Prop:=(0≤r.id∧r.id≤1)∧(1≤r.code∧r.code≤4)∧(r.data.length:Int)≤4∧All r.data 0 65535
instance {r:Rsp}:Decidable (pA r):=by unfold pA;infer_instance
def key (j:Job):Int×Int:=(j.who,j.n)
def keys (s:TSt):List (Int×Int):=(s.wait++s.done++s.told).map key
abbrev kW (l:List Job):Prop:=l.Pairwise fun a b=>uL a b=true
structure BA (c:Cfg) (s:TSt):Prop where
 atm:WK s.words s.holds
 JI:s.asked.length=3
 DC: ∀k,k<3→0≤s.asked.getD k default∧s.asked.getD k default≤(c.cP.getD k default).length
 NR:kW s.wait
 NW:kW s.done
 ab8: ∀p∈keys s,(0≤p.1∧p.1≤2)∧0≤p.2∧p.2<s.asked.getD p.1.toNat default
 nodup:(keys s).Nodup
 count:(s.wait.length:Int)+s.done.length+s.told.length=s.asked.getD 0 default+s.asked.getD 1 default+s.asked.getD 2 default
 P4: ∀j∈s.wait,j.rsp=oW
 R8: ∀j∈s.done++s.told,pA j.rsp∧j.rsp.id=(bT c j.who j.n).id
theorem qL {a b:Job}:uL a b=true↔a.who<b.who∨(a.who=b.who∧a.n<b.n):=by simp[uL]
theorem nE (l:List Job) (j:Job):(BM l j).Perm (j::l):=by
 unfold BM
 refine List.perm_middle.trans ?_
 rw[List.take_append_drop]
theorem GK {c:Cfg} {who n:Int} (hb:aQ c) (h:oA c who n):dH (bT c who n):=by
 obtain⟨_,_,_,h4,h5⟩:=hb
 obtain⟨h1,h2,h3⟩:=h
 rw[cH] at h5
 have hk:who.toNat<c.cP.length:=by omega
 have h6:mV (c.cP.getD who.toNat default):=Classical.byContradiction fun hc=>h5 ⟨c.cP.getD who.toNat default,by simp[List.getD,hk],decide_eq_true hc⟩
 have h7:=h6.2
 rw[cH] at h7
 have hn:n.toNat<(c.cP.getD who.toNat default).length:=by omega
 exact Classical.byContradiction fun hc=>h7 ⟨(c.cP.getD who.toNat default).getD n.toNat default,cC hn,decide_eq_true hc⟩
theorem hC {c:Cfg} (hb:aQ c):c.cP.length=3∧ ∀k,(c.cP.getD k default).length≤12:=by
 obtain⟨_,_,_,h4,h5⟩:=hb
 refine⟨by omega,fun k=> ?_⟩
 rw[cH] at h5
 by_cases hk:k<c.cP.length
 ·have h6:mV (c.cP.getD k default):=Classical.byContradiction fun hc=>h5 ⟨c.cP.getD k default,by simp[List.getD,hk],decide_eq_true hc⟩
  have:=h6.1
  omega
 ·have:c.cP.getD k default=[]:=by simp[List.getD,hk];rfl
  rw[this];simp
theorem BA.lens {c:Cfg} {s:TSt} (hb:aQ c) (hs:BA c s):s.wait.length+s.done.length+s.told.length≤36:=by
 have h1:=(hC hb).2
 have h2:=hs.DC 0 (by decide)
 have h3:=hs.DC 1 (by decide)
 have h4:=hs.DC 2 (by decide)
 have h5:=hs.count
 have:=h1 0;have:=h1 1;have:=h1 2
 omega
theorem BA.mem {c:Cfg} {s:TSt} (hs:BA c s) {j:Job} (hj:j∈s.wait++s.done++s.told):oA c j.who j.n:=by
 have h:=hs.ab8 (key j) (List.mem_map.2 ⟨j,hj,rfl⟩)
 simp only[key] at h
 have:=hs.DC j.who.toNat (by omega)
 exact⟨h.1,by omega⟩
theorem BA.fit {c:Cfg} {s:TSt} (hb:aQ c) (hs:BA c s):azJ c s:=by
 have:=hs.lens hb
 exact⟨hs.atm.wl,hs.atm.hl,hs.JI,by omega,by omega,by omega,fun j hj=>hs.mem (by simp[hj]),fun j hj=>hs.mem (by simp[hj]),fun j hj=>hs.mem (by simp[hj])⟩
end Go.AM
end
end
section
namespace Go.AM
end Go.AM
end
section
namespace Go.AM
structure Sam (k:Int) (s s':TSt):Prop where
 asked:s'.asked.getD k.toNat default=s.asked.getD k.toNat default
 wait: ∀n,(k,n)∈s'.wait.map key↔(k,n)∈s.wait.map key
 done: ∀n,(k,n)∈s'.done.map key↔(k,n)∈s.done.map key
theorem Sam.refl {k:Int} {s:TSt}:Sam k s s:=⟨rfl,fun _=>.rfl,fun _=>.rfl⟩
theorem Sam.symm {k:Int} {s s':TSt} (h:Sam k s s'):Sam k s' s:=⟨h.asked.symm,fun n=>(h.wait n).symm,fun n=>(h.done n).symm⟩
theorem Sam.trans {k:Int} {s s' s2:TSt} (h:Sam k s s') (h2:Sam k s' s2):Sam k s s2:=⟨h2.asked.trans h.asked,fun n=>(h2.wait n).trans (h.wait n),fun n=>(h2.done n).trans (h.done n)⟩
end Go.AM
end
section
namespace Go.AM
end Go.AM
end
section
namespace Go.AM
def kP (q:Req):List Int:=bE q.addr q.many q.wrap
def hB (br:Nat) (who:Int) (q:Req) (h:List Int):List Int:=if br=5 then iU h (kP q) else if br=3 then h.set (who*2+q.id).toNat q.addr else h
def u9 (a b:Req):Prop:=∀x∈kP a,x∉kP b
theorem u9.symm {a b:Req} (h:u9 a b):u9 b a:=fun x hx hy=>h x hy hx
def ajR (c:Cfg) (a b:Ev):Prop:=a.who≠b.who∧ ¬(a.kind=3∧b.kind=3)∧(a.kind=2→b.kind=2→u9 (bT c a.who a.n) (bT c b.who b.n))
instance {a b:Req}:Decidable (u9 a b):=by unfold u9;infer_instance
instance {c:Cfg} {a b:Ev}:Decidable (ajR c a b):=by unfold ajR;infer_instance
end Go.AM
end
section
namespace Go.AM
end Go.AM
end
section
namespace Go.AM
end Go.AM
end
section
namespace Go.AM
structure aTQ (s:TSt):Prop where
 words:s.words.length<2^21
 holds:s.holds.length<2^21
 asked:s.asked.length<2^21
 wait:s.wait.length<2^21
 done:s.done.length<2^21
 told:s.told.length<2^21
 data: ∀j∈s.wait++s.done++s.told,j.rsp.data.length<2^21
def InA (asked:List Int) (j:Job):Prop:=(0≤j.who∧j.who≤2)∧0≤j.n∧j.n<asked.getD j.who.toNat default
def as5 (c:Cfg) (j:Job):Prop:=pA j.rsp∧j.rsp.id=(bT c j.who j.n).id
def aTF (c:Cfg) (asked:List Int):Prop:=∀k,k<3→0≤asked.getD k default∧asked.getD k default≤(c.cP.getD k default).length
noncomputable def stB (c:Cfg) (s:TSt):Bool:=@decide (BA c s) (Classical.propDecidable _)
theorem aXJ {c:Cfg} {s:TSt} (h:BA c s):stB c s=true:=by simp[stB,h]
theorem aWH {c:Cfg} {s:TSt} (h: ¬BA c s):stB c s=false:=by simp[stB,h]
noncomputable def tlB (c:Cfg) (s:TSt):Bool:=@decide (aQ c∧BA c s) (Classical.propDecidable _)
theorem aTX {c:Cfg} {s:TSt} (hb:aQ c) (h:BA c s):tlB c s=true:=by simp[tlB,h,hb]
theorem aOH {c:Cfg} {s:TSt} (h: ¬(aQ c∧BA c s)):tlB c s=false:=by simp[tlB,h]
theorem aXH {c:Cfg} {s:TSt} (hb:aQ c):tlB c s=stB c s:=by simp[tlB,stB,hb]
theorem zG {l:List Job} (h:kW l):(l.map key).Nodup:=by
 refine List.pairwise_map.2 (h.imp ?_)
 intro a b hab he
 rw[qL] at hab
 simp only[key,Prod.mk.injEq] at he
 omega
theorem aUA {c:Cfg} {s:TSt} (h1:JS s.words s.holds) (h2:s.asked.length=3) (h3:aTF c s.asked) (h4:kW s.wait) (h5:kW s.done) (h6: ∀j∈s.wait++s.done++s.told,InA s.asked j) (h7:(keys s).Nodup)
 (h8:(s.wait.length:Int)+s.done.length+s.told.length=s.asked.getD 0 default+s.asked.getD 1 default+s.asked.getD 2 default) (h9: ∀j∈s.wait,j.rsp=oW) (h10: ∀j∈s.done++s.told,as5 c j):BA c s:=
 ⟨⟨by have:=h1.1.1;omega,h1.1.2,by have:=h1.2.1;omega,h1.2.2⟩,h2,h3,h4,h5,fun p hp=>by
   obtain⟨j,hj,rfl⟩:=List.mem_map.1 hp
   exact h6 j hj,h7,h8,h9,h10⟩
theorem aS8 {w d t:List Job} (hw:kW w) (hd:kW d) (ht:(t.map key).Nodup) (h1: ∀j∈t,key j∉w.map key∧key j∉d.map key) (h2: ∀j∈d,key j∉w.map key):((w++d++t).map key).Nodup:=by
 rw[List.map_append,List.map_append,List.nodup_append,List.nodup_append]
 refine⟨⟨zG hw,zG hd,fun a ha b hb he=> ?_⟩,ht,fun a ha b hb he=> ?_⟩
 ·obtain⟨j,hj,rfl⟩:=List.mem_map.1 hb
  exact h2 j hj (he▸ha)
 ·obtain⟨j,hj,rfl⟩:=List.mem_map.1 hb
  rcases List.mem_append.1 ha with ha|ha
  ·exact(h1 j hj).1 (he▸ha)
  ·exact(h1 j hj).2 (he▸ha)
theorem ZP {l:List Job} {who n:Int}:0≤bK (iM who n) l↔(who,n)∈l.map key:=by
 rw[cH,List.mem_map]
 refine⟨fun⟨x,hx,h⟩=>⟨x,hx,?_⟩,fun⟨x,hx,h⟩=>⟨x,hx,?_⟩⟩
 ·have:=of_decide_eq_true h;simp[key,this.1,this.2]
 ·simp only[key,Prod.mk.injEq] at h;exact decide_eq_true h
theorem BA.apart {c:Cfg} {s:TSt} (h:BA c s):(s.told.map key).Nodup∧(∀j∈s.told,key j∉s.wait.map key∧key j∉s.done.map key)∧(∀j∈s.done,key j∉s.wait.map key):=by
 have hn:=h.nodup
 unfold keys at hn
 rw[List.map_append,List.map_append,List.nodup_append,List.nodup_append] at hn
 obtain⟨⟨h1,h2,h3⟩,h4,h5⟩:=hn
 refine⟨h4,fun j hj=>⟨fun hm=> ?_,fun hm=> ?_⟩,fun j hj hm=> ?_⟩
 ·exact h5 _ (List.mem_append_left _ hm) _ (List.mem_map_of_mem hj) rfl
 ·exact h5 _ (List.mem_append_right _ hm) _ (List.mem_map_of_mem hj) rfl
 ·exact h3 _ hm _ (List.mem_map_of_mem hj) rfl
structure aPN (c:Cfg) (asked:List Int) (l:List Job) (done:Bool):Prop where
 inA: ∀j∈l,InA asked j
 sorted:kW l
 rsp: ∀j∈l,if done then as5 c j else j.rsp=oW
noncomputable def aPK (c:Cfg) (asked:List Int) (l:List Job) (done:Bool):Bool:=@decide (aPN c asked l done) (Classical.propDecidable _)
theorem aQD {c:Cfg} {asked:List Int} {l:List Job} {done:Bool} (h:aPN c asked l done):aPK c asked l done=true:=by simp[aPK,h]
theorem aSY {c:Cfg} {asked:List Int} {l:List Job} {done:Bool} (h: ¬aPN c asked l done):aPK c asked l done=false:=by simp[aPK,h]
structure aSQ (c:Cfg) (s:TSt):Prop where
 inA: ∀j∈s.told,InA s.asked j
 once:(s.told.map key).Nodup
 rsp: ∀j∈s.told,as5 c j
noncomputable def aRF (c:Cfg) (s:TSt):Bool:=@decide (aSQ c s) (Classical.propDecidable _)
theorem aTM {c:Cfg} {s:TSt} (h:aSQ c s):aRF c s=true:=by simp[aRF,h]
theorem aTL {c:Cfg} {s:TSt} (h: ¬aSQ c s):aRF c s=false:=by simp[aRF,h]
theorem aTG {c:Cfg} {s:TSt} (h1:JS s.words s.holds) (h2:s.asked.length=3) (h3:aTF c s.asked) (h4:aPN c s.asked s.wait false) (h5:aPN c s.asked s.done true) (h6:aSQ c s)
 (h8:(s.wait.length:Int)+s.done.length+s.told.length=s.asked.getD 0 default+s.asked.getD 1 default+s.asked.getD 2 default) (h7: ∀j∈s.told,key j∉s.wait.map key∧key j∉s.done.map key) (h9: ∀j∈s.done,key j∉s.wait.map key):BA c s:=by
 refine aUA h1 h2 h3 h4.sorted h5.sorted (fun j hj=> ?_) (aS8 h4.sorted h5.sorted h6.once h7 h9) h8 (fun j hj=>by simpa using h4.rsp j hj) fun j hj=> ?_
 ·simp only[List.mem_append] at hj
  rcases hj with(hj|hj)|hj
  ·exact h4.inA j hj
  ·exact h5.inA j hj
  ·exact h6.inA j hj
 ·rcases List.mem_append.1 hj with hj|hj
  ·have:=h5.rsp j hj
   rwa [if_pos rfl] at this
  ·exact h6.rsp j hj
theorem BA.inA {c:Cfg} {s:TSt} (h:BA c s): ∀j∈s.wait++s.done++s.told,InA s.asked j:=fun j hj=>h.ab8 (key j) (List.mem_map_of_mem hj)
theorem BA.aUL {c:Cfg} {s:TSt} (h:BA c s):aPN c s.asked s.wait false:=⟨fun j hj=>h.inA j (by simp[hj]),h.NR,fun j hj=>by simpa using h.P4 j hj⟩
theorem BA.aUM {c:Cfg} {s:TSt} (h:BA c s):aPN c s.asked s.done true:=⟨fun j hj=>h.inA j (by simp[hj]),h.NW,fun j hj=>by rw[if_pos rfl];exact h.R8 j (by simp[hj])⟩
theorem BA.aUN {c:Cfg} {s:TSt} (h:BA c s):aSQ c s:=⟨fun j hj=>h.inA j (by simp[hj]),h.apart.1,fun j hj=>h.R8 j (by simp[hj])⟩
theorem aEA {l:List Int} {lo up:Int} (h: ∀i,i<l.length→lo≤l.getD i default∧l.getD i default≤up):All l lo up:=fun x hx=>by
 obtain⟨i,hi,rfl⟩:=List.mem_iff_getElem.1 hx
 simpa [List.getD,hi] using h i hi
theorem aj1 {l:List Int} {lo up:Int} (h:All l lo up) {i:Nat} (hi:i<l.length):lo≤l.getD i default∧l.getD i default≤up:=h _ (by simp[List.getD,hi])
theorem aKJ {α:Type} [Inhabited α] {l:List α} {P:α→Prop} (h: ∀i,i<l.length→P (l.getD i default)): ∀x∈l,P x:=fun x hx=>by
 obtain⟨i,hi,rfl⟩:=List.mem_iff_getElem.1 hx
 simpa [List.getD,hi] using h i hi
end Go.AM
end
section
namespace Go.AM
structure fC where
 who:Int
 n:Int
 left:Int
 deriving Inhabited,DecidableEq
structure fR where
 next:Int
 queue:List Int
 out:List fC
 last:Int
 deriving Inhabited,DecidableEq
structure nY where
 pipe:List fC
 done:List Job
 last:Int
 deriving Inhabited,DecidableEq
structure CSt where
 words:List Int
 holds:List Int
 bM:List fR
 dD:List nY
 told:List Job
 deriving Inhabited,DecidableEq
structure CIn where
 ready:List Bool
 n9:List Bool
 send:List Bool
 deriving Inhabited,DecidableEq
def gZ (m:List Rng) (q:Req):Int:=if bV m (bE q.addr q.many q.wrap)<0 then 3 else (m.getD (bV m (bE q.addr q.many q.wrap)).toNat default).K5
def aF (s:CSt) (k:Nat):fR:=s.bM.getD k default
def aL (s:CSt) (k:Nat):nY:=s.dD.getD k default
def jX (l:List Job):List Job:=l.foldl BM []
def jJ (s:CSt) (k:Nat):List Job:=(aF s k).queue.map fun n=>⟨k,n,oW⟩
def hJ (s:CSt) (k:Nat):List Job:=(aL s k).pipe.map fun j=>⟨j.who,j.n,oW⟩
def qU (s:CSt):List Job:=(List.range s.bM.length).flatMap (jJ s)++(List.range s.dD.length).flatMap (hJ s)
def uQ (s:CSt):List Job:=(List.range s.dD.length).flatMap fun k=>(aL s k).done
def cX (s:CSt):TSt:=⟨s.words,s.holds,s.bM.map (·.next),jX (qU s),jX (uQ s),s.told⟩
def B3 {α:Type} (l:List α) (k:Nat):List α:=l.take k++l.drop (k+1)
def isC (n:Int) (j:fC):Bool:=decide (j.n=n)
def PE (l:List fC) (n:Int):List fC:=B3 l (bK (isC n) l).toNat
inductive Mic where
 |tell (who st:Nat)
 |tick (st:Nat)
 |work (st:Nat)
 |adm (who st:Nat)
 |ask (who:Nat)
def HV (c:Cfg) (s:CSt) (who st:Nat):Prop:=0<(aF s who).queue.length∧(aF s who).out.length<4∧gZ c.map (bT c who ((aF s who).queue.getD 0 default))=st∧
 ∀j∈(aF s who).out,(bT c who j.n).id=(bT c who ((aF s who).queue.getD 0 default)).id→j.left=st
instance {c:Cfg} {s:CSt} {who st:Nat}:Decidable (HV c s who st):=by unfold HV;infer_instance
def iF (s:CSt) (st:Nat):Job:=(aL s st).done.getD 0 default
def bI (s:CSt) (st:Nat):fC:=(aL s st).pipe.getD 0 default
def jD (c:Cfg) (s:CSt) (st:Nat):(List Int×List Int)×Rsp:=doM c.map s.words s.holds (bI s st).who (bT c (bI s st).who (bI s st).n)
def aR (c:Cfg) (s:CSt):Mic→CSt
 | .tell who st=>{s with told:=s.told++[iF s st],dD:=s.dD.set st {aL s st with done:=(aL s st).done.drop 1},bM:=s.bM.set who {aF s who with out:=PE (aF s who).out (iF s st).n,last:=st}}
 | .tick st=>{s with dD:=s.dD.set st {aL s st with pipe:=(aL s st).pipe.set 0 {bI s st with left:=(bI s st).left-1}}}
 | .work st=>{s with words:=(jD c s st).1.1,holds:=(jD c s st).1.2,dD:=s.dD.set st {aL s st with pipe:=(aL s st).pipe.drop 1,done:=(aL s st).done++[⟨(bI s st).who,(bI s st).n,(jD c s st).2⟩]}}
 | .adm who st=>{s with bM:=s.bM.set who {aF s who with queue:=(aF s who).queue.drop 1,out:=(aF s who).out++[⟨who,(aF s who).queue.getD 0 default,st⟩]},dD:=s.dD.set st {aL s st with pipe:=(aL s st).pipe++[⟨who,(aF s who).queue.getD 0 default,c.lat.getD st default⟩],last:=who}}
 | .ask who=>{s with bM:=s.bM.set who {aF s who with queue:=(aF s who).queue++[(aF s who).next],next:=(aF s who).next+1}}
def y0 (s:CSt):Mic→List Ev
 | .tell who st=>[⟨3,who,(iF s st).n⟩]
 | .work st=>[⟨2,(bI s st).who,(bI s st).n⟩]
 | .ask who=>[⟨1,who,(aF s who).next⟩]
 |_=>[]
theorem fH (l:List Job):(jX l).Perm l:=by
 have h: ∀(l acc:List Job),(l.foldl BM acc).Perm (acc++l):=by
  intro l
  induction l with
  |nil=>intro acc;simp
  |cons x l ih=>
   intro acc
   simp only[List.foldl_cons]
   refine(ih _).trans ?_
   refine((nE acc x).append_right l).trans ?_
   simpa using List.perm_middle.symm
 simpa [jX] using h l []
end Go.AM
end
section
namespace Go.AM
theorem pY {α:Type} [Inhabited α] {l:List α} {k i:Nat} {x:α} (hk:k<l.length):(l.set k x).getD i default=if i=k then x else l.getD i default:=by
 simp only[List.getD,List.getElem?_set]
 by_cases h:k=i
 ·subst h;simp[hk]
 ·simp[h,Ne.symm h,eq_comm]
structure mD (c:Cfg) (who:Nat) (p:fR):Prop where
 next:0≤p.next∧p.next≤(c.cP.getD who default).length
 ql:p.queue.length≤2∧(p.queue.length:Int)≤p.next
 ol:p.out.length≤4
 last:0≤p.last∧p.last≤3
 queue: ∀i,i<p.queue.length→p.queue.getD i default=p.next-p.queue.length+i
 out: ∀j∈p.out,j.who=who∧(0≤j.n∧j.n<p.next-p.queue.length)∧j.left=gZ c.map (bT c who j.n)
 acX:p.out.Pairwise fun a b=>a.n<b.n
 akF: ∀a∈p.out,∀b∈p.out,(bT c who a.n).id=(bT c who b.n).id→a.left=b.left
def cS (v:nY):List (Int×Int):=v.done.map key++v.pipe.map fun j=>(j.who,j.n)
structure Z0 (c:Cfg) (s:CSt) (st:Nat):Prop where
 pl:(aL s st).pipe.length≤2
 dl:(aL s st).done.length≤2
 last:0≤(aL s st).last∧(aL s st).last≤2
 inc:(cS (aL s st)).Pairwise fun a b=>a.1=b.1→a.2<b.2
 out: ∀x∈cS (aL s st),(0≤x.1∧x.1≤2)∧ ∃j∈(aF s x.1.toNat).out,j.n=x.2∧j.left=st
 rsp: ∀j∈(aL s st).done,as5 c j
 left: ∀i,i<(aL s st).pipe.length→(0≤((aL s st).pipe.getD i default).left∧((aL s st).pipe.getD i default).left≤c.lat.getD st default)∧(0<i→((aL s st).pipe.getD i default).left=c.lat.getD st default)
def hU (s:CSt) (k:Nat):Nat:=(aL s k).pipe.length+(aL s k).done.length
structure COk (c:Cfg) (s:CSt):Prop where
 atm:WK s.words s.holds
 pl:s.bM.length=3
 sl:s.dD.length=4
 port: ∀k,k<3→mD c k (aF s k)
 slv: ∀k,k<4→Z0 c s k
 count:(aF s 0).out.length+(aF s 1).out.length+(aF s 2).out.length=hU s 0+hU s 1+hU s 2+hU s 3
 st:BA c (cX s)
theorem wU {s:CSt} {j:Job}:j∈qU s↔(∃k,k<s.bM.length∧ ∃m∈(aF s k).queue,j=⟨k,m,oW⟩)∨(∃st,st<s.dD.length∧ ∃x∈(aL s st).pipe,j=⟨x.who,x.n,oW⟩):=by
 unfold qU jJ hJ
 simp only[List.mem_append,List.mem_flatMap,List.mem_range,List.mem_map]
 constructor
 ·rintro(⟨k,hk,m,hm,rfl⟩|⟨st,hs,x,hx,rfl⟩)
  ·exact .inl ⟨k,hk,m,hm,rfl⟩
  ·exact .inr ⟨st,hs,x,hx,rfl⟩
 ·rintro(⟨k,hk,m,hm,rfl⟩|⟨st,hs,x,hx,rfl⟩)
  ·exact .inl ⟨k,hk,m,hm,rfl⟩
  ·exact .inr ⟨st,hs,x,hx,rfl⟩
theorem BU {s:CSt} {j:Job}:j∈uQ s↔∃st,st<s.dD.length∧j∈(aL s st).done:=by
 unfold uQ
 simp only[List.mem_flatMap,List.mem_range]
theorem mD.asks {c:Cfg} {who:Nat} {p:fR} (h:mD c who p) (hw:who<3) {n:Int} (h0:0≤n) (h1:n<p.next):oA c who n:=by
 have:=h.next
 refine⟨by omega,h0,?_⟩
 rw[Int.toNat_natCast];omega
theorem COk.vIn {c:Cfg} {s:CSt} (h:COk c s) {st:Nat} (hs:st<4) {x:Int×Int} (hx:x∈cS (aL s st)):(0≤x.1∧x.1≤2)∧0≤x.2∧x.2<(aF s x.1.toNat).next-(aF s x.1.toNat).queue.length:=by
 obtain⟨h1,j,hj,h2,h3⟩:=(h.slv st hs).out x hx
 have:=(h.port x.1.toNat (by omega)).out j hj
 exact⟨h1,by omega,by omega⟩
theorem COk.same {c:Cfg} {s:CSt} (h:COk c s) {st st':Nat} (hs:st<4) (hs':st'<4) {x y:Int×Int} (hx:x∈cS (aL s st)) (hy:y∈cS (aL s st')) (he:x.1=y.1) (hi:(bT c x.1 x.2).id=(bT c y.1 y.2).id):st=st':=by
 obtain⟨h1,j,hj,h2,h3⟩:=(h.slv st hs).out x hx
 obtain⟨h4,j',hj',h5,h6⟩:=(h.slv st' hs').out y hy
 have hp:=h.port x.1.toNat (by omega)
 rw[←he] at hj'
 have:=hp.akF j hj j' hj' (by
  have e1:((x.1.toNat:Nat):Int)=x.1:=by omega
  rw[e1,h2,h5,hi,he])
 omega
theorem BF {l:List Job} {j:Job}:j∈jX l↔j∈l:=(fH l).mem_iff
end Go.AM
end
section
namespace Go.AM
end Go.AM
end
section
namespace Go.AM
theorem akU {α:Type} {l:List α} {k:Nat}:(B3 l k).Sublist l:=by
 unfold B3
 have h:=(List.Sublist.refl (l.take k)).append (List.drop_sublist_drop_left l (Nat.le_succ k))
 rwa [List.take_append_drop] at h
theorem ajV {α:Type} [Inhabited α] {p:α→Bool} {l:List α} (h:0≤bK p l):(bK p l).toNat<l.length∧p (l.getD (bK p l).toNat default)=true:=by
 have h1:=PQ (p:=p) (l:=l)
 refine⟨by omega,?_⟩
 unfold bK at*
 split at h
 ·rename_i i hi
  have:=List.findIdx?_eq_some_iff_getElem.1 hi
  obtain⟨q1,q2,_⟩:=this
  simpa [List.getD,q1] using q2
 ·omega
theorem PJ {l:List fC} {n:Int} (h: ∃j∈l,j.n=n):(bK (isC n) l).toNat<l.length∧(l.getD (bK (isC n) l).toNat default).n=n:=by
 obtain⟨j,hj,hn⟩:=h
 have h1:0≤bK (isC n) l:=cH.2 ⟨j,hj,by simp[isC,hn]⟩
 obtain⟨q1,q2⟩:=ajV h1
 exact⟨q1,by simpa [isC] using q2⟩
theorem TA {l:List fC} {n:Int}:(PE l n).Sublist l:=akU
theorem QF {α:Type} [Inhabited α] {l:List α} {i:Nat}:(l.drop 1).getD i default=l.getD (i+1) default:=by
 cases l with
 |nil=>simp
 |cons x l=>simp
theorem WI {α:Type} [Inhabited α] {l:List α} {x:α} {i:Nat}:(l++[x]).getD i default=if i=l.length then x else l.getD i default:=by
 simp only[List.getD,List.getElem?_append]
 split
 ·rw[if_neg (by omega)]
 ·split
  ·rename_i h;subst h;simp
  ·rename_i h1 h2
   rw[List.getElem?_eq_none (by simp;omega),List.getElem?_eq_none (by omega)]
theorem ZO {l:List fC} (h:l.Pairwise fun a b=>a.n<b.n) {a b:fC} (ha:a∈l) (hb:b∈l) (he:a.n=b.n):a=b:=by
 induction l with
 |nil=>simp at ha
 |cons x l ih=>
  rw[List.pairwise_cons] at h
  rcases List.mem_cons.1 ha with e1|h1
  ·rcases List.mem_cons.1 hb with e2|h2
   ·rw[e1,e2]
   ·have:=h.1 b h2;rw[e1] at he;omega
  ·rcases List.mem_cons.1 hb with e2|h2
   ·have:=h.1 a h1;rw[e2] at he;omega
   ·exact ih h.2 h1 h2
theorem S0 {c:Cfg} (hb:aQ c) {st:Nat} (h:st<4):0≤c.lat.getD st default∧c.lat.getD st default≤3:=aj1 hb.2.2.1 (by have:=hb.2.1;omega)
theorem Z0.wT {c:Cfg} {s s':CSt} {st:Nat} (h:Z0 c s st) (he:aL s' st=aL s st) (ho: ∀x∈cS (aL s st),∀j∈(aF s x.1.toNat).out,j.n=x.2→j.left=st→j∈(aF s' x.1.toNat).out):Z0 c s' st:=by
 refine⟨by rw[he];exact h.pl,by rw[he];exact h.dl,by rw[he];exact h.last,by rw[he];exact h.inc,fun x hx=> ?_,by rw[he];exact h.rsp,by rw[he];exact h.left⟩
 rw[he] at hx
 obtain⟨q1,j,q2,q3,q4⟩:=h.out x hx
 exact⟨q1,j,ho x hx j q2 q3 q4,q3,q4⟩
theorem mD.tell {c:Cfg} {who:Nat} {p:fR} (h:mD c who p) {n:Int} {st:Nat} (hs:st<4):mD c who {p with out:=PE p.out n,last:=st}:=by
 have hm: ∀j∈PE p.out n,j∈p.out:=fun j hj=>TA.subset hj
 exact⟨h.next,h.ql,Nat.le_trans TA.length_le h.ol,by dsimp only;omega,h.queue,fun j hj=>h.out j (hm j hj),h.acX.sublist TA,fun a ha b hb=>h.akF a (hm a ha) b (hm b hb)⟩
theorem mD.adm {c:Cfg} {who:Nat} {p:fR} (h:mD c who p) {st:Nat} (h1:0<p.queue.length) (h2:p.out.length<4) (h3:gZ c.map (bT c who (p.queue.getD 0 default))=st)
 (h4: ∀j∈p.out,(bT c who j.n).id=(bT c who (p.queue.getD 0 default)).id→j.left=st):mD c who {p with queue:=p.queue.drop 1,out:=p.out++[⟨who,p.queue.getD 0 default,st⟩]}:=by
 have hq0:=h.queue 0 h1
 have hn:=h.next
 have hql:=h.ql
 have hl:(p.queue.drop 1).length=p.queue.length-1:=by simp
 refine⟨hn,by dsimp only;omega,by simp;omega,h.last,fun i hi=> ?_,fun j hj=> ?_,?_,fun a ha b hb hab=> ?_⟩
 ·dsimp only at hi ⊢
  rw[QF,h.queue (i+1) (by omega)];omega
 ·dsimp only at hj ⊢
  rcases List.mem_append.1 hj with hj|hj
  ·have:=h.out j hj
   exact⟨this.1,by omega,this.2.2⟩
  ·simp only[List.mem_singleton] at hj
   subst hj
   exact⟨rfl,by dsimp only;omega,h3.symm⟩
 ·dsimp only
  rw[List.pairwise_append]
  refine⟨h.acX,by simp,fun a ha b hb=> ?_⟩
  simp only[List.mem_singleton] at hb
  subst hb
  have:=(h.out a ha).2.1
  dsimp only;omega
 ·dsimp only at ha hb
  rcases List.mem_append.1 ha with ha|ha<;>rcases List.mem_append.1 hb with hb|hb
  ·exact h.akF a ha b hb hab
  ·simp only[List.mem_singleton] at hb;subst hb;exact h4 a ha hab
  ·simp only[List.mem_singleton] at ha;subst ha;exact(h4 b hb hab.symm).symm
  ·simp only[List.mem_singleton] at ha hb;subst ha;subst hb;rfl
theorem mD.ask {c:Cfg} {who:Nat} {p:fR} (h:mD c who p) (h1:p.queue.length<2) (h2:p.next<(c.cP.getD who default).length):mD c who {p with queue:=p.queue++[p.next],next:=p.next+1}:=by
 have hn:=h.next
 have hql:=h.ql
 refine⟨by dsimp only;omega,by simp;omega,h.ol,h.last,fun i hi=> ?_,fun j hj=> ?_,h.acX,h.akF⟩
 ·simp only[List.length_append,List.length_singleton] at hi ⊢
  rw[WI]
  split
  ·omega
  ·rw[h.queue i (by omega)];omega
 ·have:=h.out j hj
  refine⟨this.1,?_,this.2.2⟩
  simp only[List.length_append,List.length_singleton];omega
end Go.AM
end
section
namespace Go.AM
def dR (c:Cfg) (s:CSt) (l:List Mic):CSt:=l.foldl (aR c) s
def iP (c:Cfg):CSt→List Mic→List Ev
 |_,[]=>[]
 |s,m::l=>y0 s m++iP c (aR c s m) l
def sM (s:CSt) (st k:Nat):Nat:=(((aL s st).last+(k:Int))%3).toNat
def KE (c:Cfg) (s:CSt) (used:List Bool) (st who:Nat):Bool:= !(used.getD who default)&&decide (HV c s who st)
def AO (c:Cfg) (s:CSt) (used:List Bool) (st:Nat):Option Nat:=if (aL s st).pipe.length<2 then ([1,2,3].map (sM s st)).find? (KE c s used st) else none
def vE (c:Cfg) (f:CSt→Nat→Option Mic):CSt→List Nat→List Mic
 |_,[]=>[]
 |s,k::l=>match f s k with
  |none=>vE c f s l
  |some m=>m::vE c f (aR c s m) l
def oP (c:Cfg):CSt→List Bool→List Nat→List Mic
 |_,_,[]=>[]
 |s,u,st::l=>match AO c s u st with
  |none=>oP c s u l
  |some who=>.adm who st::oP c (aR c s (.adm who st)) (u.set who true) l
end Go.AM
end
section
namespace Go.AM
end Go.AM
end
section
namespace Go.AM
end Go.AM
end
section
namespace Go.AM
end Go.AM
end
