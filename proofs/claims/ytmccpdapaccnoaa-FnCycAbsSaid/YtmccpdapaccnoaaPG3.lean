/- Texts laid together by a program: rules, contracts and the walk that leads to the law. -/
import Derived.Test.YtmccpdapaccnoaaPG2
import Derived.Lib.Overlaps
import Derived.Test.YtmccpdapaccnoaaProg
set_option linter.unusedVariables false
set_option linter.unusedSimpArgs false
set_option linter.unusedSectionVars false
section
section
namespace Go.AM
open Go.RowKit
def cK (A B:Prop):D→Prop
 | .one (.c (.v (.bool t)))=>(t=true→A)∧(t=false→B)
 |_=>False
section
variable {P : Program} {T : Nat} {b : Nat} {live : List Nat} {K : Env → aA → Nat → Prop} {L : List aY} {dst : Option Nat} {e : Env} {H : aA} {nx : Nat} {S : dJ} {Q : AQ} {x y z : AC} {zs : List AC}
theorem aM.ar8 {c:aT} (h: ∀A B:Prop,(aM P T (x::zs) e H nx Q→A)→(aM P T (y::zs) e H nx Q→B)→cK A B (c.ev e)):aM P T (.cond c x y::zs) e H nx Q:=by
 have h:=h _ _ id id
 unfold cK at h
 split at h
 ·rename_i t ht
  exact aM.cond ht h.1 h.2
 ·exact h.elim
theorem atF {A B:Prop}:cK A B (.one (.c (.v (.bool true))))=A:=by simp[cK]
theorem as8 {A B:Prop}:cK A B (.one (.c (.v (.bool false))))=B:=by simp[cK]
theorem atC {A B:Prop} {t:Bool} (h1:t=true→A) (h2:t=false→B):cK A B (.one (.c (.v (.bool t)))):=⟨h1,h2⟩
theorem asU {A B:Prop} {p:Prop} [Decidable p] (h:p) (h1:A):cK A B (.one (.c (.v (.bool (decide p))))):=⟨fun _=>h1,fun h2=>by simp[h] at h2⟩
theorem ar9 {A B:Prop} {p:Prop} [Decidable p] (h: ¬p) (h1:B):cK A B (.one (.c (.v (.bool (decide p))))):=⟨fun h2=>by simp[h] at h2,fun _=>h1⟩
theorem atE {A B:Prop} {p:Prop} [Decidable p] (h1:p→A) (h2: ¬p→B):cK A B (.one (.c (.v (.bool (decide p))))):=⟨fun h=>h1 (by simpa using h),fun h=>h2 (by simpa using h)⟩
def wvH (P:Program) (b:Nat) (live:List Nat) (K:Env→aA→Nat→Prop) (o:aY) (L:List aY) (t:Nat) (w:Bool) (e:Env) (H:aA) (nx:Nat) (S:dJ):D→Prop
 | .one (.c (.v (.bool x)))=>if x=w then wv P b live K (o::L) (e.set t (.one (.c (.v (.bool x))))) H nx S else wv P b live K L ((e.set t (.one (.c (.v (.bool x))))).put o.dst (.tup [])) H nx S
 | .tup []=>wv P b live K L (e.put o.dst (.tup [])) H nx S
 |_=>False
theorem Env.amG {e:Env} {t:Nat} {d:D} (h:e t=d):e.set t d=e:=by
 funext i;simp only[Env.set];split
 ·rename_i hi;rw[hi,h]
 ·rfl
theorem atA {ix t:Nat} {w:Bool} {op:AOp} {m s:List Nat} {k:Bool}:wv P b live K (⟨ix,dst,op,some (t,w),m,s,k⟩::L) e H nx S=wvH P b live K ⟨ix,dst,op,none,m,s,k⟩ L t w e H nx S (e t):=by
 rw[as9]
 generalize he:e t=d
 by_cases hd: ∃x,d= .one (.c (.v (.bool x)))
 ·obtain⟨x,rfl⟩:=hd
  simp only[wvG,wvH]
  rw[Env.amG he]
 ·by_cases hu:d= .tup []
  ·subst hu;rfl
  ·unfold wvG wvH
   split
   ·exact absurd ⟨_,rfl⟩ hd
   ·exact absurd rfl hu
   ·split
    ·exact absurd ⟨_,rfl⟩ hd
    ·exact absurd rfl hu
    ·rfl
theorem ar6 {o:aY} {t:Nat} {w:Bool}:wvH P b live K o L t w e H nx S (.tup [])=wv P b live K L (e.put o.dst (.tup [])) H nx S:=rfl
theorem arM {o:aY} {t:Nat}:wvH P b live K o L t true e H nx S (.one (.c (.v (.bool true))))=wv P b live K (o::L) (e.set t (.one (.c (.v (.bool true))))) H nx S:=rfl
theorem aqK {o:aY} {t:Nat}:wvH P b live K o L t true e H nx S (.one (.c (.v (.bool false))))=wv P b live K L ((e.set t (.one (.c (.v (.bool false))))).put o.dst (.tup [])) H nx S:=rfl
theorem aqZ {o:aY} {t:Nat}:wvH P b live K o L t false e H nx S (.one (.c (.v (.bool true))))=wv P b live K L ((e.set t (.one (.c (.v (.bool true))))).put o.dst (.tup [])) H nx S:=rfl
theorem aqF {o:aY} {t:Nat}:wvH P b live K o L t false e H nx S (.one (.c (.v (.bool false))))=wv P b live K (o::L) (e.set t (.one (.c (.v (.bool false))))) H nx S:=rfl
theorem ap6 {o:aY} {t:Nat} {w u:Bool} (h1:u=true→wvH P b live K o L t w e H nx S (.one (.c (.v (.bool true))))) (h2:u=false→wvH P b live K o L t w e H nx S (.one (.c (.v (.bool false))))):
 wvH P b live K o L t w e H nx S (.one (.c (.v (.bool u)))):=by
 cases u with
 |true=>exact h1 rfl
 |false=>exact h2 rfl
theorem aqG {o:aY} {t:Nat} {w:Bool} {p:Prop} [Decidable p] (h:p) (h1:wvH P b live K o L t w e H nx S (.one (.c (.v (.bool true))))):wvH P b live K o L t w e H nx S (.one (.c (.v (.bool (decide p))))):=by
 rw[decide_eq_true h];exact h1
theorem arS {o:aY} {t:Nat} {w:Bool} {p:Prop} [Decidable p] (h: ¬p) (h1:wvH P b live K o L t w e H nx S (.one (.c (.v (.bool false))))):wvH P b live K o L t w e H nx S (.one (.c (.v (.bool (decide p))))):=by
 rw[decide_eq_false h];exact h1
theorem asQ {o:aY} {t:Nat} {w:Bool} {p:Prop} [Decidable p] (h1:p→wvH P b live K o L t w e H nx S (.one (.c (.v (.bool true))))) (h2: ¬p→wvH P b live K o L t w e H nx S (.one (.c (.v (.bool false))))):
 wvH P b live K o L t w e H nx S (.one (.c (.v (.bool (decide p))))):=
 ap6 (fun h=>h1 (by simpa using h)) (fun h=>h2 (by simpa using h))
theorem am5 {ix:Nat} {z:List D1} {m s:List Nat} {k:Bool}:wv P b live K (⟨ix,dst,.alloc z,none,m,s,k⟩::L) e H nx S=wvA P b live K L dst (b+ix) e H nx S (lT (b+ix) e (.alloc z)):=am2 rfl
theorem aqH {ix:Nat} {g:Bool} {x:aT} {m s:List Nat} {k:Bool}:wv P b live K (⟨ix,dst,.box g x,none,m,s,k⟩::L) e H nx S=wvA P b live K L dst (b+ix) e H nx S (lT (b+ix) e (.box g x)):=am2 rfl
theorem ag2 {ix n len:Nat} {z:List D1} {ps:List (Nat×Nat×aT)} {m s:List Nat} {k:Bool}:wv P b live K (⟨ix,dst,.bC n len z ps,none,m,s,k⟩::L) e H nx S=wvA P b live K L dst (b+ix) e H nx S (lT (b+ix) e (.bC n len z ps)):=am2 rfl
theorem abU {ix n:Nat} {z:List D1} {x y:aT} {m s:List Nat} {k:Bool}:wv P b live K (⟨ix,dst,.kY n z x y,none,m,s,k⟩::L) e H nx S=wvA P b live K L dst (b+ix) e H nx S (lT (b+ix) e (.kY n z x y)):=am2 rfl
theorem apC {id:Nat} {m st:List Nat} {c:Prop} [Decidable c] {kc:Nat} {x:Option (Option Nat×Nat×Nat×List (List D1))}:wvP P b live K L dst id m st e H nx S kc (if c then x else none)=(c∧wvP P b live K L dst id m st e H nx S kc x):=by
 split<;>rename_i h<;>simp[h,wvP]
theorem aq4 {n i off len cap:Nat}:amE (.one (.c (.osl n i off len cap)))=cap:=rfl
theorem W0 {st:List Nat}:lU [] st H=True:=by simp[lU]
theorem W5 {p:Nat} {g:aA→Prop} {st:List Nat}:lU ((p,g)::S) st H=((p∈st→g H)∧lU S st H):=by
 simp[lU]
theorem aiG {k:XK} {l:List aT}:aU H e (.xop k l)=xq k (l.map (·.ev e)):=rfl
def ak0 (P:Program) (args:List D) (H:aA) (nx:Nat) (R:D→aA→Nat→Prop):D→Prop
 | .one (.c (.clo f caps))=>aB P f (args++caps.map fun d=>.one (.c d)) H nx R
 |_=>False
theorem am1 {ix:Nat} {f:aT} {xs:List aT} {m s:List Nat} {k:Bool}:wv P b live K (⟨ix,dst,.t5 f xs,none,m,s,k⟩::L) e H nx S=ak0 P (xs.map (·.ev e)) (msk b m H) nx (DQ P b live K L dst m s e H S) (f.ev e):=by
 unfold wv
 simp only[avc,l8,vI,aop,AOp.kind,HX]
 generalize f.ev e=d
 unfold ak0
 split
 ·simp only[D.one.injEq,DV.c.injEq,D1.clo.injEq,eq_iff_iff]
  exact⟨by rintro⟨_,_,⟨rfl,rfl⟩,h⟩;exact h,fun h=>⟨_,_,⟨rfl,rfl⟩,h⟩⟩
 ·rename_i hne
  simp only[eq_iff_iff,iff_false]
  rintro⟨f,caps,rfl,_⟩
  exact hne f caps rfl
section
variable {id i kn : Nat} {bl ok : Bool} {R : D → aA → Nat → Prop} {m : mH} {l : List Int} {n : Int} {k v : D}
theorem alB:xl P id H nx R (.DS kn bl) []=R (.one (.c (.omap id))) (H.set id (u4 ⟨kn,bl,[]⟩)) nx:=rfl
theorem ahU:xl P id H nx R .sS [.one (.c (.omap i))]=xlL H nx R (I7 H i):=rfl
theorem aeF:xl P id H nx R .sS [.one (.c (.MY m))]=xlL H nx R (some m):=rfl
theorem acY:xl P id H nx R (.rA kn bl ok) [.one (.c (.MY m)),k]=xlG H nx R kn bl ok (some m) (OA kn k):=rfl
theorem agY:xl P id H nx R (.rA kn bl ok) [.one (.c (.omap i)),k]=xlG H nx R kn bl ok (I7 H i) (OA kn k):=rfl
theorem agN:xl P id H nx R (.vM kn bl) [.one (.c (.omap i)),k,v]=xlS H nx R kn bl i (I7 H i) (OA kn k) (S4 bl v):=rfl
theorem akW:xlL H nx R (some m)=R (.one (.c (.v (.int .i64 m.m.length)))) H nx:=rfl
theorem ar3:xlG H nx R kn bl true (some m) (some l)=((m.kn=kn∧m.bl=bl∧l.length=zV kn)∧R (.tup [.c (.v (elemV bl ((jT m.m l).getD 0))),.c (.v (.bool (jT m.m l).isSome))]) H nx):=rfl
theorem asJ:xlG H nx R kn bl false (some m) (some l)=((m.kn=kn∧m.bl=bl∧l.length=zV kn)∧R (.one (.c (.v (elemV bl ((jT m.m l).getD 0))))) H nx):=rfl
theorem alO:xlS H nx R kn bl i (some m) (some l) (some n)=((m.kn=kn∧m.bl=bl∧l.length=zV kn)∧R .dead (H.set i (u4 ⟨kn,bl,vA m.m l n⟩)) nx):=rfl
theorem akH:I7 H i=(H i).bind anD:=rfl
theorem amZ {cs:List D1}:OA kn (.one (.agg cs))=if kn=0 then none else xY cs:=rfl
theorem arU:OA kn (.one (.c (.v (.int .i64 n))))=if kn=0 then some [n] else none:=rfl
theorem aoM {b:Bool}:S4 bl (.one (.c (.v (.bool b))))=if bl then some (if b then 1 else 0) else none:=rfl
theorem apQ:S4 bl (.one (.c (.v (.int .i64 n))))=if bl then none else some n:=rfl
theorem anS:elemV true n= .bool (decide (n≠0)):=rfl
theorem aoQ:elemV false n= .int .i64 n:=rfl
theorem ai1:xY []=some []:=rfl
theorem ad0 {r:List D1}:xY (.v (.int .i64 n)::r)=(xY r).map (n:: ·):=rfl
theorem aqT {xs ys:List D1} {g:Bool} {q:Nat}:xq (.aeq g q) [.one (.agg xs),.one (.agg ys)]=eqD g q xs ys (xY xs) (xY ys):=rfl
theorem al8 {xs ys:List D1} {q:Nat} {a b:List Int}:eqD false q xs ys (some a) (some b)=if xs.length=q∧ys.length=q then some (.one (.c (.v (.bool (decide (a=b)))))) else none:=rfl
theorem aoY {xs ys:List D1} {q:Nat} {a b:List Int}:eqD true q xs ys (some a) (some b)=if xs.length=q∧ys.length=q then some (.one (.c (.v (.bool (decide (¬a=b)))))) else none:=rfl
theorem apG:zV kn=if kn=0 then 1 else kn:=rfl
end
theorem ahX {f:FuncId} {caps:List D1} {args:List D} {R:D→aA→Nat→Prop}:ak0 P args H nx R (.one (.c (.clo f caps)))=aB P f (args++caps.map fun d=>.one (.c d)) H nx R:=rfl
theorem atD {a b:Int}:(a==b)=decide (a=b):=by by_cases h:a=b<;>simp[h]
theorem atH {a b:Int}:(a != b)=decide (¬a=b):=by by_cases h:a=b<;>simp[h]
theorem as6 {p:Prop} [Decidable p]:(!decide p)=decide (¬p):=by by_cases h:p<;>simp[h]
theorem ao0 {α:Type} {enc:α→List D1} {l:List α} {i:Nat} {x:α}:(l.map enc).set i (enc x)=(l.set i x).map enc:=(List.map_set).symm
theorem ak2 {α:Type} {enc:α→List D1} {l:List α} {x:α}:l.map enc++[enc x]=(l++[x]).map enc:=by simp
theorem akQ {α:Type} {enc:α→List D1} {l:List α} {k:Nat}:(l.map enc).take k=(l.take k).map enc:=(List.map_take).symm
end
abbrev dI (n:Int):D:=.one (.c (.v (.int .i64 n)))
abbrev dB (b:Bool):D:=.one (.c (.v (.bool b)))
abbrev dS (rows:List (List D1)):D:=.one (.c (.isl rows))
abbrev dO (n id len cap:Nat):D:=.one (.c (.osl n id 0 len cap))
abbrev bkP (n id:Nat):D:=.one (.c (.ptr n id 0 0))
abbrev dA (cs:List D1):D:=.one (.agg cs)
abbrev cI (n:Int):D1:=.v (.int .i64 n)
abbrev cB (b:Bool):D1:=.v (.bool b)
def aJ (x:Int):List D1:=[.v (.int .i64 x)]
theorem q9 {p:Prop} [Decidable p] (h:p):dB true=dB (decide p):=by rw[decide_eq_true h]
theorem j7 {p:Prop} [Decidable p] (h: ¬p):dB false=dB (decide p):=by rw[decide_eq_false h]
theorem pD {p q:Prop} [Decidable p] [Decidable q] (h:p↔q):dB (decide p)=dB (decide q):=by rw[decide_eq_decide.2 h]
theorem qA {a b:Int} (h:a=b):dI a=dI b:=by rw[h]
theorem ak8 {l:List Int} {x:Int}:l.map aJ++[[.v (.int .i64 x)]]=(l++[x]).map aJ:=by simp[aJ]
theorem apF {l:List Int} {i:Nat} {x:Int}:(l.map aJ).set i [.v (.int .i64 x)]=(l.set i x).map aJ:=by rw[List.map_set];rfl
attribute [go_sem] ak8 apF
section
variable {rows : List (List D1)} {k k' k'' : IntKind} {a b c : Int} {n m id off len cap : Nat}
theorem arX:sJ n (.one (.c (.isl rows))) none (some (.one (.c (.v (.int k a))))) none=if (0≤a∧a≤rows.length)∧(∀r∈rows,r.length=n) then some (.one (.c (.isl (rows.take a.toNat)))) else none:=by
 by_cases hP: ∀r∈rows,r.length=n
 ·by_cases ha:0≤a<;>simp only[sJ,EA,ha,eq_true hP,if_true,if_false,reduceIte,and_true,and_false,true_and,false_and]<;>(repeat' split)<;>first|rfl| (exfalso;omega)| (simp only[List.drop_zero,Nat.sub_zero,Option.some.injEq,D.one.injEq,DV.c.injEq,D1.isl.injEq];first|rfl|exact List.take_of_length_le (by simp)|exact List.take_of_length_le (Nat.le_refl _))
 ·by_cases ha:0≤a<;>simp only[sJ,EA,ha,eq_false hP,if_true,if_false,reduceIte,and_true,and_false,true_and,false_and]<;>(repeat' split)<;>first|rfl| (exfalso;omega)| (simp only[List.drop_zero,Nat.sub_zero,Option.some.injEq,D.one.injEq,DV.c.injEq,D1.isl.injEq];first|rfl|exact List.take_of_length_le (by simp)|exact List.take_of_length_le (Nat.le_refl _))
theorem arK:sJ n (.one (.c (.osl m id off len cap))) none (some (.one (.c (.v (.int k a))))) none=if (m=n∨cap=0)∧0≤a∧a≤cap then some (.one (.c (.osl n id off a.toNat cap))) else none:=by
 by_cases ha:0≤a<;>simp only[sJ,EA,ZU,ha,if_true,if_false,reduceIte,and_true,true_and,and_false,false_and]<;>(repeat' split)<;>first| (exfalso;omega)| (simp;done)| (simp;omega)
theorem arB:sJ n (.one (.c (.osl m id off len cap))) (some (.one (.c (.v (.int k a))))) none none=if (m=n∨cap=0)∧0≤a∧a≤len∧len≤cap then some (.one (.c (.osl n id (off+a.toNat) (len-a.toNat) (cap-a.toNat)))) else none:=by
 by_cases ha:0≤a<;>simp only[sJ,EA,ZU,ha,if_true,if_false,reduceIte,and_true,true_and,and_false,false_and]<;>(repeat' split)<;>first| (exfalso;omega)| (simp;done)| (simp;omega)
theorem apA:sJ n (.one (.c (.osl m id off len cap))) (some (.one (.c (.v (.int k a))))) (some (.one (.c (.v (.int k' b))))) none=if (m=n∨cap=0)∧0≤a∧a≤b∧b≤cap then some (.one (.c (.osl n id (off+a.toNat) (b.toNat-a.toNat) (cap-a.toNat)))) else none:=by
 by_cases ha:0≤a<;>by_cases hb:0≤b<;>simp only[sJ,EA,ZU,ha,hb,if_true,if_false,reduceIte,and_true,true_and,and_false,false_and]<;>(repeat' split)<;>first| (exfalso;omega)| (simp;done)| (simp;omega)
theorem aoL:sJ n (.one (.c (.osl m id off len cap))) none (some (.one (.c (.v (.int k a))))) (some (.one (.c (.v (.int k' b)))))=if (m=n∨cap=0)∧0≤a∧a≤b∧b≤cap then some (.one (.c (.osl n id off a.toNat b.toNat))) else none:=by
 by_cases ha:0≤a<;>by_cases hb:0≤b<;>simp only[sJ,EA,ZU,ha,hb,if_true,if_false,reduceIte,and_true,true_and,and_false,false_and]<;>(repeat' split)<;>first| (exfalso;omega)| (simp;done)| (simp;omega)
end
attribute [go_sem] arX arK arB apA aoL true_or or_true
def en:List (Nat×D)→Env
 | []=>Env.nil
 | (t,d)::l=>(en l).set t d
theorem arY:en []=Env.nil:=rfl
theorem aoG {t:Nat} {d:D} {l:List (Nat×D)}:en ((t,d)::l)=(en l).set t d:=rfl
def hp:List (Nat×bA)→aA
 | []=>aA.nil
 | (i,o)::l=>(hp l).set i o
theorem arI:hp []=aA.nil:=rfl
theorem anY {i:Nat} {o:bA} {l:List (Nat×bA)}:hp ((i,o)::l)=(hp l).set i o:=rfl
def DV.imm:DV→Bool
 | .c d=>d.dQ
 | .agg ds=>ds.all D1.dQ
def D.imm:D→Bool
 | .one x=>x.imm
 | .tup xs=>xs.all DV.imm
 | .dead=>false
section
variable {P : Program} {H G : aA} {F : Nat → Prop} {σ : Nat → Nat} {nx nh : Nat} {e e' : Env}
theorem YP {τ:Nat→Nat} {d:D1} (h:d.dQ=true):rn1 τ d=d:=by cases d<;>first|rfl|cases h
theorem af4 {τ:Nat→Nat} {d:DV} (h:d.imm=true):rnV τ d=d:=by
 cases d with
 |c d=>simp only[rnV];rw[YP h]
 |agg ds=>
  simp only[rnV]
  congr 1
  have h2:=List.all_eq_true.1 h
  conv=>rhs;rw[←List.map_id ds]
  exact List.map_congr_left fun x hx=>YP (h2 x hx)
theorem af7 {τ:Nat→Nat} {d:D} (h:d.imm=true):rnD τ d=d:=by
 cases d with
 |one x=>simp only[rnD];rw[af4 h]
 |dead=>rfl
 |tup xs=>
  simp only[rnD]
  congr 1
  have h2:=List.all_eq_true.1 h
  conv=>rhs;rw[←List.map_id xs]
  exact List.map_congr_left fun x hx=>af4 (h2 x hx)
theorem al1 {d:DV} (h:d.imm=true):CvV H F σ nh d d:=by
 cases d with
 |c d=>exact bB h
 |agg ds=>exact GW fun x hx=>List.all_eq_true.1 h x hx
theorem aE {d:D} (h:d.imm=true):CvD H F σ nh d d:=by
 cases d with
 |one x=>exact al1 h
 |dead=>trivial
 |tup xs=>
  refine⟨rfl,fun i a b ha hb=> ?_⟩
  rw[ha] at hb;cases hb
  exact al1 (List.all_eq_true.1 h a (List.mem_of_getElem? ha))
theorem aB.fresh {f:FuncId} {args:List D} {K:D→aA→Nat→Prop} {R:D→Prop} (h:aB P f args .nil 0 fun r _ n=>n=0∧r.imm=true∧R r) (hargs:args.all D.imm=true) (hK: ∀r,R r→K r H nx):aB P f args H nx K:=by
 refine aB.lift h id rfl (fun i d0 d h1 h2=> ?_) PS (fun i hi=>absurd hi (Nat.not_lt_zero i)) (fun i j hi=>absurd hi (Nat.not_lt_zero i)) fun r H' n' _ ⟨h1,h2,h3⟩=> ?_
 ·rw[h1] at h2;cases h2
  exact aE (List.all_eq_true.1 hargs d0 (List.mem_of_getElem? h1))
 ·subst h1
  rw[af7 h2]
  exact hK r h3
theorem V4 {Q:AQ} {rs:List aW} {R:D→Prop} (hQ: ∀ex e2 H2 nx2 d nh d2 H3 F σ,ex=AEx.normal∨ex=AEx.ret→yT H2 e2 rs=some d→CvR 0 d H2 nh d2 H3 F σ→(nh=0∧d2.imm=true∧R d2)→Q ex e2 H2 nx2)
 {e2:Env} {H2:aA} {nx2:Nat} (d' d:D) (h1:yT H2 e2 rs=some d) (h2:CvD H2 (fun _=>True) id 0 d' d) (h3:d'.imm=true) (h4:R d'):Q .ret e2 H2 nx2:=
 hQ _ _ _ _ d 0 d' .nil (fun _=>True) id (.inr rfl) h1 ⟨Nat.le_refl _,fun _ _=>rfl,h2,PS⟩ ⟨rfl,h3,h4⟩
def alR (n:Nat) (rows:List (List D1)):Prop:=∀r∈rows,r.length=n∧ ∀x∈r,x.dQ=true
theorem aG {α:Type} {n:Nat} {enc:α→List D1} (h: ∀x,(enc x).length=n∧(enc x).all D1.dQ=true) (l:List α):alR n (l.map enc):=by
 intro r hr
 obtain⟨x,_,rfl⟩:=List.mem_map.1 hr
 exact⟨(h x).1,List.all_eq_true.1 (h x).2⟩
theorem XN {rows:List (List D1)} {n id len cap:Nat} {o:bA} (hi:alR n rows) (hl:len=rows.length) (hF:F id) (ho:H id=some o) (hn:o.n=n) (hr:o.rows.take rows.length=rows) (hc:rows.length≤cap):Cv1 H F σ nh (.isl rows) (.osl n id 0 len cap):=by
 subst hl
 have hle:rows.length≤o.rows.length:=by
  have:=congrArg List.length hr
  rw[List.length_take] at this;omega
 have hg: ∀i:Nat,∀r',rows[i]?=some r'→o.rows[i]?=some r':=by
  intro i r' h
  rw[←hr,List.getElem?_take] at h
  split at h
  ·exact h
  ·cases h
 refine .frz (.frz rows n id 0 cap o (fun i j=>((rows[i]?.getD [])[j]?).getD .dead) hF ho hn (by omega) hc (fun i r' h=>(hi r' (List.mem_of_getElem? h)).1) (fun i j r' d' h1 h2=>⟨r',by rw[Nat.zero_add];exact hg i r' h1,by rw[h1];simp[h2]⟩) fun i j r' d' h1 h2=> ?_)
 rw[h1]
 simp only[Option.getD_some,h2]
 exact .same d' ((hi r' (List.mem_of_getElem? h1)).2 d' (List.mem_of_getElem? h2))
theorem xG {n id off:Nat}:Cv1 H F σ nh (.isl []) (.osl n id off 0 0):=.frz (.nil n id off)
theorem aaF {n id id' off off' len len' cap cap':Nat} (h:id'<nh) (hs:σ id'=id) (h1:off'=off) (h2:len'=len) (h3:cap'=cap):Cv1 H F σ nh (.osl n id' off' len' cap') (.osl n id off len cap):=by
 subst h1;subst h2;subst h3;exact an2 h hs
theorem DJ {rows:List (List D1)} {n id len cap:Nat} {o:bA} (hi:alR n rows) (hl:len=rows.length) (hF:F id) (ho:H id=some o) (hn:o.n=n) (hr:o.rows.take rows.length=rows) (hc:rows.length≤cap):CvD H F σ nh (dS rows) (.one (.c (.osl n id 0 len cap))):=
 XN hi hl hF ho hn hr hc
theorem qS {n id id' off off' len len' cap cap':Nat} (h:id'<nh) (hs:σ id'=id) (h1:off'=off) (h2:len'=len) (h3:cap'=cap):CvD H F σ nh (.one (.c (.osl n id' off' len' cap'))) (.one (.c (.osl n id off len cap))):=
 aaF h hs h1 h2 h3
theorem DG {n id id' row col:Nat} (h:id'<nh) (hs:σ id'=id):CvD H F σ nh (.one (.c (.ptr n id' row col))) (.one (.c (.ptr n id row col))):=afZ h hs
theorem YY {f:FuncId} {caps:List D1} (h:caps.all D1.dQ=true):Cv1 H F σ nh (.clo f caps) (.clo f caps):=
 .clo f caps caps rfl fun i x y hx hy=>by
  rw[hx] at hy;cases hy
  have:=List.all_eq_true.1 h x (List.mem_of_getElem? hx)
  exact .inl ⟨this,.same x this⟩
def amT (H:aA) (F:Nat→Prop):List D1→List D1→Prop
 | [],[]=>True
 |x::xs,y::ys=>(x.dQ=true∧Frz H F x y)∧amT H F xs ys
 |_,_=>False
theorem zE {cells:List D1} {n id:Nat} {o:bA} (hi:cells.all D1.dQ=true) (hF:F id) (ho:H id=some o) (hn:o.n=n) (hr:o.rows[0]?=some cells):(D1.fQ cells).dQ=true∧Frz H F (.fQ cells) (.ptr n id 0 0):=
 ⟨rfl,.ptr cells n id 0 0 o cells (fun j=>(cells[j]?).getD .dead) hF ho hn hr (fun j d' h=>by simp[h]) (fun j d' h=>by
  simp only[h,Option.getD_some]
  exact .same d' (List.all_eq_true.1 hi d' (List.mem_of_getElem? h)))⟩
theorem aeE {cells:List D1} {n id:Nat} {o:bA} (hi:cells.all D1.dQ=true) (hF:F id) (ho:H id=some o) (hn:o.n=n) (hr:o.rows[0]?=some cells):CvD H F σ nh (.one (.c (.fQ cells))) (.one (.c (.ptr n id 0 0))):=
 .frz (zE hi hF ho hn hr).2
theorem bU (hle:nx≤nh) (h:CvE H (fun _=>True) id nh e' e): ∃F σ,Cv nx e H nh e' .nil F σ:=⟨fun _=>True,id,hle,fun _ _=>rfl,h,PS⟩
def ap5 (H:aA):List D→List D→Prop
 | [],[]=>True
 |d0::l0,d::l=>CvD H (fun _=>True) id 0 d0 d∧ap5 H l0 l
 |_,_=>False
theorem aI: ∀{l0 l:List D},ap5 H l0 l→∀(i:Nat) (d0 d:D),l0[i]?=some d0→l[i]?=some d→CvD H (fun _=>True) id 0 d0 d
 | [],[],_,i,d0,d,h1,_=>by simp at h1
 |a::l0,b::l,h,i,d0,d,h1,h2=>by
  match i with
  |0=>simp at h1 h2;subst h1;subst h2;exact h.1
  |i+1=>exact aI h.2 i d0 d (by simpa using h1) (by simpa using h2)
 | [],_::_,h,_,_,_,_,_=>h.elim
 |_::_,[],h,_,_,_,_,_=>h.elim
theorem yP {α:Type} {enc:α→List D1} {l:List α} {n id len cap m:Nat} (he: ∀x,(enc x).length=n∧(enc x).all D1.dQ=true) (ho:H id=some ⟨n,m,l.map enc⟩) (hl:len=l.length) (hc:l.length≤cap) (hF:F id):CvD H F σ nh (dS (l.map enc)) (.one (.c (.osl n id 0 len cap))):=
 DJ (aG he l) (by simp[hl]) hF ho rfl (List.take_of_length_le (Nat.le_refl _)) (by simp;omega)
theorem oF {t:Nat} {d:D} {l:List (Nat×D)} (h:CvE H F σ nh (en l) e) (hd:CvD H F σ nh d (e t)):CvE H F σ nh (en ((t,d)::l)) e:=anZ h hd
theorem K6:CvE H F σ nh (en []) e:=fun _=>trivial
def sgL (nx:Nat) (s:List Nat) (i:Nat):Nat:=if i<nx then i else (s[i-nx]?).getD i
def OkO (H:aA) (F:Nat→Prop) (σ:Nat→Nat) (nh:Nat):List (Nat×bA)→Prop
 | []=>True
 |p::l=>(p.1<nh∧ ¬F (σ p.1)∧ ∃o,H (σ p.1)=some o∧CvO H F σ nh p.2 o)∧OkO H F σ nh l
theorem XC: ∀{l:List (Nat×bA)} {i:Nat} {o:bA},hp l i=some o→(i,o)∈l
 | [],i,o,h=>by simp[hp,aA.nil] at h
 | (j,p)::l,i,o,h=>by
   simp only[hp,aA.set] at h
   split at h
   ·rename_i hi;cases h;subst hi;simp
   ·exact List.mem_cons_of_mem _ (XC h)
theorem af2: ∀{l:List (Nat×bA)},OkO H F σ nh l→∀p∈l,p.1<nh∧ ¬F (σ p.1)∧ ∃o,H (σ p.1)=some o∧CvO H F σ nh p.2 o
 | [],_,p,hp=>by simp at hp
 |q::l,h,p,hp=>by
  rcases List.mem_cons.1 hp with rfl|hp
  ·exact h.1
  ·exact af2 h.2 p hp
theorem ahG {l:List (Nat×bA)} (h:(l.map fun p=>σ p.1).Nodup) {p q:Nat×bA} (h1:p∈l) (h2:q∈l) (he:σ p.1=σ q.1):p=q:=by
 induction l with
 |nil=>simp at h1
 |cons a l ih=>
  simp only[List.map_cons,List.nodup_cons] at h
  rcases List.mem_cons.1 h1 with h3|h3<;>rcases List.mem_cons.1 h2 with h4|h4
  ·rw[h3,h4]
  ·subst h3;exact absurd (List.mem_map.2 ⟨q,h4,he.symm⟩:σ p.1∈l.map fun p=>σ p.1) h.1
  ·subst h4;exact absurd (List.mem_map.2 ⟨p,h3,he⟩:σ q.1∈l.map fun p=>σ p.1) h.1
  ·exact ih h.2 h3 h4
theorem QQ {l:List (Nat×bA)} (h:OkO H F σ nh l) (hn:(l.map fun p=>σ p.1).Nodup):CvH H F σ nh (hp l):=
 ⟨fun id o' hid=>af2 h _ (XC hid),fun i j o o' hi hj he=>congrArg Prod.fst (ahG hn (XC hi) (XC hj) he)⟩
theorem cR {l:List (Nat×bA)} (s:List Nat) (hle:nx≤nh) (hE:CvE H (· ∉s) (sgL nx s) nh e' e) (hO:OkO H (· ∉s) (sgL nx s) nh l) (hn:(l.map fun p=>sgL nx s p.1).Nodup): ∃F σ,Cv nx e H nh e' (hp l) F σ:=
 ⟨_,_,hle,fun i hi=>by simp[sgL,hi],hE,QQ hO hn⟩
theorem fU {d d':D} {l:List (Nat×bA)} (s:List Nat) (hle:nx≤nh) (hd:CvD H (· ∉s) (sgL nx s) nh d' d) (hO:OkO H (· ∉s) (sgL nx s) nh l) (hn:(l.map fun p=>sgL nx s p.1).Nodup):CvR nx d H nh d' (hp l) (· ∉s) (sgL nx s):=
 ⟨hle,fun i hi=>by simp[sgL,hi],hd,QQ hO hn⟩
theorem bP {n m m':Nat} {rows rows':List (List D1)} (hi:alR n rows') (h:rows'=rows) (hm:m'=m):CvO H F σ nh ⟨n,m',rows'⟩ ⟨n,m,rows⟩:=by
 subst h;subst hm
 exact bS fun r hr=>(hi r hr).2
theorem aM.ar4 {P:Program} {T:Nat} {e:Env} {H:aA} {nx:Nat} {Q:AQ} {x:AC} {zs:List AC} {α:Type} (m:Nat) (E:Nat→α→Env) (G:Nat→α→aA) (μ:α→Nat) (x0:α) (h0: ∃F σ,Cv nx e H (nx+m) (E nx x0) (G nx x0) F σ)
 (h: ∀u,∀K:Env→aA→Nat→Prop,(∀e' H' nx' u',nx+m≤nx'→μ u'<μ u→(∃F σ,Cv nx e' H' (nx+m) (E nx u') (G nx u') F σ)→K e' H' nx')→aM P T [x] (E nx u) (G nx u) (nx+m) (AQ.then K Q)):aM P T (.loop x::zs) e H nx Q:=
 aM.loop (E nx) (G nx) (nx+m) μ x0 h0 h
end
attribute [go_sem] aq4 alB ahU aeF agY acY agN akW ar3 asJ alO akH amZ arU aoM apQ anS aoQ ai1 ad0 aqT al8 aoY apG W0 W5 List.mem_cons List.not_mem_nil or_false false_or or_self aiG am1 ahX akQ apC List.take_of_length_le List.length_range List.length_replicate am5 aqH ag2 abU atA ar6 arM aqK aqZ aqF atF as8 atD atH as6 ao0 ak2 arY aoG arI anY aJ gt_iff_lt ge_iff_le Int.reduceEq Int.reduceNe Int.reduceLT Int.reduceLE Int.reduceAdd Int.reduceSub Int.reduceMul Int.reduceNeg decide_true decide_false Int.toNat_natCast Bool.not_true Bool.not_false not_true_eq_false not_false_eq_true List.drop_drop List.length_append Nat.reduceMul Nat.reduceSub Nat.reduceLT Int.reduceToNat
end Go.AM
end
section
namespace Go.AM
open Go.RowKit
section
variable {P : Program} {H G : aA} {F : Nat → Prop} {σ : Nat → Nat} {nx nh : Nat} {e e' : Env}
def C7 (o:bA):Prop:=∀r∈o.rows,∀x∈r,x.dQ=true
theorem rF {τ:Nat→Nat} {o:bA} (h:C7 o):o.rn τ=o:=by
 unfold bA.rn
 congr 1
 conv=>rhs;rw[←List.map_id o.rows]
 refine List.map_congr_left fun r hr=> ?_
 conv=>rhs;rw[←List.map_id r]
 exact List.map_congr_left fun x hx=>YP (h r hr x hx)
theorem aA.arQ {i:Nat} {o:bA}:H.upd i (some o)=H.set i o:=rfl
theorem aB.OU {f:FuncId} {args0 args:List D} {K:D→aA→Nat→Prop} {o:bA} {R:D→bA→Prop} (i:Nat) (h:aB P f args0 (hp [(0,o)]) 1 fun r H' n'=>n'=1∧ ∃o',H'=hp [(0,o')]∧C7 o'∧R r o') (hlen:args.length=args0.length)
 (hargs: ∀(j:Nat) (d0 d:D),args0[j]?=some d0→args[j]?=some d→CvD H (fun _=>False) (fun _=>i) 1 d0 d) (hi:i<nx) (ho:H i=some o) (himm:C7 o) (hK: ∀r o',R r o'→K (rnD (tau 1 nx fun _=>i) r) (H.set i o') nx):aB P f args H nx K:=by
 refine aB.lift h (fun _=>i) hlen hargs (QQ ⟨⟨Nat.zero_lt_one,fun h=>h,o,ho,bS himm⟩,trivial⟩ (by simp)) (fun j _=>hi) (fun j k hj hk _=>by omega) fun r H' n' hle ⟨h1,o',h2,h3,h4⟩=> ?_
 subst h1;subst h2
 have e:back (tau 1 nx fun _=>i) (hp [(0,o')]) 1 H=H.set i o':=by
  simp only[back,hp,aA.set,Option.map_some,rF h3,aA.arQ,if_true]
  have:tau 1 nx (fun _=>i) 0=i:=by simp[tau]
  rw[this]
 rw[e]
 exact hK r o' h4
theorem aB.aUH {f:FuncId} {args0 args:List D} {K:D→aA→Nat→Prop} {o1 o2:bA} {R:D→bA→bA→Prop} (i j:Nat) (h:aB P f args0 (hp [(0,o1),(1,o2)]) 2 fun r H' n'=>n'=2∧ ∃o1' o2',H'=hp [(0,o1'),(1,o2')]∧C7 o1'∧C7 o2'∧R r o1' o2') (hlen:args.length=args0.length)
 (hargs: ∀(k:Nat) (d0 d:D),args0[k]?=some d0→args[k]?=some d→CvD H (fun _=>False) (fun k=>if k=0 then i else j) 2 d0 d) (hi:i<nx) (hj:j<nx) (hij:i≠j) (ho1:H i=some o1) (ho2:H j=some o2) (h1:C7 o1) (h2:C7 o2)
 (hK: ∀r o1' o2',R r o1' o2'→K (rnD (tau 2 nx fun k=>if k=0 then i else j) r) ((H.set i o1').set j o2') nx):aB P f args H nx K:=by
 refine aB.lift h (fun k=>if k=0 then i else j) hlen hargs (QQ ⟨⟨by simp,fun h=>h,o1,by simpa using ho1,bS h1⟩,⟨by simp,fun h=>h,o2,by simpa using ho2,bS h2⟩,trivial⟩ (by simpa using hij)) (fun k _=>by split<;>assumption) (fun a b ha hb he=> ?_) fun r H' n' hle ⟨k1,o1',o2',k2,k3,k4,k5⟩=> ?_
 ·split at he<;>split at he<;>omega
 subst k1;subst k2
 have e:back (tau 2 nx fun k=>if k=0 then i else j) (hp [(0,o1'),(1,o2')]) 2 H=(H.set i o1').set j o2':=by
  have e0:tau 2 nx (fun k=>if k=0 then i else j) 0=i:=by simp[tau]
  have e1:tau 2 nx (fun k=>if k=0 then i else j) 1=j:=by simp[tau]
  simp only[back,hp,aA.set,e0,e1,Option.map_some,rF k3,rF k4,if_true,Nat.zero_add]
  simp only[Nat.zero_ne_one,Nat.one_ne_zero,if_false,Option.map_some,rF k3,rF k4]
  rfl
 rw[e]
 exact hK r o1' o2' k5
theorem lA {Q:AQ} {rs:List aW} {R:D→bA→Prop} (hQ: ∀ex e2 H2 nx2 d nh d2 H3 F σ,ex=AEx.normal∨ex=AEx.ret→yT H2 e2 rs=some d→CvR 1 d H2 nh d2 H3 F σ→(nh=1∧ ∃o',H3=hp [(0,o')]∧C7 o'∧R d2 o')→Q ex e2 H2 nx2)
 {e2:Env} {H2:aA} {nx2:Nat} (d' d:D) (o':bA) (h1:yT H2 e2 rs=some d) (h2:CvD H2 (fun i=>i≠0) id 1 d' d) (h3:H2 0=some o') (h4:C7 o') (h5:R d' o'):Q .ret e2 H2 nx2:=
 hQ _ _ _ _ d 1 d' (hp [(0,o')]) (fun i=>i≠0) id (.inr rfl) h1 ⟨Nat.le_refl _,fun _ _=>rfl,h2,QQ ⟨⟨Nat.zero_lt_one,fun h=>h rfl,o',h3,bS h4⟩,trivial⟩ (by simp)⟩ ⟨rfl,o',rfl,h4,h5⟩
theorem aTE {Q:AQ} {rs:List aW} {R:D→bA→bA→Prop} (hQ: ∀ex e2 H2 nx2 d nh d2 H3 F σ,ex=AEx.normal∨ex=AEx.ret→yT H2 e2 rs=some d→CvR 2 d H2 nh d2 H3 F σ→(nh=2∧ ∃o1' o2',H3=hp [(0,o1'),(1,o2')]∧C7 o1'∧C7 o2'∧R d2 o1' o2')→Q ex e2 H2 nx2)
 {e2:Env} {H2:aA} {nx2:Nat} (d' d:D) (o1 o2:bA) (h1:yT H2 e2 rs=some d) (h2:CvD H2 (fun i=>2≤i) id 2 d' d) (h3:H2 0=some o1) (h4:H2 1=some o2) (h5:C7 o1) (h6:C7 o2) (h7:R d' o1 o2):Q .ret e2 H2 nx2:=
 hQ _ _ _ _ d 2 d' (hp [(0,o1),(1,o2)]) (fun i=>2≤i) id (.inr rfl) h1 ⟨Nat.le_refl _,fun _ _=>rfl,h2,QQ ⟨⟨by simp,by simp,o1,h3,bS h5⟩,⟨by simp,by simp,o2,h4,bS h6⟩,trivial⟩ (by simp)⟩ ⟨rfl,o1,o2,rfl,h5,h6,h7⟩
theorem oB {α:Type} {enc:α→List D1} {n m:Nat} (h: ∀x,(enc x).length=n∧(enc x).all D1.dQ=true) (l:List α):C7 ⟨n,m,l.map enc⟩:=fun r hr=>(aG h l r hr).2
theorem EW {τ:Nat→Nat} {d:D} {A:D→Prop} (h:d.imm=true) (hA:A d):A (rnD τ d):=by rw[af7 h];exact hA
def aqS (H:aA) (τ:Nat→Nat) (n:Nat):List D→List D→Prop
 | [],[]=>True
 |d0::l0,d::l=>CvD H (fun _=>False) τ n d0 d∧aqS H τ n l0 l
 |_,_=>False
theorem gW {τ:Nat→Nat} {n:Nat}: ∀{l0 l:List D},aqS H τ n l0 l→∀(i:Nat) (d0 d:D),l0[i]?=some d0→l[i]?=some d→CvD H (fun _=>False) τ n d0 d
 | [],[],_,i,d0,d,h1,_=>by simp at h1
 |a::l0,b::l,h,i,d0,d,h1,h2=>by
  match i with
  |0=>simp at h1 h2;subst h1;subst h2;exact h.1
  |i+1=>exact gW h.2 i d0 d (by simpa using h1) (by simpa using h2)
 | [],_::_,h,_,_,_,_,_=>h.elim
 |_::_,[],h,_,_,_,_,_=>h.elim
end
end Go.AM
end
section
namespace Go.AM
open Go.RowKit
section
variable {P : Program} {T : Nat} {e : Env} {H : aA} {nx : Nat} {Q : AQ}
theorem AWP.join {x y:AC} {α:Type} (nh:Nat) (E:α→Env) (G:α→aA) (h1:AWP P T x e H nx (AQ.then (fun e' H' _=>∃u,∃F σ,Cv nx e' H' nh (E u) (G u) F σ) Q)) (h2: ∀u,AWP P T y (E u) (G u) nh Q):AWP P T (.seq x y) e H nx Q:=by
 intro code hc c a hs he hN
 cases hc with
 |seq k1 k2=>
  refine wp_seq (wp_mono (h1 _ k1 c a hs he hN) fun ex a' w' ⟨aex,e',H',nx',c',hp⟩=> ?_)
  obtain⟨rfl,rfl,p1,p2,p3,p4,p5,p6⟩:=hp
  cases aex with
  |normal=>
   simp only[AQ.then] at p6
   obtain⟨u,F,σ,q⟩:=p6
   obtain⟨c2,r1,r2,r3,r4,r5⟩:=q.sound p1 p2 hN p3
   have h3:=h2 u _ k2 c2 a' r2 r3 fun i hi=>by
    rcases r5 i hi with h|h
    ·have:=q.le;omega
    ·exact h.2
   rw[r1] at h3
   refine wp_mono h3 fun ex a'' w'' hq=>hq.lift r4 (fun i hi=> ?_) q.le fun _ _ _ _ _ h=>h
   rcases r5 i hi with h|h
   ·rcases p4 i h.1 with h4|h4
    ·exact .inl h4
    ·omega
   ·exact .inr h
  |exit id=>exact⟨.exit id,e',H',nx',c',rfl,rfl,p1,p2,p3,p4,p5,p6⟩
  |ret=>exact⟨.ret,e',H',nx',c',rfl,rfl,p1,p2,p3,p4,p5,p6⟩
theorem aM.join {x y:AC} {zs:List AC} {α:Type} (m:Nat) (E:Nat→α→Env) (G:Nat→α→aA)
 (h1: ∀K:Env→aA→Nat→Prop,(∀e' H' nx' u,(∃F σ,Cv nx e' H' (nx+m) (E nx u) (G nx u) F σ)→K e' H' nx')→aM P T [x] e H nx (AQ.then K Q))
 (h2: ∀u,aM P T (y::zs) (E nx u) (G nx u) (nx+m) Q):aM P T (.seq x y::zs) e H nx Q:=by
 refine AWP.join (nx+m) (E nx) (G nx) (AWP.mono (h1 _ (fun e' H' nx' u h=>(⟨u,h⟩: ∃u,∃F σ,Cv nx e' H' (nx+m) (E nx u) (G nx u) F σ))).run fun ex e' H' nx' _ hq=> ?_) h2
 cases ex with
 |normal=>exact hq
 |exit i=>exact hq
 |ret=>exact hq
theorem aM.apW {x y:AC} {zs:List AC} {β:Type} (m:Nat) (E:Nat→β→Env) (G:Nat→β→aA) (I:β→Prop)
 (h1: ∀K:Env→aA→Nat→Prop,(∀e' H' nx' v,(∃F σ,Cv nx e' H' (nx+m) (E nx v) (G nx v) F σ)→I v→K e' H' nx')→aM P T [x] e H nx (AQ.then K Q))
 (h2: ∀v,I v→aM P T (y::zs) (E nx v) (G nx v) (nx+m) Q):aM P T (.seq x y::zs) e H nx Q:=
 aM.join (α:={v:β//I v}) m (fun b u=>E b u.1) (fun b u=>G b u.1) (fun K hK=>h1 K fun e' H' nx' v h hi=>hK e' H' nx' ⟨v,hi⟩ h) fun u=>h2 u.1 u.2
theorem aM.sG {x:AC} {zs:List AC} {β:Type} (m:Nat) (E:Nat→β→Env) (G:Nat→β→aA) (I:β→Prop) (μ:β→Nat) (v0:β) (h0: ∃F σ,Cv nx e H (nx+m) (E nx v0) (G nx v0) F σ) (hi:I v0)
 (h: ∀v,I v→∀K:Env→aA→Nat→Prop,(∀e' H' nx' v',nx+m≤nx'→(∃F σ,Cv nx e' H' (nx+m) (E nx v') (G nx v') F σ)→I v'→μ v'<μ v→K e' H' nx')→aM P T [x] (E nx v) (G nx v) (nx+m) (AQ.then K Q)):aM P T (.loop x::zs) e H nx Q:=
 aM.ar4 (α:={v:β//I v}) m (fun b u=>E b u.1) (fun b u=>G b u.1) (fun u=>μ u.1) ⟨v0,hi⟩ h0 fun u K hK=>h u.1 u.2 K fun e' H' nx' v' h1 h2 h3 h4=>hK e' H' nx' ⟨v',h3⟩ h1 h4 h2
theorem arT {H:aA} {F:Nat→Prop} {σ:Nat→Nat} {nh:Nat} {a b:D1} (h:Cv1 H F σ nh a b):Cv1 H F σ nh a b:=h
theorem aqR {H:aA} {F:Nat→Prop} {σ:Nat→Nat} {nh:Nat} {a b:D} (h:CvD H F σ nh a b):CvD H F σ nh a b:=h
theorem asF {H:aA} {F:Nat→Prop} {σ:Nat→Nat} {nh:Nat} {a b:D1} (h:a=b) (hi:a.dQ=true):Cv1 H F σ nh a b:=h▸bB hi
theorem bW {H:aA} {F:Nat→Prop} {σ:Nat→Nat} {nh:Nat} {α:Type} {enc:α→List D1} {l:List α} {n id len cap m:Nat} (he: ∀x,(enc x).length=n∧(enc x).all D1.dQ=true) (ho:H id=some ⟨n,m,l.map enc⟩) (hl:len=l.length) (hc:l.length≤cap) (hF:F id):Cv1 H F σ nh (.isl (l.map enc)) (.osl n id 0 len cap):=
 XN (aG he l) (by simp[hl]) hF ho rfl (List.take_of_length_le (Nat.le_refl _)) (by simp;omega)
def kpm (b:Nat) (l:List Nat) (H:aA):aA:=fun i=>if i∈l.map (b+ ·) then H i else none
variable {b i : Nat} {l : List Nat} {o : bA} {G : aA}
theorem akT:msk b l (H.set i o)=if i∈l.map (b+ ·) then msk b l H else (msk b l H).set i o:=by
 split
 ·rename_i h
  funext j;simp only[msk,aA.set]
  by_cases hj:j=i
  ·subst hj;simp only[h,if_true]
  ·simp only[hj,if_false]
 ·rename_i h
  funext j;simp only[msk,aA.set]
  by_cases hj:j=i
  ·subst hj;simp only[h,if_true,if_false]
  ·simp only[hj,if_false]
theorem akY:msk b l aA.nil=aA.nil:=by funext j;simp only[msk,aA.nil];split<;>rfl
theorem an1:msk b l (H.del i)=(msk b l H).del i:=by
 funext j;simp only[msk,aA.del];split<;>split<;>rfl
theorem aoS:kpm b l (H.set i o)=if i∈l.map (b+ ·) then (kpm b l H).set i o else kpm b l H:=by
 split
 ·rename_i h
  funext j;simp only[kpm,aA.set]
  by_cases hj:j=i
  ·subst hj;simp only[h,if_true]
  ·simp only[hj,if_false]
 ·rename_i h
  funext j;simp only[kpm,aA.set]
  by_cases hj:j=i
  ·subst hj;simp only[h,if_false]
  ·simp only[hj,if_false]
theorem al5:kpm b l aA.nil=aA.nil:=by funext j;simp only[kpm,aA.nil];split<;>rfl
theorem abQ:dT b l H aA.nil=kpm b l H:=by funext j;simp only[dT,kpm,aA.nil]
theorem aeC:dT b l H (G.set i o)=if i∈l.map (b+ ·) then dT b l H G else (dT b l H G).set i o:=by
 split
 ·rename_i h
  funext j;simp only[dT,aA.set]
  by_cases hj:j=i
  ·subst hj;simp only[h,if_true]
  ·simp only[hj,if_false]
 ·rename_i h
  funext j;simp only[dT,aA.set]
  by_cases hj:j=i
  ·subst hj;simp only[h,if_true,if_false]
  ·simp only[hj,if_false]
theorem ahD:dT b l H (G.del i)=if i∈l.map (b+ ·) then dT b l H G else (dT b l H G).del i:=by
 split
 ·rename_i h
  funext j;simp only[dT,aA.del]
  by_cases hj:j=i
  ·subst hj;simp only[h,if_true]
  ·simp only[hj,if_false]
 ·rename_i h
  funext j;simp only[dT,aA.del]
  by_cases hj:j=i
  ·subst hj;simp only[h,if_true,if_false]
  ·simp only[hj,if_false]
theorem yE {H:aA} {i j:Nat} {a c:bA} (h: ¬i=j):(H.set i a).set j c=(H.set j c).set i a:=by
 funext k;simp only[aA.set]
 by_cases h1:k=j
 ·subst h1;rw[if_pos rfl,if_neg (fun h2=>h h2.symm),if_pos rfl]
 ·rw[if_neg h1]
  by_cases h2:k=i
  ·rw[if_pos h2,if_pos h2]
  ·rw[if_neg h2,if_neg h2,if_neg h1]
theorem ajH {H:aA} {i j0:Nat} {a c b0:bA} (h0: ¬j0=i):((H.set i a).set j0 b0).set i c=((H.set i c).set j0 b0):=by rw[yE h0,aA.set_set]
theorem am6 {H:aA} {i j0 j1:Nat} {a c b0 b1:bA} (h0: ¬j0=i) (h1: ¬j1=i):(((H.set i a).set j0 b0).set j1 b1).set i c=(((H.set i c).set j0 b0).set j1 b1):=by rw[yE h1,ajH h0]
theorem alU {H:aA} {i j0 j1 j2:Nat} {a c b0 b1 b2:bA} (h0: ¬j0=i) (h1: ¬j1=i) (h2: ¬j2=i):((((H.set i a).set j0 b0).set j1 b1).set j2 b2).set i c=((((H.set i c).set j0 b0).set j1 b1).set j2 b2):=by rw[yE h2,am6 h0 h1]
theorem alA {H:aA} {i j0 j1 j2 j3:Nat} {a c b0 b1 b2 b3:bA} (h0: ¬j0=i) (h1: ¬j1=i) (h2: ¬j2=i) (h3: ¬j3=i):(((((H.set i a).set j0 b0).set j1 b1).set j2 b2).set j3 b3).set i c=(((((H.set i c).set j0 b0).set j1 b1).set j2 b2).set j3 b3):=by rw[yE h3,alU h0 h1 h2]
theorem ajJ {H:aA} {i j0 j1 j2 j3 j4:Nat} {a c b0 b1 b2 b3 b4:bA} (h0: ¬j0=i) (h1: ¬j1=i) (h2: ¬j2=i) (h3: ¬j3=i) (h4: ¬j4=i):((((((H.set i a).set j0 b0).set j1 b1).set j2 b2).set j3 b3).set j4 b4).set i c=((((((H.set i c).set j0 b0).set j1 b1).set j2 b2).set j3 b3).set j4 b4):=by rw[yE h4,alA h0 h1 h2 h3]
theorem akV {H:aA} {i j0 j1 j2 j3 j4 j5:Nat} {a c b0 b1 b2 b3 b4 b5:bA} (h0: ¬j0=i) (h1: ¬j1=i) (h2: ¬j2=i) (h3: ¬j3=i) (h4: ¬j4=i) (h5: ¬j5=i):(((((((H.set i a).set j0 b0).set j1 b1).set j2 b2).set j3 b3).set j4 b4).set j5 b5).set i c=(((((((H.set i c).set j0 b0).set j1 b1).set j2 b2).set j3 b3).set j4 b4).set j5 b5):=by rw[yE h5,ajJ h0 h1 h2 h3 h4]
theorem arR {H:aA} {i j0 j1 j2 j3 j4 j5 j6:Nat} {a c b0 b1 b2 b3 b4 b5 bkQ:bA} (h0: ¬j0=i) (h1: ¬j1=i) (h2: ¬j2=i) (h3: ¬j3=i) (h4: ¬j4=i) (h5: ¬j5=i) (h6: ¬j6=i):((((((((H.set i a).set j0 b0).set j1 b1).set j2 b2).set j3 b3).set j4 b4).set j5 b5).set j6 bkQ).set i c=((((((((H.set i c).set j0 b0).set j1 b1).set j2 b2).set j3 b3).set j4 b4).set j5 b5).set j6 bkQ):=by rw[yE h6,akV h0 h1 h2 h3 h4 h5]
theorem aoB {i:Nat}:aA.nil.del i=aA.nil:=by funext k;simp only[aA.del,aA.nil];split<;>rfl
theorem ae7 {H:aA} {i:Nat} {a:bA}:(H.set i a).del i=H.del i:=by
 funext k;simp only[aA.set,aA.del];split<;>rfl
theorem adA {H:aA} {i j:Nat} {a:bA} (h: ¬i=j):(H.set j a).del i=(H.del i).set j a:=by
 funext k;simp only[aA.set,aA.del]
 by_cases h1:k=i
 ·subst h1;simp[h]
 ·simp[h1]
end
attribute [go_sem] ajH am6 alU alA ajJ akV arR aoB ae7 adA Nat.reduceLT akT akY an1 aoS al5 abQ aeC ahD
end Go.AM
end
section
namespace Go.AM
open Go.RowKit
def nth (s:List Nat) (i:Nat):Nat:=s[i]?.getD 0
section
variable {P : Program} {H : aA} {nx : Nat} {τ : Nat → Nat} {H0 : aA}
theorem aB.AF {f:FuncId} {args0 args:List D} {K:D→aA→Nat→Prop} {l0:List (Nat×bA)} {R:D→aA→Nat→Prop} (s:List Nat) (h:aB P f args0 (hp l0) s.length R) (hlen:args.length=args0.length)
 (hargs:aqS H (nth s) s.length args0 args) (hO:OkO H (fun _=>False) (nth s) s.length l0) (hn:(l0.map fun p=>nth s p.1).Nodup) (hs: ∀x∈s,x<nx) (hd:s.Nodup)
 (hK: ∀r H' n',s.length≤n'→R r H' n'→K (rnD (tau s.length nx (nth s)) r) (back (tau s.length nx (nth s)) H' n' H) (nx+(n'-s.length))):aB P f args H nx K:=
 aB.lift h (nth s) hlen (gW hargs) (QQ hO hn) (fun i hi=>by rw[nth,List.getElem?_eq_getElem hi];exact hs _ (List.getElem_mem hi))
   (fun i j hi hj he=>by
    rw[nth,nth,List.getElem?_eq_getElem hi,List.getElem?_eq_getElem hj,Option.getD_some,Option.getD_some] at he
    exact(List.getElem_inj hd).1 he) hK
theorem aB.azZ {f:FuncId} {args0 args:List D} {K:D→aA→Nat→Prop} {R:D→Prop} (h:aB P f args0 .nil 0 fun r _ n=>n=0∧r.imm=true∧R r) (hlen:args.length=args0.length) (hargs:aqS H (nth []) 0 args0 args) (hK: ∀r,R r→K r H nx):aB P f args H nx K:=by
 refine aB.AF (l0:=[]) [] h hlen hargs trivial (by simp) (by simp) (by simp) fun r H' n' _ ⟨h1,h2,h3⟩=> ?_
 subst h1
 rw[af7 h2]
 exact hK r h3
theorem uB {n m:Nat} {l:List Int}:bA.rn τ ⟨n,m,l.map aJ⟩=⟨n,m,l.map aJ⟩:=by
 refine rF fun r hr x hx=> ?_
 obtain⟨y,_,rfl⟩:=List.mem_map.1 hr
 simp only[aJ,List.mem_singleton] at hx;subst hx;rfl
theorem asR:back τ H0 2 H=(H.upd (τ 0) ((H0 0).map (bA.rn τ))).upd (τ 1) ((H0 1).map (bA.rn τ)):=rfl
theorem ayY {F:Nat→Prop} {σ:Nat→Nat} {nh:Nat} {xs ys:List D1} (h:CvL H F σ nh xs ys):CvV H F σ nh (.agg xs) (.agg ys):=h
theorem azN {F:Nat→Prop} {σ:Nat→Nat} {nh:Nat} {x y:D1} (h:Cv1 H F σ nh x y):CvV H F σ nh (.c x) (.c y):=h
theorem ay7 {F:Nat→Prop} {σ:Nat→Nat} {nh:Nat} {a b x y:DV} (h1:CvV H F σ nh a x) (h2:CvV H F σ nh b y):CvD H F σ nh (.tup [a,b]) (.tup [x,y]):=
 ⟨rfl,fun i u v hu hv=>by
  match i with
  |0=>simp at hu hv;subst hu;subst hv;exact h1
  |1=>simp at hu hv;subst hu;subst hv;exact h2
  |i+2=>simp at hu⟩
theorem aUJ {F:Nat→Prop} {σ:Nat→Nat} {nh:Nat} {a b c x y z:DV} (h1:CvV H F σ nh a x) (h2:CvV H F σ nh b y) (h3:CvV H F σ nh c z):CvD H F σ nh (.tup [a,b,c]) (.tup [x,y,z]):=
 ⟨rfl,fun i u v hu hv=>by
  match i with
  |0=>simp at hu hv;subst hu;subst hv;exact h1
  |1=>simp at hu hv;subst hu;subst hv;exact h2
  |2=>simp at hu hv;subst hu;subst hv;exact h3
  |i+3=>simp at hu⟩
theorem yI {i:Nat}:H.upd i none=H.del i:=rfl
end
end Go.AM
end
section
namespace Go.AM
open Go.RowKit
section
variable {P : Program} {H : aA} {nx : Nat}
theorem uO {F:Nat→Prop} {σ:Nat→Nat} {nh n m m':Nat} {R rows' rows:List (List D1)} {r' r:List D1} (e':rows'=R++[r']) (e:rows=R++[r]) (hR: ∀r∈R,∀x∈r,x.dQ=true) (hm:m'=m) (h:CvL H F σ nh r' r):CvO H F σ nh ⟨n,m',rows'⟩ ⟨n,m,rows⟩:=by
 subst e';subst e;subst hm
 refine⟨rfl,rfl,by simp,fun _ h=>by simp at h,fun i r1 h1=> ?_⟩
 simp only[List.getElem?_append] at h1 ⊢
 by_cases hi:i<R.length
 ·rw[if_pos hi] at h1 ⊢
  exact⟨r1,h1,GW fun x hx=>hR r1 (List.mem_of_getElem? h1) x hx⟩
 ·rw[if_neg hi] at h1 ⊢
  rw[List.getElem?_singleton] at h1 ⊢
  split at h1
  ·rename_i h0;cases h1;exact⟨r,if_pos h0,h⟩
  ·cases h1
theorem ay5 {F:Nat→Prop} {σ:Nat→Nat} {nh:Nat} {x y:D1} (hx:x.dQ=true) (h:Cv1 H F σ nh x y):Frz H F x y:=by
 cases h with
 |frz h=>exact h
 |osl=>cases hx
 |VS=>cases hx
 |ptr=>cases hx
 |omap=>cases hx
 |clo=>cases hx
 |dead=>cases hx
theorem alH {b:Nat} {live:List Nat} {K:Env→aA→Nat→Prop} {L:List aY} {dst:Option Nat} {e:Env} {S:dJ} {ix:Nat} {xs:List aT} {m s:List Nat} {lk:Bool} {neg:Bool}:wv P b live K (⟨ix,dst,.xop (.qJ neg) xs,none,m,s,lk⟩::L) e H nx S=xl P (b+ix) (msk b m H) nx (DQ P b live K L dst m s e H S) (.qJ neg) (xs.map (·.ev e)):=aaO rfl
theorem ak7 {F:Nat→Prop} {σ:Nat→Nat} {nh n m m':Nat} {R rows' rows:List (List D1)} {r' r:List D1} {i:Nat} (e':rows'=R) (e:rows=R.set i r) (hi:R[i]?=some r') (hR: ∀r∈R,∀x∈r,x.dQ=true) (hm:m'=m) (h:CvL H F σ nh r' r):CvO H F σ nh ⟨n,m',rows'⟩ ⟨n,m,rows⟩:=by
 subst e';subst e;subst hm
 refine⟨rfl,rfl,by simp,fun _ h=>by dsimp only at h ⊢;rw[h];rfl,fun j r1 h1=> ?_⟩
 simp only[List.getElem?_set]
 by_cases hj:i=j
 ·subst hj
  have hlt:i<rows'.length:=(List.getElem?_eq_some_iff.1 h1).1
  rw[if_pos rfl,if_pos hlt]
  rw[hi] at h1;cases h1
  exact⟨r,rfl,h⟩
 ·rw[if_neg hj]
  exact⟨r1,h1,GW fun x hx=>hR r1 (List.mem_of_getElem? h1) x hx⟩
theorem atN {α:Type} [Inhabited α] {enc:α→List D1} {l:List α} {k:Nat} (h:k<l.length):(l.map enc)[k]?=some (enc (l.getD k default)):=by
 simp[List.getD,h]
theorem atL {c:Prop} [Decidable c] {A B:Prop} (h1:c→A) (h2: ¬c→B):if c then A else B:=by
 split
 ·exact h1 ‹_›
 ·exact h2 ‹_›
attribute [go_sem] alH
end
end Go.AM
end
section
namespace Go.AM
@[reducible,go_sem] def rq (i t:Nat) (o:AOp):aY:=⟨i,some t,o,none,[],[],false⟩
@[reducible,go_sem] def rn (i:Nat) (o:AOp):aY:=⟨i,none,o,none,[],[],false⟩
@[reducible,go_sem] def ki (n:Int):aT:=.kv (.int .i64 n)
@[reducible,go_sem] def RM (i t a:Nat):aY:=rq i t (.move (.tm a))
@[reducible,go_sem] def RF (i t k a:Nat):aY:=rq i t (.fld k (.tm a))
@[reducible,go_sem] def RL (i t a:Nat):aY:=rq i t (.load 1 false (.tm a))
@[reducible,go_sem] def RK (i t a:Nat):aY:=rq i t (.tF (.tm a))
@[reducible,go_sem] def GQ (i t:Nat) (o:AOp) (g:Nat) (b:Bool):aY:=⟨i,some t,o,some (g,b),[],[],false⟩
@[reducible,go_sem] def VZ:D1:=.v (.int .i64 0)
@[reducible,go_sem] def OZ:D1:=.osl 0 0 0 0 0
@[reducible] def cz (i:Nat):Nat×List Nat×List Nat×Bool:=(i,[],[],false)
def aN (P:Program) (f:FuncId) (fn:Func) (ac:AC) (rs:List aW):Prop:=
 ∀{args:List D} {H:aA} {nx:Nat} {KK:D→aA→Nat→Prop} (_hl:Nat.ble args.length fn.ntmps=true)
  (_h: ∀Q:AQ,(∀ex e2 H2 nx2 d nh d2 H3 F σ,ex= .normal∨ex= .ret→yT H2 e2 rs=some d→CvR nx d H2 nh d2 H3 F σ→KK d2 H3 nh→Q ex e2 H2 nx2)→aM P fn.ntmps [ac] (Env.args 0 args) H nx Q),aB P f args H nx KK
theorem aN.mk {P:Program} {f:FuncId} {fn:Func} {ac:AC} {rs:List aW} {cs:List Cert}
 (hf:P.funcs[f]?=some fn) (hok:qY P f=true) (hc:aO P fn cs=some (ac,rs)):aN P f fn ac rs:=
 fun hl h=>aB.body hf hok hc (Nat.le_of_ble_eq_true hl) h
theorem dbT {p:Prop} [Decidable p] (h:p):D1.v (.bool (decide p))= .v (.bool true):=by rw[decide_eq_true h]
theorem dbF {p:Prop} [Decidable p] (h: ¬p):D1.v (.bool (decide p))= .v (.bool false):=by rw[decide_eq_false h]
theorem dbE {p q:Prop} [Decidable p] [Decidable q] (h:p↔q):D1.v (.bool (decide p))= .v (.bool (decide q)):=by rw[decide_eq_decide.2 h]
theorem diE {a b:Int} (h:a=b):D1.v (.int .i64 a)= .v (.int .i64 b):=by rw[h]
abbrev C0:=@arT
abbrev D0:=@aqR
abbrev C1:=@K6
abbrev C2:=@oF
abbrev C3:=@eP
abbrev C4:=@aH
abbrev aUP:=@ay7
abbrev bfY:=@aUJ
abbrev aUQ:=@ayY
abbrev aUR:=@azN
abbrev C9:=@lY
abbrev CJ:=@apS
abbrev CA:=@aE
abbrev CB:=@bB
abbrev CC:=@afQ
abbrev CQ:=@aaF
abbrev CE:=@afZ
abbrev CR:=@aa6
abbrev CF:=@xG
abbrev CG:=@asF
abbrev CH:=@YY
abbrev CI:=@aeE
abbrev Z1:=@aM.seq
abbrev Z2:=@aM.skip
abbrev Z3:=@aM.block
abbrev Z4:=@asU
abbrev Z5:=@ar9
abbrev Z6:=@atE
abbrev Z7:=@atL
abbrev Z8:=@atC
abbrev Y1:=@aM.asL
abbrev Y2:=@aM.reg
abbrev Y3:=@aM.ar8
abbrev Y4:=@aqG
abbrev Y5:=@arS
abbrev Y6:=@asQ
abbrev Y7:=@ap6
abbrev Y8:=@aM.ret
abbrev Y9:=@aM.exit
abbrev Y0:=@aM.nil
abbrev Iw:=@IntWalk.i64_in
end Go.AM
end
end
section
namespace Go.Proofs.Ytmccpdapaccnoaa
open Go Go.AM
def bhJ:Nat:=3
def bgL:Nat:=4
def zX:Nat:=5
def au9:Nat:=6
def aIZ:Nat:=7
def jN:Nat:=8
def E2:Nat:=9
def bgS:Nat:=10
def kN:Nat:=11
def cG:Nat:=12
def bJ:Nat:=13
def iG:Nat:=14
def wK:Nat:=15
def jM:Nat:=16
def aIR:Nat:=17
def aIM:Nat:=18
def aJS:Nat:=19
def aI0:Nat:=20
def qO:Nat:=21
def nI:Nat:=22
def bhC:Nat:=23
def kE:Nat:=24
def aD:Nat:=25
def aVK:Nat:=26
def aVA:Nat:=27
def aNJ:Nat:=28
def gL:Nat:=29
def wC:Nat:=30
def jC:Nat:=31
def fL:Nat:=32
def eX:Nat:=33
def eO:Nat:=34
def aIW:Nat:=35
def aI8:Nat:=36
def aKL:Nat:=37
def cQ:Nat:=38
def lJ:Nat:=39
def bhA:Nat:=40
def AE:Nat:=41
def bgZ:Nat:=42
def bg9:Nat:=43
def v7:Nat:=44
def aU9:Nat:=45
def tN:Nat:=46
def tS:Nat:=47
def cL:Nat:=48
def jW:Nat:=49
def lG:Nat:=50
def iD:Nat:=51
def gO:Nat:=52
def gG:Nat:=53
def B9:Nat:=54
def bg8:Nat:=55
def bg7:Nat:=56
def bhG:Nat:=57
def bgM:Nat:=58
def v8:Nat:=59
def qM:Nat:=60
def eS:Nat:=62
def eG:Nat:=63
def CS:Nat:=64
def bgR:Nat:=65
def bhB:Nat:=66
def bgN:Nat:=67
def aN2:Nat:=68
def bgQ:Nat:=69
def aAY:Nat:=71
def aA4:Nat:=72
def aAZ:Nat:=73
def W3:Nat:=74
def H5:Nat:=75
def v9:Nat:=76
def y3:Nat:=77
def aA6:Nat:=78
def aAX:Nat:=79
def aNH:Nat:=80
def aBG:Nat:=81
def aBF:Nat:=82
def y2:Nat:=83
def aA3:Nat:=84
end Go.Proofs.Ytmccpdapaccnoaa
end
section
namespace Go.Proofs.Ytmccpdapaccnoaa
open Go Go.AM
set_option maxRecDepth 100000
def bgO:AC:=
 (.seq (.region [rq 0 2 (.move (.kv (.bool false)))] 1 [0])
 (.seq (.seq (.region [RM 0 8 0,
 rq 1 9 (.len false (.tm 8)),
 rq 2 10 (.bin .gtr (.tm 9) (ki 1048576))] 3 [0,10])
 (.cond (.tm 10)
 (.seq (.region [rq 0 2 (.move (.kv (.bool true)))] 1 [2])
 .ret)
 .skip))
 (.seq (.region [RM 0 11 0,
 rq 1 12 (.call bgL [(.tm 11)]),
 rq 2 3 (.alloc [OZ,OZ,OZ,OZ,OZ]),
 rn 3 (.store 5 true (.tm 3) (.tm 12))] 4 [3])
 (.seq (.region [rq 0 13 (.load 5 true (.tm 3)),
 rq 1 14 (.call zX [(.tm 13)]),
 rq 2 4 (.alloc [OZ,OZ,OZ,OZ,OZ,OZ]),
 rn 3 (.store 6 true (.tm 4) (.tm 14))] 4 [3,4])
 (.seq (.seq (.region [⟨0,(some 15),.load 6 true (.tm 4),none,[],[],true⟩,
 rq 1 16 (.load 5 true (.tm 3)),
 ⟨2,(some 17),.call aIZ [(.tm 16)],none,[],[0],false⟩,
 rq 3 18 (.call au9 [(.tm 15),(.tm 17)]),
 rq 4 19 (.un .not (.tm 18))] 5 [3,4,19])
 (.cond (.tm 19)
 (.seq (.region [rq 0 2 (.move (.kv (.bool false)))] 1 [2])
 .ret)
 .skip))
 (.seq (.region [rq 0 5 (.move (ki 0))] 1 [3,4,5])
 (.seq (.seq (.region [rq 0 6 (.move (ki 0))] 1 [3,4,5,6])
 (.block 0
 (.loop
 (.seq (.seq (.region [RM 0 20 6,
 RF 1 21 2 3,
 RL 2 22 21,
 rq 3 23 (.len false (.tm 22)),
 rq 4 24 (.bin .lss (.tm 20) (.tm 23))] 5 [3,4,5,6,24])
 (.cond (.tm 24)
 .skip
 (.exit 0)))
 (.seq (.block 1
 (.region [RM 0 27 5,
 RF 1 28 2 3,
 RL 2 29 28,
 RM 3 30 6,
 rq 4 31 (.idx 4 (.tm 29) (.tm 30)),
 RF 5 32 1 31,
 RL 6 33 32,
 rq 7 34 (.len false (.tm 33)),
 rq 8 35 (.bin .add (.tm 27) (.tm 34)),
 RM 9 5 35] 10 [3,4,5,6]))
 (.region [RM 0 25 6,
 rq 1 26 (.bin .add (.tm 25) (ki 1)),
 RM 2 6 26] 3 [3,4,5,6]))))))
 (.seq (.seq (.region [rq 0 7 (.move (ki 0))] 1 [3,4,5,7])
 (.block 2
 (.loop
 (.seq (.seq (.region [RM 0 36 7,
 RF 1 37 3 3,
 RL 2 38 37,
 rq 3 39 (.len false (.tm 38)),
 rq 4 40 (.bin .lss (.tm 36) (.tm 39))] 5 [3,4,5,7,40])
 (.cond (.tm 40)
 .skip
 (.exit 2)))
 (.seq (.block 3
 (.region [RM 0 43 5,
 RF 1 44 3 3,
 RL 2 45 44,
 RM 3 46 7,
 rq 4 47 (.idx 3 (.tm 45) (.tm 46)),
 RF 5 48 0 47,
 RL 6 49 48,
 rq 7 50 (.len false (.tm 49)),
 rq 8 51 (.bin .add (.tm 43) (.tm 50)),
 RM 9 5 51] 10 [3,4,5,7]))
 (.region [RM 0 41 7,
 rq 1 42 (.bin .add (.tm 41) (ki 1)),
 RM 2 7 42] 3 [3,4,5,7]))))))
 (.seq (.region [RF 0 52 3 4,
 RL 1 53 52,
 rq 2 54 (.len false (.tm 53)),
 RM 3 55 5,
 rq 4 56 (.bin .eql (.tm 54) (.tm 55)),
 RM 5 57 56,
 GQ 6 58 (.fld 5 (.tm 4)) 57 true,
 GQ 7 59 (.load 1 false (.tm 58)) 57 true,
 GQ 8 60 (.fld 4 (.tm 3)) 57 true,
 GQ 9 61 (.load 1 false (.tm 60)) 57 true,
 GQ 10 62 (.call jN [(.tm 59),(.tm 61)]) 57 true,
 rq 11 63 (.pick (.tm 57) (.tm 62) (.kv (.bool false))),
 RM 12 64 63,
 GQ 13 65 (.fld 2 (.tm 4)) 64 true,
 GQ 14 66 (.load 1 false (.tm 65)) 64 true,
 GQ 15 67 (.len false (.tm 66)) 64 true,
 GQ 16 68 (.fld 2 (.tm 3)) 64 true,
 GQ 17 69 (.load 1 false (.tm 68)) 64 true,
 GQ 18 70 (.len false (.tm 69)) 64 true,
 GQ 19 71 (.bin .eql (.tm 67) (.tm 70)) 64 true,
 rq 20 72 (.pick (.tm 64) (.tm 71) (.kv (.bool false))),
 RM 21 73 72,
 GQ 22 74 (.call E2 []) 73 true,
 rq 23 75 (.pick (.tm 73) (.tm 74) (.kv (.bool false))),
 RM 24 2 75] 25 [2])
 .ret)))))))))
def bh4:List Cert:=[⟨[],[0]⟩,⟨[],[0,10]⟩,⟨[],[2]⟩,⟨[],[3]⟩,⟨[],[3,4]⟩,⟨[(0,[],[],true),cz 1,(2,[],[0],false),cz 3,cz 4],[3,4,19]⟩,⟨[],[2]⟩,⟨[],[3,4,5]⟩,⟨[],[3,4,5,6]⟩,⟨[],[3,4,5,6,24]⟩,⟨[],[3,4,5,6]⟩,⟨[],[3,4,5,6]⟩,⟨[],[3,4,5,7]⟩,⟨[],[3,4,5,7,40]⟩,⟨[],[3,4,5,7]⟩,⟨[],[3,4,5,7]⟩,⟨[],[2]⟩]
def bhF:List aW:=[.tm 2]
theorem bh7:aO Try.prog Try.f3 bh4=some (bgO,bhF):=by kernel_rfl
end Go.Proofs.Ytmccpdapaccnoaa
end
