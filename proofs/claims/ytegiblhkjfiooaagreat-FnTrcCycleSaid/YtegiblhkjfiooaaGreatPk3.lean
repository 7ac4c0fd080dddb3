/- Texts laid together by a program: rules, contracts and the walk that leads to the law. -/
import Derived.Test.YtegiblhkjfiooaaGreatPk2
import Derived.Lib.Overlaps
import Derived.Test.YtegiblhkjfiooaaGreatProg
set_option linter.unusedVariables false
set_option linter.unusedSimpArgs false
set_option linter.unusedSectionVars false
section
section
namespace Go.AM
open Go.RowKit
def cK (A B:Prop):D→Prop
 | .one (.c (.v (.bool t)))=>(t=true→A)∧(t=false→B)
 |_=>False
section
variable {P : Program} {T : Nat} {b : Nat} {live : List Nat} {K : Env → aA → Nat → Prop} {L : List bB} {dst : Option Nat} {e : Env} {H : aA} {nx : Nat} {S : dF} {Q : AQ} {x y z : AC} {zs : List AC}
theorem aQ.asF {c:aT} (h: ∀A B:Prop,(aQ P T (x::zs) e H nx Q→A)→(aQ P T (y::zs) e H nx Q→B)→cK A B (c.ev e)):aQ P T (.cond c x y::zs) e H nx Q:=by
 have h:=h _ _ id id
 unfold cK at h
 split at h
 ·rename_i t ht
  exact aQ.cond ht h.1 h.2
 ·exact h.elim
theorem as3 {A B:Prop}:cK A B (.one (.c (.v (.bool true))))=A:=by simp[cK]
theorem asS {A B:Prop}:cK A B (.one (.c (.v (.bool false))))=B:=by simp[cK]
theorem asX {A B:Prop} {t:Bool} (h1:t=true→A) (h2:t=false→B):cK A B (.one (.c (.v (.bool t)))):=⟨h1,h2⟩
theorem arP {A B:Prop} {p:Prop} [Decidable p] (h:p) (h1:A):cK A B (.one (.c (.v (.bool (decide p))))):=⟨fun _=>h1,fun h2=>by simp[h] at h2⟩
theorem arX {A B:Prop} {p:Prop} [Decidable p] (h: ¬p) (h1:B):cK A B (.one (.c (.v (.bool (decide p))))):=⟨fun h2=>by simp[h] at h2,fun _=>h1⟩
theorem asT {A B:Prop} {p:Prop} [Decidable p] (h1:p→A) (h2: ¬p→B):cK A B (.one (.c (.v (.bool (decide p))))):=⟨fun h=>h1 (by simpa using h),fun h=>h2 (by simpa using h)⟩
def wvH (P:Program) (b:Nat) (live:List Nat) (K:Env→aA→Nat→Prop) (o:bB) (L:List bB) (t:Nat) (w:Bool) (e:Env) (H:aA) (nx:Nat) (S:dF):D→Prop
 | .one (.c (.v (.bool x)))=>if x=w then wv P b live K (o::L) (e.set t (.one (.c (.v (.bool x))))) H nx S else wv P b live K L ((e.set t (.one (.c (.v (.bool x))))).put o.dst (.tup [])) H nx S
 | .tup []=>wv P b live K L (e.put o.dst (.tup [])) H nx S
 |_=>False
theorem Env.alY {e:Env} {t:Nat} {d:D} (h:e t=d):e.set t d=e:=by
 funext i;simp only[Env.set];split
 ·rename_i hi;rw[hi,h]
 ·rfl
theorem as0 {ix t:Nat} {w:Bool} {op:AOp} {m s:List Nat} {k:Bool}:wv P b live K (⟨ix,dst,op,some (t,w),m,s,k⟩::L) e H nx S=wvH P b live K ⟨ix,dst,op,none,m,s,k⟩ L t w e H nx S (e t):=by
 rw[as4]
 generalize he:e t=d
 by_cases hd: ∃x,d= .one (.c (.v (.bool x)))
 ·obtain⟨x,rfl⟩:=hd
  simp only[wvG,wvH]
  rw[Env.alY he]
 ·by_cases hu:d= .tup []
  ·subst hu;rfl
  ·unfold wvG wvH
   split
   ·exact absurd ⟨_,rfl⟩ hd
   ·exact absurd rfl hu
   ·split
    ·exact absurd ⟨_,rfl⟩ hd
    ·exact absurd rfl hu
    ·rfl
theorem ar9 {o:bB} {t:Nat} {w:Bool}:wvH P b live K o L t w e H nx S (.tup [])=wv P b live K L (e.put o.dst (.tup [])) H nx S:=rfl
theorem aq4 {o:bB} {t:Nat}:wvH P b live K o L t true e H nx S (.one (.c (.v (.bool true))))=wv P b live K (o::L) (e.set t (.one (.c (.v (.bool true))))) H nx S:=rfl
theorem arJ {o:bB} {t:Nat}:wvH P b live K o L t true e H nx S (.one (.c (.v (.bool false))))=wv P b live K L ((e.set t (.one (.c (.v (.bool false))))).put o.dst (.tup [])) H nx S:=rfl
theorem aqU {o:bB} {t:Nat}:wvH P b live K o L t false e H nx S (.one (.c (.v (.bool true))))=wv P b live K L ((e.set t (.one (.c (.v (.bool true))))).put o.dst (.tup [])) H nx S:=rfl
theorem aq3 {o:bB} {t:Nat}:wvH P b live K o L t false e H nx S (.one (.c (.v (.bool false))))=wv P b live K (o::L) (e.set t (.one (.c (.v (.bool false))))) H nx S:=rfl
theorem apO {o:bB} {t:Nat} {w u:Bool} (h1:u=true→wvH P b live K o L t w e H nx S (.one (.c (.v (.bool true))))) (h2:u=false→wvH P b live K o L t w e H nx S (.one (.c (.v (.bool false))))):
 wvH P b live K o L t w e H nx S (.one (.c (.v (.bool u)))):=by
 cases u with
 |true=>exact h1 rfl
 |false=>exact h2 rfl
theorem aqK {o:bB} {t:Nat} {w:Bool} {p:Prop} [Decidable p] (h:p) (h1:wvH P b live K o L t w e H nx S (.one (.c (.v (.bool true))))):wvH P b live K o L t w e H nx S (.one (.c (.v (.bool (decide p))))):=by
 rw[decide_eq_true h];exact h1
theorem aqG {o:bB} {t:Nat} {w:Bool} {p:Prop} [Decidable p] (h: ¬p) (h1:wvH P b live K o L t w e H nx S (.one (.c (.v (.bool false))))):wvH P b live K o L t w e H nx S (.one (.c (.v (.bool (decide p))))):=by
 rw[decide_eq_false h];exact h1
theorem asB {o:bB} {t:Nat} {w:Bool} {p:Prop} [Decidable p] (h1:p→wvH P b live K o L t w e H nx S (.one (.c (.v (.bool true))))) (h2: ¬p→wvH P b live K o L t w e H nx S (.one (.c (.v (.bool false))))):
 wvH P b live K o L t w e H nx S (.one (.c (.v (.bool (decide p))))):=
 apO (fun h=>h1 (by simpa using h)) (fun h=>h2 (by simpa using h))
theorem ajS {ix:Nat} {z:List D1} {m s:List Nat} {k:Bool}:wv P b live K (⟨ix,dst,.alloc z,none,m,s,k⟩::L) e H nx S=wvA P b live K L dst (b+ix) e H nx S (mT (b+ix) e (.alloc z)):=aj4 rfl
theorem arH {ix:Nat} {g:Bool} {x:aT} {m s:List Nat} {k:Bool}:wv P b live K (⟨ix,dst,.box g x,none,m,s,k⟩::L) e H nx S=wvA P b live K L dst (b+ix) e H nx S (mT (b+ix) e (.box g x)):=aj4 rfl
theorem ah1 {ix n len:Nat} {z:List D1} {ps:List (Nat×Nat×aT)} {m s:List Nat} {k:Bool}:wv P b live K (⟨ix,dst,.bI n len z ps,none,m,s,k⟩::L) e H nx S=wvA P b live K L dst (b+ix) e H nx S (mT (b+ix) e (.bI n len z ps)):=aj4 rfl
theorem aeX {ix n:Nat} {z:List D1} {x y:aT} {m s:List Nat} {k:Bool}:wv P b live K (⟨ix,dst,.oK n z x y,none,m,s,k⟩::L) e H nx S=wvA P b live K L dst (b+ix) e H nx S (mT (b+ix) e (.oK n z x y)):=aj4 rfl
theorem aoU {id:Nat} {m st:List Nat} {c:Prop} [Decidable c] {kc:Nat} {x:Option (Option Nat×Nat×Nat×List (List D1))}:wvP P b live K L dst id m st e H nx S kc (if c then x else none)=(c∧wvP P b live K L dst id m st e H nx S kc x):=by
 split<;>rename_i h<;>simp[h,wvP]
theorem aqF {n i off len cap:Nat}:amF (.one (.c (.osl n i off len cap)))=cap:=rfl
theorem XM {st:List Nat}:mV [] st H=True:=by simp[mV]
theorem XH {p:Nat} {g:aA→Prop} {st:List Nat}:mV ((p,g)::S) st H=((p∈st→g H)∧mV S st H):=by
 simp[mV]
theorem ahX {k:XK} {l:List aT}:aU H e (.xop k l)=xq k (l.map (·.ev e)):=rfl
def alN (P:Program) (args:List D) (H:aA) (nx:Nat) (R:D→aA→Nat→Prop):D→Prop
 | .one (.c (.clo f caps))=>aB P f (args++caps.map fun d=>.one (.c d)) H nx R
 |_=>False
theorem ak3 {ix:Nat} {f:aT} {xs:List aT} {m s:List Nat} {k:Bool}:wv P b live K (⟨ix,dst,.rE f xs,none,m,s,k⟩::L) e H nx S=alN P (xs.map (·.ev e)) (msk b m H) nx (CY P b live K L dst m s e H S) (f.ev e):=by
 unfold wv
 simp only[avc,m7,xB,aop,AOp.kind,IP]
 generalize f.ev e=d
 unfold alN
 split
 ·simp only[D.one.injEq,DV.c.injEq,D1.clo.injEq,eq_iff_iff]
  exact⟨by rintro⟨_,_,⟨rfl,rfl⟩,h⟩;exact h,fun h=>⟨_,_,⟨rfl,rfl⟩,h⟩⟩
 ·rename_i hne
  simp only[eq_iff_iff,iff_false]
  rintro⟨f,caps,rfl,_⟩
  exact hne f caps rfl
section
variable {id i kn : Nat} {bl ok : Bool} {R : D → aA → Nat → Prop} {m : nI} {l : List Int} {n : Int} {k v : D}
theorem anC:xl P id H nx R (.EP kn bl) []=R (.one (.c (.omap id))) (H.set id (xA ⟨kn,bl,[]⟩)) nx:=rfl
theorem aiT:xl P id H nx R .uN [.one (.c (.omap i))]=xlL H nx R (I3 H i):=rfl
theorem acD:xl P id H nx R .uN [.one (.c (.NR m))]=xlL H nx R (some m):=rfl
theorem aeH:xl P id H nx R (.tG kn bl ok) [.one (.c (.NR m)),k]=xlG H nx R kn bl ok (some m) (PQ kn k):=rfl
theorem aiS:xl P id H nx R (.tG kn bl ok) [.one (.c (.omap i)),k]=xlG H nx R kn bl ok (I3 H i) (PQ kn k):=rfl
theorem ai0:xl P id H nx R (.xF kn bl) [.one (.c (.omap i)),k,v]=xlS H nx R kn bl i (I3 H i) (PQ kn k) (TA bl v):=rfl
theorem amW:xlL H nx R (some m)=R (.one (.c (.v (.int .i64 m.m.length)))) H nx:=rfl
theorem ar2:xlG H nx R kn bl true (some m) (some l)=((m.kn=kn∧m.bl=bl∧l.length=AZ kn)∧R (.tup [.c (.v (elemV bl ((kI m.m l).getD 0))),.c (.v (.bool (kI m.m l).isSome))]) H nx):=rfl
theorem asH:xlG H nx R kn bl false (some m) (some l)=((m.kn=kn∧m.bl=bl∧l.length=AZ kn)∧R (.one (.c (.v (elemV bl ((kI m.m l).getD 0))))) H nx):=rfl
theorem amD:xlS H nx R kn bl i (some m) (some l) (some n)=((m.kn=kn∧m.bl=bl∧l.length=AZ kn)∧R .dead (H.set i (xA ⟨kn,bl,wQ m.m l n⟩)) nx):=rfl
theorem akF:I3 H i=(H i).bind ajZ:=rfl
theorem alF {cs:List D1}:PQ kn (.one (.agg cs))=if kn=0 then none else AP cs:=rfl
theorem aq9:PQ kn (.one (.c (.v (.int .i64 n))))=if kn=0 then some [n] else none:=rfl
theorem anP {b:Bool}:TA bl (.one (.c (.v (.bool b))))=if bl then some (if b then 1 else 0) else none:=rfl
theorem anQ:TA bl (.one (.c (.v (.int .i64 n))))=if bl then none else some n:=rfl
theorem aoS:elemV true n= .bool (decide (n≠0)):=rfl
theorem an9:elemV false n= .int .i64 n:=rfl
theorem ahG:AP []=some []:=rfl
theorem ab2 {r:List D1}:AP (.v (.int .i64 n)::r)=(AP r).map (n:: ·):=rfl
theorem arK {xs ys:List D1} {q:Nat}:xq (.aeq q) [.one (.agg xs),.one (.agg ys)]=eqD q xs ys (AP xs) (AP ys):=rfl
theorem alX {xs ys:List D1} {q:Nat} {a b:List Int}:eqD q xs ys (some a) (some b)=if xs.length=q∧ys.length=q then some (.one (.c (.v (.bool (decide (a=b)))))) else none:=rfl
theorem apB:AZ kn=if kn=0 then 1 else kn:=rfl
end
theorem HE {F:Nat→Prop} {σ:Nat→Nat} {nh:Nat} {x x':nI} (h:x'=x):CvO H F σ nh (xA x') (xA x):=by
 subst h;exact aN fun r hr=>by cases hr
theorem ah5 {f:FuncId} {caps:List D1} {args:List D} {R:D→aA→Nat→Prop}:alN P args H nx R (.one (.c (.clo f caps)))=aB P f (args++caps.map fun d=>.one (.c d)) H nx R:=rfl
theorem asO {a b:Int}:(a==b)=decide (a=b):=by by_cases h:a=b<;>simp[h]
theorem asY {a b:Int}:(a != b)=decide (¬a=b):=by by_cases h:a=b<;>simp[h]
theorem asZ {p:Prop} [Decidable p]:(!decide p)=decide (¬p):=by by_cases h:p<;>simp[h]
theorem aoD {α:Type} {enc:α→List D1} {l:List α} {i:Nat} {x:α}:(l.map enc).set i (enc x)=(l.set i x).map enc:=(List.map_set).symm
theorem akE {α:Type} {enc:α→List D1} {l:List α} {x:α}:l.map enc++[enc x]=(l++[x]).map enc:=by simp
theorem aj1 {α:Type} {enc:α→List D1} {l:List α} {k:Nat}:(l.map enc).take k=(l.take k).map enc:=(List.map_take).symm
theorem akY {α:Type} {enc:α→List D1} {l:List α} {k:Nat}:(l.map enc).drop k=(l.drop k).map enc:=(List.map_drop).symm
end
abbrev dI (n:Int):D:=.one (.c (.v (.int .i64 n)))
abbrev dB (b:Bool):D:=.one (.c (.v (.bool b)))
abbrev dS (rows:List (List D1)):D:=.one (.c (.isl rows))
abbrev dO (n id len cap:Nat):D:=.one (.c (.osl n id 0 len cap))
abbrev dP (n id:Nat):D:=.one (.c (.ptr n id 0 0))
abbrev dA (cs:List D1):D:=.one (.agg cs)
abbrev cI (n:Int):D1:=.v (.int .i64 n)
abbrev cB (b:Bool):D1:=.v (.bool b)
def aE (x:Int):List D1:=[.v (.int .i64 x)]
theorem wT {p:Prop} [Decidable p] (h:p):dB true=dB (decide p):=by rw[decide_eq_true h]
theorem pO {p:Prop} [Decidable p] (h: ¬p):dB false=dB (decide p):=by rw[decide_eq_false h]
theorem pF {p q:Prop} [Decidable p] [Decidable q] (h:p↔q):dB (decide p)=dB (decide q):=by rw[decide_eq_decide.2 h]
theorem nQ {a b:Int} (h:a=b):dI a=dI b:=by rw[h]
theorem am1 {l:List Int} {x:Int}:l.map aE++[[.v (.int .i64 x)]]=(l++[x]).map aE:=by simp[aE]
theorem an6 {l:List Int} {i:Nat} {x:Int}:(l.map aE).set i [.v (.int .i64 x)]=(l.set i x).map aE:=by rw[List.map_set];rfl
attribute [go_sem] am1 an6
section
variable {rows : List (List D1)} {k k' k'' : IntKind} {a b c : Int} {n m id off len cap : Nat}
theorem aq5:t7 n (.one (.c (.isl rows))) none (some (.one (.c (.v (.int k a))))) none=if (0≤a∧a≤rows.length)∧(∀r∈rows,r.length=n) then some (.one (.c (.isl (rows.take a.toNat)))) else none:=by
 by_cases hP: ∀r∈rows,r.length=n
 ·by_cases ha:0≤a<;>simp only[t7,FD,ha,eq_true hP,if_true,if_false,reduceIte,and_true,and_false,true_and,false_and]<;>(repeat' split)<;>first|rfl| (exfalso;omega)| (simp only[List.drop_zero,Nat.sub_zero,Option.some.injEq,D.one.injEq,DV.c.injEq,D1.isl.injEq];first|rfl|exact List.take_of_length_le (by simp)|exact List.take_of_length_le (Nat.le_refl _))
 ·by_cases ha:0≤a<;>simp only[t7,FD,ha,eq_false hP,if_true,if_false,reduceIte,and_true,and_false,true_and,false_and]<;>(repeat' split)<;>first|rfl| (exfalso;omega)| (simp only[List.drop_zero,Nat.sub_zero,Option.some.injEq,D.one.injEq,DV.c.injEq,D1.isl.injEq];first|rfl|exact List.take_of_length_le (by simp)|exact List.take_of_length_le (Nat.le_refl _))
theorem aqQ:t7 n (.one (.c (.isl rows))) (some (.one (.c (.v (.int k a))))) none none=if (0≤a∧a≤rows.length)∧(∀r∈rows,r.length=n) then some (.one (.c (.isl (rows.drop a.toNat)))) else none:=by
 by_cases hP: ∀r∈rows,r.length=n
 ·by_cases ha:0≤a<;>simp only[t7,FD,ha,eq_true hP,if_true,if_false,reduceIte,and_true,and_false,true_and,false_and]<;>(repeat' split)<;>first|rfl| (exfalso;omega)| (simp only[List.drop_zero,Nat.sub_zero,Option.some.injEq,D.one.injEq,DV.c.injEq,D1.isl.injEq];first|rfl|exact List.take_of_length_le (by simp)|exact List.take_of_length_le (Nat.le_refl _))
 ·by_cases ha:0≤a<;>simp only[t7,FD,ha,eq_false hP,if_true,if_false,reduceIte,and_true,and_false,true_and,false_and]<;>(repeat' split)<;>first|rfl| (exfalso;omega)| (simp only[List.drop_zero,Nat.sub_zero,Option.some.injEq,D.one.injEq,DV.c.injEq,D1.isl.injEq];first|rfl|exact List.take_of_length_le (by simp)|exact List.take_of_length_le (Nat.le_refl _))
theorem arN:t7 n (.one (.c (.osl m id off len cap))) none (some (.one (.c (.v (.int k a))))) none=if (m=n∨cap=0)∧0≤a∧a≤cap then some (.one (.c (.osl n id off a.toNat cap))) else none:=by
 by_cases ha:0≤a<;>simp only[t7,FD,aaN,ha,if_true,if_false,reduceIte,and_true,true_and,and_false,false_and]<;>(repeat' split)<;>first| (exfalso;omega)| (simp;done)| (simp;omega)
theorem ap9:t7 n (.one (.c (.osl m id off len cap))) (some (.one (.c (.v (.int k a))))) none none=if (m=n∨cap=0)∧0≤a∧a≤len∧len≤cap then some (.one (.c (.osl n id (off+a.toNat) (len-a.toNat) (cap-a.toNat)))) else none:=by
 by_cases ha:0≤a<;>simp only[t7,FD,aaN,ha,if_true,if_false,reduceIte,and_true,true_and,and_false,false_and]<;>(repeat' split)<;>first| (exfalso;omega)| (simp;done)| (simp;omega)
theorem anG:t7 n (.one (.c (.osl m id off len cap))) (some (.one (.c (.v (.int k a))))) (some (.one (.c (.v (.int k' b))))) none=if (m=n∨cap=0)∧0≤a∧a≤b∧b≤cap then some (.one (.c (.osl n id (off+a.toNat) (b.toNat-a.toNat) (cap-a.toNat)))) else none:=by
 by_cases ha:0≤a<;>by_cases hb:0≤b<;>simp only[t7,FD,aaN,ha,hb,if_true,if_false,reduceIte,and_true,true_and,and_false,false_and]<;>(repeat' split)<;>first| (exfalso;omega)| (simp;done)| (simp;omega)
theorem ao7:t7 n (.one (.c (.osl m id off len cap))) none (some (.one (.c (.v (.int k a))))) (some (.one (.c (.v (.int k' b)))))=if (m=n∨cap=0)∧0≤a∧a≤b∧b≤cap then some (.one (.c (.osl n id off a.toNat b.toNat))) else none:=by
 by_cases ha:0≤a<;>by_cases hb:0≤b<;>simp only[t7,FD,aaN,ha,hb,if_true,if_false,reduceIte,and_true,true_and,and_false,false_and]<;>(repeat' split)<;>first| (exfalso;omega)| (simp;done)| (simp;omega)
theorem al8:t7 n (.one (.c (.osl m id off len cap))) (some (.one (.c (.v (.int k a))))) (some (.one (.c (.v (.int k' b))))) (some (.one (.c (.v (.int k'' c)))))=if (m=n∨cap=0)∧0≤a∧a≤b∧b≤c∧c≤cap then some (.one (.c (.osl n id (off+a.toNat) (b.toNat-a.toNat) (c.toNat-a.toNat)))) else none:=by
 by_cases ha:0≤a<;>by_cases hb:0≤b<;>by_cases hc:0≤c<;>simp only[t7,FD,aaN,ha,hb,hc,if_true,if_false,reduceIte,and_true,true_and,and_false,false_and]<;>(repeat' split)<;>first| (exfalso;omega)| (simp;done)| (simp;omega)
end
attribute [go_sem] aq5 aqQ arN ap9 anG ao7 al8 true_or or_true
def en:List (Nat×D)→Env
 | []=>Env.nil
 | (t,d)::l=>(en l).set t d
theorem arD:en []=Env.nil:=rfl
theorem aoA {t:Nat} {d:D} {l:List (Nat×D)}:en ((t,d)::l)=(en l).set t d:=rfl
def hp:List (Nat×bC)→aA
 | []=>aA.nil
 | (i,o)::l=>(hp l).set i o
theorem aqJ:hp []=aA.nil:=rfl
theorem anS {i:Nat} {o:bC} {l:List (Nat×bC)}:hp ((i,o)::l)=(hp l).set i o:=rfl
def DV.imm:DV→Bool
 | .c d=>d.dT
 | .agg ds=>ds.all D1.dT
def D.imm:D→Bool
 | .one x=>x.imm
 | .tup xs=>xs.all DV.imm
 | .dead=>false
section
variable {P : Program} {H G : aA} {F : Nat → Prop} {σ : Nat → Nat} {nx nh : Nat} {e e' : Env}
theorem YO {τ:Nat→Nat} {d:D1} (h:d.dT=true):rn1 τ d=d:=by cases d<;>first|rfl|cases h
theorem agC {τ:Nat→Nat} {d:DV} (h:d.imm=true):rnV τ d=d:=by
 cases d with
 |c d=>simp only[rnV];rw[YO h]
 |agg ds=>
  simp only[rnV]
  congr 1
  have h2:=List.all_eq_true.1 h
  conv=>rhs;rw[←List.map_id ds]
  exact List.map_congr_left fun x hx=>YO (h2 x hx)
theorem afI {τ:Nat→Nat} {d:D} (h:d.imm=true):rnD τ d=d:=by
 cases d with
 |one x=>simp only[rnD];rw[agC h]
 |dead=>rfl
 |tup xs=>
  simp only[rnD]
  congr 1
  have h2:=List.all_eq_true.1 h
  conv=>rhs;rw[←List.map_id xs]
  exact List.map_congr_left fun x hx=>agC (h2 x hx)
theorem aj2 {d:DV} (h:d.imm=true):CvV H F σ nh d d:=by
 cases d with
 |c d=>exact bG h
 |agg ds=>exact r8 fun x hx=>List.all_eq_true.1 h x hx
theorem aF {d:D} (h:d.imm=true):CvD H F σ nh d d:=by
 cases d with
 |one x=>exact aj2 h
 |dead=>trivial
 |tup xs=>
  refine⟨rfl,fun i a b ha hb=> ?_⟩
  rw[ha] at hb;cases hb
  exact aj2 (List.all_eq_true.1 h a (List.mem_of_getElem? ha))
theorem aB.fresh {f:FuncId} {args:List D} {K:D→aA→Nat→Prop} {R:D→Prop} (h:aB P f args .nil 0 fun r _ n=>n=0∧r.imm=true∧R r) (hargs:args.all D.imm=true) (hK: ∀r,R r→K r H nx):aB P f args H nx K:=by
 refine aB.lift h id rfl (fun i d0 d h1 h2=> ?_) QG (fun i hi=>absurd hi (Nat.not_lt_zero i)) (fun i j hi=>absurd hi (Nat.not_lt_zero i)) fun r H' n' _ ⟨h1,h2,h3⟩=> ?_
 ·rw[h1] at h2;cases h2
  exact aF (List.all_eq_true.1 hargs d0 (List.mem_of_getElem? h1))
 ·subst h1
  rw[afI h2]
  exact hK r h3
theorem af6 {Q:AQ} {rs:List aZ} {R:D→Prop} (hQ: ∀ex e2 H2 nx2 d nh d2 H3 F σ,ex=AEx.normal∨ex=AEx.ret→z3 H2 e2 rs=some d→CvR 0 d H2 nh d2 H3 F σ→(nh=0∧d2.imm=true∧R d2)→Q ex e2 H2 nx2)
 {e2:Env} {H2:aA} {nx2:Nat} (d' d:D) (h1:z3 H2 e2 rs=some d) (h2:CvD H2 (fun _=>True) id 0 d' d) (h3:d'.imm=true) (h4:R d'):Q .ret e2 H2 nx2:=
 hQ _ _ _ _ d 0 d' .nil (fun _=>True) id (.inr rfl) h1 ⟨Nat.le_refl _,fun _ _=>rfl,h2,QG⟩ ⟨rfl,h3,h4⟩
def am0 (n:Nat) (rows:List (List D1)):Prop:=∀r∈rows,r.length=n∧ ∀x∈r,x.dT=true
theorem aC {α:Type} {n:Nat} {enc:α→List D1} (h: ∀x,(enc x).length=n∧(enc x).all D1.dT=true) (l:List α):am0 n (l.map enc):=by
 intro r hr
 obtain⟨x,_,rfl⟩:=List.mem_map.1 hr
 exact⟨(h x).1,List.all_eq_true.1 (h x).2⟩
theorem YQ {rows:List (List D1)} {n id len cap:Nat} {o:bC} (hi:am0 n rows) (hl:len=rows.length) (hF:F id) (ho:H id=some o) (hn:o.n=n) (hr:o.rows.take rows.length=rows) (hc:rows.length≤cap):Cv1 H F σ nh (.isl rows) (.osl n id 0 len cap):=by
 subst hl
 have hle:rows.length≤o.rows.length:=by
  have:=congrArg List.length hr
  rw[List.length_take] at this;omega
 have hg: ∀i:Nat,∀r',rows[i]?=some r'→o.rows[i]?=some r':=by
  intro i r' h
  rw[←hr,List.getElem?_take] at h
  split at h
  ·exact h
  ·cases h
 refine .frz (.frz rows n id 0 cap o (fun i j=>((rows[i]?.getD [])[j]?).getD .dead) hF ho hn (by omega) hc (fun i r' h=>(hi r' (List.mem_of_getElem? h)).1) (fun i j r' d' h1 h2=>⟨r',by rw[Nat.zero_add];exact hg i r' h1,by rw[h1];simp[h2]⟩) fun i j r' d' h1 h2=> ?_)
 rw[h1]
 simp only[Option.getD_some,h2]
 exact .same d' ((hi r' (List.mem_of_getElem? h1)).2 d' (List.mem_of_getElem? h2))
theorem GI {n id off:Nat}:Cv1 H F σ nh (.isl []) (.osl n id off 0 0):=.frz (.nil n id off)
theorem jU {n id id' off off' len len' cap cap':Nat} (h:id'<nh) (hs:σ id'=id) (h1:off'=off) (h2:len'=len) (h3:cap'=cap):Cv1 H F σ nh (.osl n id' off' len' cap') (.osl n id off len cap):=by
 subst h1;subst h2;subst h3;exact aoR h hs
theorem EA {rows:List (List D1)} {n id len cap:Nat} {o:bC} (hi:am0 n rows) (hl:len=rows.length) (hF:F id) (ho:H id=some o) (hn:o.n=n) (hr:o.rows.take rows.length=rows) (hc:rows.length≤cap):CvD H F σ nh (dS rows) (.one (.c (.osl n id 0 len cap))):=
 YQ hi hl hF ho hn hr hc
theorem l7 {n id id' off off' len len' cap cap':Nat} (h:id'<nh) (hs:σ id'=id) (h1:off'=off) (h2:len'=len) (h3:cap'=cap):CvD H F σ nh (.one (.c (.osl n id' off' len' cap'))) (.one (.c (.osl n id off len cap))):=
 jU h hs h1 h2 h3
theorem AI {n id id' row col:Nat} (h:id'<nh) (hs:σ id'=id):CvD H F σ nh (.one (.c (.ptr n id' row col))) (.one (.c (.ptr n id row col))):=agD h hs
theorem abV {f:FuncId} {caps:List D1} (h:caps.all D1.dT=true):Cv1 H F σ nh (.clo f caps) (.clo f caps):=
 .clo f caps caps rfl fun i x y hx hy=>by
  rw[hx] at hy;cases hy
  have:=List.all_eq_true.1 h x (List.mem_of_getElem? hx)
  exact .inl ⟨this,.same x this⟩
theorem iV {f:FuncId} {caps:List D1} (h:caps.all D1.dT=true):CvD H F σ nh (.one (.c (.clo f caps))) (.one (.c (.clo f caps))):=abV h
def akV (H:aA) (F:Nat→Prop):List D1→List D1→Prop
 | [],[]=>True
 |x::xs,y::ys=>(x.dT=true∧Frz H F x y)∧akV H F xs ys
 |_,_=>False
theorem DK: ∀{xs ys:List D1},akV H F xs ys→xs.length=ys.length∧ ∀(i:Nat) (x y:D1),xs[i]?=some x→ys[i]?=some y→x.dT=true∧Frz H F x y
 | [],[],_=>⟨rfl,fun i x y h=>by simp at h⟩
 |a::xs,b::ys,h=>⟨by simp[(DK h.2).1],fun i x y hx hy=>by
  match i with
  |0=>simp at hx hy;subst hx;subst hy;exact h.1
  |i+1=>exact(DK h.2).2 i x y (by simpa using hx) (by simpa using hy)⟩
 | [],_::_,h=>h.elim
 |_::_,[],h=>h.elim
theorem HQ {f:FuncId} {caps0 caps:List D1} (h:akV H F caps0 caps):CvD H F σ nh (.one (.c (.clo f caps0))) (.one (.c (.clo f caps))):=
 .clo f caps caps0 (DK h).1 fun i x y hx hy=>.inl ((DK h).2 i x y hx hy)
theorem qB {cells:List D1} {n id:Nat} {o:bC} (hi:cells.all D1.dT=true) (hF:F id) (ho:H id=some o) (hn:o.n=n) (hr:o.rows[0]?=some cells):(D1.dN cells).dT=true∧Frz H F (.dN cells) (.ptr n id 0 0):=
 ⟨rfl,.ptr cells n id 0 0 o cells (fun j=>(cells[j]?).getD .dead) hF ho hn hr (fun j d' h=>by simp[h]) (fun j d' h=>by
  simp only[h,Option.getD_some]
  exact .same d' (List.all_eq_true.1 hi d' (List.mem_of_getElem? h)))⟩
theorem afA {cells:List D1} {n id:Nat} {o:bC} (hi:cells.all D1.dT=true) (hF:F id) (ho:H id=some o) (hn:o.n=n) (hr:o.rows[0]?=some cells):CvD H F σ nh (.one (.c (.dN cells))) (.one (.c (.ptr n id 0 0))):=
 .frz (qB hi hF ho hn hr).2
theorem dL (hle:nx≤nh) (h:CvE H (fun _=>True) id nh e' e): ∃F σ,Cv nx e H nh e' .nil F σ:=⟨fun _=>True,id,hle,fun _ _=>rfl,h,QG⟩
def apV (H:aA):List D→List D→Prop
 | [],[]=>True
 |d0::l0,d::l=>CvD H (fun _=>True) id 0 d0 d∧apV H l0 l
 |_,_=>False
theorem aI: ∀{l0 l:List D},apV H l0 l→∀(i:Nat) (d0 d:D),l0[i]?=some d0→l[i]?=some d→CvD H (fun _=>True) id 0 d0 d
 | [],[],_,i,d0,d,h1,_=>by simp at h1
 |a::l0,b::l,h,i,d0,d,h1,h2=>by
  match i with
  |0=>simp at h1 h2;subst h1;subst h2;exact h.1
  |i+1=>exact aI h.2 i d0 d (by simpa using h1) (by simpa using h2)
 | [],_::_,h,_,_,_,_,_=>h.elim
 |_::_,[],h,_,_,_,_,_=>h.elim
theorem vQ {α:Type} {enc:α→List D1} {l:List α} {n id len cap m:Nat} (he: ∀x,(enc x).length=n∧(enc x).all D1.dT=true) (ho:H id=some ⟨n,m,l.map enc⟩) (hl:len=l.length) (hc:l.length≤cap) (hF:F id):CvD H F σ nh (dS (l.map enc)) (.one (.c (.osl n id 0 len cap))):=
 EA (aC he l) (by simp[hl]) hF ho rfl (List.take_of_length_le (Nat.le_refl _)) (by simp;omega)
theorem vY {t:Nat} {d:D} {l:List (Nat×D)} (h:CvE H F σ nh (en l) e) (hd:CvD H F σ nh d (e t)):CvE H F σ nh (en ((t,d)::l)) e:=aoN h hd
theorem abU:CvE H F σ nh (en []) e:=fun _=>trivial
def sgL (nx:Nat) (s:List Nat) (i:Nat):Nat:=if i<nx then i else (s[i-nx]?).getD i
def OkO (H:aA) (F:Nat→Prop) (σ:Nat→Nat) (nh:Nat):List (Nat×bC)→Prop
 | []=>True
 |p::l=>(p.1<nh∧ ¬F (σ p.1)∧ ∃o,H (σ p.1)=some o∧CvO H F σ nh p.2 o)∧OkO H F σ nh l
theorem YI: ∀{l:List (Nat×bC)} {i:Nat} {o:bC},hp l i=some o→(i,o)∈l
 | [],i,o,h=>by simp[hp,aA.nil] at h
 | (j,p)::l,i,o,h=>by
   simp only[hp,aA.set] at h
   split at h
   ·rename_i hi;cases h;subst hi;simp
   ·exact List.mem_cons_of_mem _ (YI h)
theorem afN: ∀{l:List (Nat×bC)},OkO H F σ nh l→∀p∈l,p.1<nh∧ ¬F (σ p.1)∧ ∃o,H (σ p.1)=some o∧CvO H F σ nh p.2 o
 | [],_,p,hp=>by simp at hp
 |q::l,h,p,hp=>by
  rcases List.mem_cons.1 hp with rfl|hp
  ·exact h.1
  ·exact afN h.2 p hp
theorem aiL {l:List (Nat×bC)} (h:(l.map fun p=>σ p.1).Nodup) {p q:Nat×bC} (h1:p∈l) (h2:q∈l) (he:σ p.1=σ q.1):p=q:=by
 induction l with
 |nil=>simp at h1
 |cons a l ih=>
  simp only[List.map_cons,List.nodup_cons] at h
  rcases List.mem_cons.1 h1 with h3|h3<;>rcases List.mem_cons.1 h2 with h4|h4
  ·rw[h3,h4]
  ·subst h3;exact absurd (List.mem_map.2 ⟨q,h4,he.symm⟩:σ p.1∈l.map fun p=>σ p.1) h.1
  ·subst h4;exact absurd (List.mem_map.2 ⟨p,h3,he⟩:σ q.1∈l.map fun p=>σ p.1) h.1
  ·exact ih h.2 h3 h4
theorem SR {l:List (Nat×bC)} (h:OkO H F σ nh l) (hn:(l.map fun p=>σ p.1).Nodup):CvH H F σ nh (hp l):=
 ⟨fun id o' hid=>afN h _ (YI hid),fun i j o o' hi hj he=>congrArg Prod.fst (aiL hn (YI hi) (YI hj) he)⟩
theorem dH {l:List (Nat×bC)} (s:List Nat) (hle:nx≤nh) (hE:CvE H (· ∉s) (sgL nx s) nh e' e) (hO:OkO H (· ∉s) (sgL nx s) nh l) (hn:(l.map fun p=>sgL nx s p.1).Nodup): ∃F σ,Cv nx e H nh e' (hp l) F σ:=
 ⟨_,_,hle,fun i hi=>by simp[sgL,hi],hE,SR hO hn⟩
theorem cV {d d':D} {l:List (Nat×bC)} (s:List Nat) (hle:nx≤nh) (hd:CvD H (· ∉s) (sgL nx s) nh d' d) (hO:OkO H (· ∉s) (sgL nx s) nh l) (hn:(l.map fun p=>sgL nx s p.1).Nodup):CvR nx d H nh d' (hp l) (· ∉s) (sgL nx s):=
 ⟨hle,fun i hi=>by simp[sgL,hi],hd,SR hO hn⟩
theorem aO {n m m':Nat} {rows rows':List (List D1)} (hi:am0 n rows') (h:rows'=rows) (hm:m'=m):CvO H F σ nh ⟨n,m',rows'⟩ ⟨n,m,rows⟩:=by
 subst h;subst hm
 exact aN fun r hr=>(hi r hr).2
theorem aQ.ar6 {P:Program} {T:Nat} {e:Env} {H:aA} {nx:Nat} {Q:AQ} {x:AC} {zs:List AC} {α:Type} (m:Nat) (E:Nat→α→Env) (G:Nat→α→aA) (μ:α→Nat) (x0:α) (h0: ∃F σ,Cv nx e H (nx+m) (E nx x0) (G nx x0) F σ)
 (h: ∀u,∀K:Env→aA→Nat→Prop,(∀e' H' nx' u',nx+m≤nx'→μ u'<μ u→(∃F σ,Cv nx e' H' (nx+m) (E nx u') (G nx u') F σ)→K e' H' nx')→aQ P T [x] (E nx u) (G nx u) (nx+m) (AQ.then K Q)):aQ P T (.loop x::zs) e H nx Q:=
 aQ.loop (E nx) (G nx) (nx+m) μ x0 h0 h
end
attribute [go_sem] aqF anC aiT acD aiS aeH ai0 amW ar2 asH amD akF aiU alF aq9 anP anQ aoS an9 ahG ab2 arK alX apB XM XH List.mem_cons List.not_mem_nil or_false false_or or_self ahX ak3 ah5 aj1 akY aoU List.take_of_length_le List.length_range List.length_replicate ajS arH ah1 aeX as0 ar9 aq4 arJ aqU aq3 as3 asS asO asY asZ aoD akE arD aoA aqJ anS aE gt_iff_lt ge_iff_le Int.reduceEq Int.reduceNe Int.reduceLT Int.reduceLE Int.reduceAdd Int.reduceSub Int.reduceMul Int.reduceNeg decide_true decide_false Int.toNat_natCast Bool.not_true Bool.not_false not_true_eq_false not_false_eq_true List.drop_drop List.length_append Nat.reduceMul Nat.reduceSub Nat.reduceLT Int.reduceToNat
end Go.AM
end
section
namespace Go.AM
open Go.RowKit
section
variable {P : Program} {H G : aA} {F : Nat → Prop} {σ : Nat → Nat} {nx nh : Nat} {e e' : Env}
def u6 (o:bC):Prop:=∀r∈o.rows,∀x∈r,x.dT=true
theorem tC {τ:Nat→Nat} {o:bC} (h:u6 o):o.rn τ=o:=by
 unfold bC.rn
 congr 1
 conv=>rhs;rw[←List.map_id o.rows]
 refine List.map_congr_left fun r hr=> ?_
 conv=>rhs;rw[←List.map_id r]
 exact List.map_congr_left fun x hx=>YO (h r hr x hx)
theorem aA.aqS {i:Nat} {o:bC}:H.upd i (some o)=H.set i o:=rfl
theorem aB.PN {f:FuncId} {args0 args:List D} {K:D→aA→Nat→Prop} {o:bC} {R:D→bC→Prop} (i:Nat) (h:aB P f args0 (hp [(0,o)]) 1 fun r H' n'=>n'=1∧ ∃o',H'=hp [(0,o')]∧u6 o'∧R r o') (hlen:args.length=args0.length)
 (hargs: ∀(j:Nat) (d0 d:D),args0[j]?=some d0→args[j]?=some d→CvD H (fun _=>False) (fun _=>i) 1 d0 d) (hi:i<nx) (ho:H i=some o) (himm:u6 o) (hK: ∀r o',R r o'→K (rnD (tau 1 nx fun _=>i) r) (H.set i o') nx):aB P f args H nx K:=by
 refine aB.lift h (fun _=>i) hlen hargs (SR ⟨⟨Nat.zero_lt_one,fun h=>h,o,ho,aN himm⟩,trivial⟩ (by simp)) (fun j _=>hi) (fun j k hj hk _=>by omega) fun r H' n' hle ⟨h1,o',h2,h3,h4⟩=> ?_
 subst h1;subst h2
 have e:back (tau 1 nx fun _=>i) (hp [(0,o')]) 1 H=H.set i o':=by
  simp only[back,hp,aA.set,Option.map_some,tC h3,aA.aqS,if_true]
  have:tau 1 nx (fun _=>i) 0=i:=by simp[tau]
  rw[this]
 rw[e]
 exact hK r o' h4
theorem lN {Q:AQ} {rs:List aZ} {R:D→bC→Prop} (hQ: ∀ex e2 H2 nx2 d nh d2 H3 F σ,ex=AEx.normal∨ex=AEx.ret→z3 H2 e2 rs=some d→CvR 1 d H2 nh d2 H3 F σ→(nh=1∧ ∃o',H3=hp [(0,o')]∧u6 o'∧R d2 o')→Q ex e2 H2 nx2)
 {e2:Env} {H2:aA} {nx2:Nat} (d' d:D) (o':bC) (h1:z3 H2 e2 rs=some d) (h2:CvD H2 (fun i=>i≠0) id 1 d' d) (h3:H2 0=some o') (h4:u6 o') (h5:R d' o'):Q .ret e2 H2 nx2:=
 hQ _ _ _ _ d 1 d' (hp [(0,o')]) (fun i=>i≠0) id (.inr rfl) h1 ⟨Nat.le_refl _,fun _ _=>rfl,h2,SR ⟨⟨Nat.zero_lt_one,fun h=>h rfl,o',h3,aN h4⟩,trivial⟩ (by simp)⟩ ⟨rfl,o',rfl,h4,h5⟩
theorem iH {α:Type} {enc:α→List D1} {n m:Nat} (h: ∀x,(enc x).length=n∧(enc x).all D1.dT=true) (l:List α):u6 ⟨n,m,l.map enc⟩:=fun r hr=>(aC h l r hr).2
theorem KY {τ:Nat→Nat} {d:D} {A:D→Prop} (h:d.imm=true) (hA:A d):A (rnD τ d):=by rw[afI h];exact hA
def aqL (H:aA) (τ:Nat→Nat) (n:Nat):List D→List D→Prop
 | [],[]=>True
 |d0::l0,d::l=>CvD H (fun _=>False) τ n d0 d∧aqL H τ n l0 l
 |_,_=>False
theorem hU {τ:Nat→Nat} {n:Nat}: ∀{l0 l:List D},aqL H τ n l0 l→∀(i:Nat) (d0 d:D),l0[i]?=some d0→l[i]?=some d→CvD H (fun _=>False) τ n d0 d
 | [],[],_,i,d0,d,h1,_=>by simp at h1
 |a::l0,b::l,h,i,d0,d,h1,h2=>by
  match i with
  |0=>simp at h1 h2;subst h1;subst h2;exact h.1
  |i+1=>exact hU h.2 i d0 d (by simpa using h1) (by simpa using h2)
 | [],_::_,h,_,_,_,_,_=>h.elim
 |_::_,[],h,_,_,_,_,_=>h.elim
end
end Go.AM
end
section
namespace Go.AM
open Go.RowKit
section
variable {P : Program} {T : Nat} {e : Env} {H : aA} {nx : Nat} {Q : AQ}
theorem AWP.join {x y:AC} {α:Type} (nh:Nat) (E:α→Env) (G:α→aA) (h1:AWP P T x e H nx (AQ.then (fun e' H' _=>∃u,∃F σ,Cv nx e' H' nh (E u) (G u) F σ) Q)) (h2: ∀u,AWP P T y (E u) (G u) nh Q):AWP P T (.seq x y) e H nx Q:=by
 intro code hc c a hs he hN
 cases hc with
 |seq k1 k2=>
  refine wp_seq (wp_mono (h1 _ k1 c a hs he hN) fun ex a' w' ⟨aex,e',H',nx',c',hp⟩=> ?_)
  obtain⟨rfl,rfl,p1,p2,p3,p4,p5,p6⟩:=hp
  cases aex with
  |normal=>
   simp only[AQ.then] at p6
   obtain⟨u,F,σ,q⟩:=p6
   obtain⟨c2,r1,r2,r3,r4,r5⟩:=q.sound p1 p2 hN p3
   have h3:=h2 u _ k2 c2 a' r2 r3 fun i hi=>by
    rcases r5 i hi with h|h
    ·have:=q.le;omega
    ·exact h.2
   rw[r1] at h3
   refine wp_mono h3 fun ex a'' w'' hq=>hq.lift r4 (fun i hi=> ?_) q.le fun _ _ _ _ _ h=>h
   rcases r5 i hi with h|h
   ·rcases p4 i h.1 with h4|h4
    ·exact .inl h4
    ·omega
   ·exact .inr h
  |exit id=>exact⟨.exit id,e',H',nx',c',rfl,rfl,p1,p2,p3,p4,p5,p6⟩
  |ret=>exact⟨.ret,e',H',nx',c',rfl,rfl,p1,p2,p3,p4,p5,p6⟩
theorem aQ.join {x y:AC} {zs:List AC} {α:Type} (m:Nat) (E:Nat→α→Env) (G:Nat→α→aA)
 (h1: ∀K:Env→aA→Nat→Prop,(∀e' H' nx' u,(∃F σ,Cv nx e' H' (nx+m) (E nx u) (G nx u) F σ)→K e' H' nx')→aQ P T [x] e H nx (AQ.then K Q))
 (h2: ∀u,aQ P T (y::zs) (E nx u) (G nx u) (nx+m) Q):aQ P T (.seq x y::zs) e H nx Q:=by
 refine AWP.join (nx+m) (E nx) (G nx) (AWP.mono (h1 _ (fun e' H' nx' u h=>(⟨u,h⟩: ∃u,∃F σ,Cv nx e' H' (nx+m) (E nx u) (G nx u) F σ))).run fun ex e' H' nx' _ hq=> ?_) h2
 cases ex with
 |normal=>exact hq
 |exit i=>exact hq
 |ret=>exact hq
theorem aQ.asE {x y:AC} {zs:List AC} {β:Type} (m:Nat) (E:Nat→β→Env) (G:Nat→β→aA) (I:β→Prop)
 (h1: ∀K:Env→aA→Nat→Prop,(∀e' H' nx' v,(∃F σ,Cv nx e' H' (nx+m) (E nx v) (G nx v) F σ)→I v→K e' H' nx')→aQ P T [x] e H nx (AQ.then K Q))
 (h2: ∀v,I v→aQ P T (y::zs) (E nx v) (G nx v) (nx+m) Q):aQ P T (.seq x y::zs) e H nx Q:=
 aQ.join (α:={v:β//I v}) m (fun b u=>E b u.1) (fun b u=>G b u.1) (fun K hK=>h1 K fun e' H' nx' v h hi=>hK e' H' nx' ⟨v,hi⟩ h) fun u=>h2 u.1 u.2
theorem aQ.wI {x:AC} {zs:List AC} {β:Type} (m:Nat) (E:Nat→β→Env) (G:Nat→β→aA) (I:β→Prop) (μ:β→Nat) (v0:β) (h0: ∃F σ,Cv nx e H (nx+m) (E nx v0) (G nx v0) F σ) (hi:I v0)
 (h: ∀v,I v→∀K:Env→aA→Nat→Prop,(∀e' H' nx' v',nx+m≤nx'→(∃F σ,Cv nx e' H' (nx+m) (E nx v') (G nx v') F σ)→I v'→μ v'<μ v→K e' H' nx')→aQ P T [x] (E nx v) (G nx v) (nx+m) (AQ.then K Q)):aQ P T (.loop x::zs) e H nx Q:=
 aQ.ar6 (α:={v:β//I v}) m (fun b u=>E b u.1) (fun b u=>G b u.1) (fun u=>μ u.1) ⟨v0,hi⟩ h0 fun u K hK=>h u.1 u.2 K fun e' H' nx' v' h1 h2 h3 h4=>hK e' H' nx' ⟨v',h3⟩ h1 h4 h2
theorem ap3 {H:aA} {F:Nat→Prop} {σ:Nat→Nat} {nh:Nat} {a b:D1} (h:Cv1 H F σ nh a b):Cv1 H F σ nh a b:=h
theorem aq2 {H:aA} {F:Nat→Prop} {σ:Nat→Nat} {nh:Nat} {a b:D} (h:CvD H F σ nh a b):CvD H F σ nh a b:=h
theorem arZ {H:aA} {F:Nat→Prop} {σ:Nat→Nat} {nh:Nat} {a b:D1} (h:a=b) (hi:a.dT=true):Cv1 H F σ nh a b:=h▸bG hi
theorem bU {H:aA} {F:Nat→Prop} {σ:Nat→Nat} {nh:Nat} {α:Type} {enc:α→List D1} {l:List α} {n id len cap m:Nat} (he: ∀x,(enc x).length=n∧(enc x).all D1.dT=true) (ho:H id=some ⟨n,m,l.map enc⟩) (hl:len=l.length) (hc:l.length≤cap) (hF:F id):Cv1 H F σ nh (.isl (l.map enc)) (.osl n id 0 len cap):=
 YQ (aC he l) (by simp[hl]) hF ho rfl (List.take_of_length_le (Nat.le_refl _)) (by simp;omega)
def kpm (b:Nat) (l:List Nat) (H:aA):aA:=fun i=>if i∈l.map (b+ ·) then H i else none
variable {b i : Nat} {l : List Nat} {o : bC} {G : aA}
theorem amI:msk b l (H.set i o)=if i∈l.map (b+ ·) then msk b l H else (msk b l H).set i o:=by
 split
 ·rename_i h
  funext j;simp only[msk,aA.set]
  by_cases hj:j=i
  ·subst hj;simp only[h,if_true]
  ·simp only[hj,if_false]
 ·rename_i h
  funext j;simp only[msk,aA.set]
  by_cases hj:j=i
  ·subst hj;simp only[h,if_true,if_false]
  ·simp only[hj,if_false]
theorem ajP:msk b l aA.nil=aA.nil:=by funext j;simp only[msk,aA.nil];split<;>rfl
theorem ao6:msk b l (H.del i)=(msk b l H).del i:=by
 funext j;simp only[msk,aA.del];split<;>split<;>rfl
theorem anT:kpm b l (H.set i o)=if i∈l.map (b+ ·) then (kpm b l H).set i o else kpm b l H:=by
 split
 ·rename_i h
  funext j;simp only[kpm,aA.set]
  by_cases hj:j=i
  ·subst hj;simp only[h,if_true]
  ·simp only[hj,if_false]
 ·rename_i h
  funext j;simp only[kpm,aA.set]
  by_cases hj:j=i
  ·subst hj;simp only[h,if_false]
  ·simp only[hj,if_false]
theorem ak0:kpm b l aA.nil=aA.nil:=by funext j;simp only[kpm,aA.nil];split<;>rfl
theorem aeD:eS b l H aA.nil=kpm b l H:=by funext j;simp only[eS,kpm,aA.nil]
theorem afD:eS b l H (G.set i o)=if i∈l.map (b+ ·) then eS b l H G else (eS b l H G).set i o:=by
 split
 ·rename_i h
  funext j;simp only[eS,aA.set]
  by_cases hj:j=i
  ·subst hj;simp only[h,if_true]
  ·simp only[hj,if_false]
 ·rename_i h
  funext j;simp only[eS,aA.set]
  by_cases hj:j=i
  ·subst hj;simp only[h,if_true,if_false]
  ·simp only[hj,if_false]
theorem ajN:eS b l H (G.del i)=if i∈l.map (b+ ·) then eS b l H G else (eS b l H G).del i:=by
 split
 ·rename_i h
  funext j;simp only[eS,aA.del]
  by_cases hj:j=i
  ·subst hj;simp only[h,if_true]
  ·simp only[hj,if_false]
 ·rename_i h
  funext j;simp only[eS,aA.del]
  by_cases hj:j=i
  ·subst hj;simp only[h,if_true,if_false]
  ·simp only[hj,if_false]
theorem zI {H:aA} {i j:Nat} {a c:bC} (h: ¬i=j):(H.set i a).set j c=(H.set j c).set i a:=by
 funext k;simp only[aA.set]
 by_cases h1:k=j
 ·subst h1;rw[if_pos rfl,if_neg (fun h2=>h h2.symm),if_pos rfl]
 ·rw[if_neg h1]
  by_cases h2:k=i
  ·rw[if_pos h2,if_pos h2]
  ·rw[if_neg h2,if_neg h2,if_neg h1]
theorem alC {H:aA} {i j0:Nat} {a c b0:bC} (h0: ¬j0=i):((H.set i a).set j0 b0).set i c=((H.set i c).set j0 b0):=by rw[zI h0,aA.set_set]
theorem akI {H:aA} {i j0 j1:Nat} {a c b0 b1:bC} (h0: ¬j0=i) (h1: ¬j1=i):(((H.set i a).set j0 b0).set j1 b1).set i c=(((H.set i c).set j0 b0).set j1 b1):=by rw[zI h1,alC h0]
theorem alZ {H:aA} {i j0 j1 j2:Nat} {a c b0 b1 b2:bC} (h0: ¬j0=i) (h1: ¬j1=i) (h2: ¬j2=i):((((H.set i a).set j0 b0).set j1 b1).set j2 b2).set i c=((((H.set i c).set j0 b0).set j1 b1).set j2 b2):=by rw[zI h2,akI h0 h1]
theorem aj5 {H:aA} {i j0 j1 j2 j3:Nat} {a c b0 b1 b2 b3:bC} (h0: ¬j0=i) (h1: ¬j1=i) (h2: ¬j2=i) (h3: ¬j3=i):(((((H.set i a).set j0 b0).set j1 b1).set j2 b2).set j3 b3).set i c=(((((H.set i c).set j0 b0).set j1 b1).set j2 b2).set j3 b3):=by rw[zI h3,alZ h0 h1 h2]
theorem akM {H:aA} {i j0 j1 j2 j3 j4:Nat} {a c b0 b1 b2 b3 b4:bC} (h0: ¬j0=i) (h1: ¬j1=i) (h2: ¬j2=i) (h3: ¬j3=i) (h4: ¬j4=i):((((((H.set i a).set j0 b0).set j1 b1).set j2 b2).set j3 b3).set j4 b4).set i c=((((((H.set i c).set j0 b0).set j1 b1).set j2 b2).set j3 b3).set j4 b4):=by rw[zI h4,aj5 h0 h1 h2 h3]
theorem alI {H:aA} {i j0 j1 j2 j3 j4 j5:Nat} {a c b0 b1 b2 b3 b4 b5:bC} (h0: ¬j0=i) (h1: ¬j1=i) (h2: ¬j2=i) (h3: ¬j3=i) (h4: ¬j4=i) (h5: ¬j5=i):(((((((H.set i a).set j0 b0).set j1 b1).set j2 b2).set j3 b3).set j4 b4).set j5 b5).set i c=(((((((H.set i c).set j0 b0).set j1 b1).set j2 b2).set j3 b3).set j4 b4).set j5 b5):=by rw[zI h5,akM h0 h1 h2 h3 h4]
theorem ap7 {H:aA} {i j0 j1 j2 j3 j4 j5 j6:Nat} {a c b0 b1 b2 b3 b4 b5 b6:bC} (h0: ¬j0=i) (h1: ¬j1=i) (h2: ¬j2=i) (h3: ¬j3=i) (h4: ¬j4=i) (h5: ¬j5=i) (h6: ¬j6=i):((((((((H.set i a).set j0 b0).set j1 b1).set j2 b2).set j3 b3).set j4 b4).set j5 b5).set j6 b6).set i c=((((((((H.set i c).set j0 b0).set j1 b1).set j2 b2).set j3 b3).set j4 b4).set j5 b5).set j6 b6):=by rw[zI h6,alI h0 h1 h2 h3 h4 h5]
theorem apG {i:Nat}:aA.nil.del i=aA.nil:=by funext k;simp only[aA.del,aA.nil];split<;>rfl
theorem aeM {H:aA} {i:Nat} {a:bC}:(H.set i a).del i=H.del i:=by
 funext k;simp only[aA.set,aA.del];split<;>rfl
theorem ab6 {H:aA} {i j:Nat} {a:bC} (h: ¬i=j):(H.set j a).del i=(H.del i).set j a:=by
 funext k;simp only[aA.set,aA.del]
 by_cases h1:k=i
 ·subst h1;simp[h]
 ·simp[h1]
end
attribute [go_sem] alC akI alZ aj5 akM alI ap7 apG aeM ab6 Nat.reduceLT amI ajP ao6 anT ak0 aeD afD ajN
end Go.AM
end
section
namespace Go.AM
open Go.RowKit
def nth (s:List Nat) (i:Nat):Nat:=s[i]?.getD 0
section
variable {P : Program} {H : aA} {nx : Nat} {τ : Nat → Nat} {H0 : aA}
theorem aB.x4 {f:FuncId} {args0 args:List D} {K:D→aA→Nat→Prop} {l0:List (Nat×bC)} {R:D→aA→Nat→Prop} (s:List Nat) (h:aB P f args0 (hp l0) s.length R) (hlen:args.length=args0.length)
 (hargs:aqL H (nth s) s.length args0 args) (hO:OkO H (fun _=>False) (nth s) s.length l0) (hn:(l0.map fun p=>nth s p.1).Nodup) (hs: ∀x∈s,x<nx) (hd:s.Nodup)
 (hK: ∀r H' n',s.length≤n'→R r H' n'→K (rnD (tau s.length nx (nth s)) r) (back (tau s.length nx (nth s)) H' n' H) (nx+(n'-s.length))):aB P f args H nx K:=
 aB.lift h (nth s) hlen (hU hargs) (SR hO hn) (fun i hi=>by rw[nth,List.getElem?_eq_getElem hi];exact hs _ (List.getElem_mem hi))
   (fun i j hi hj he=>by
    rw[nth,nth,List.getElem?_eq_getElem hi,List.getElem?_eq_getElem hj,Option.getD_some,Option.getD_some] at he
    exact(List.getElem_inj hd).1 he) hK
theorem j8 {n m:Nat} {l:List Int}:bC.rn τ ⟨n,m,l.map aE⟩=⟨n,m,l.map aE⟩:=by
 refine tC fun r hr x hx=> ?_
 obtain⟨y,_,rfl⟩:=List.mem_map.1 hr
 simp only[aE,List.mem_singleton] at hx;subst hx;rfl
theorem asM:back τ H0 2 H=(H.upd (τ 0) ((H0 0).map (bC.rn τ))).upd (τ 1) ((H0 1).map (bC.rn τ)):=rfl
theorem pU {i:Nat}:H.upd i none=H.del i:=rfl
end
end Go.AM
end
section
namespace Go.AM
open Go.RowKit
section
variable {P : Program} {H : aA} {nx : Nat}
theorem BX {F:Nat→Prop} {σ:Nat→Nat} {nh n m m':Nat} {R rows' rows:List (List D1)} {r' r:List D1} (e':rows'=R++[r']) (e:rows=R++[r]) (hR: ∀r∈R,∀x∈r,x.dT=true) (hm:m'=m) (h:CvL H F σ nh r' r):CvO H F σ nh ⟨n,m',rows'⟩ ⟨n,m,rows⟩:=by
 subst e';subst e;subst hm
 refine⟨rfl,rfl,by simp,fun _ h=>by simp at h,fun i r1 h1=> ?_⟩
 simp only[List.getElem?_append] at h1 ⊢
 by_cases hi:i<R.length
 ·rw[if_pos hi] at h1 ⊢
  exact⟨r1,h1,r8 fun x hx=>hR r1 (List.mem_of_getElem? h1) x hx⟩
 ·rw[if_neg hi] at h1 ⊢
  rw[List.getElem?_singleton] at h1 ⊢
  split at h1
  ·rename_i h0;cases h1;exact⟨r,if_pos h0,h⟩
  ·cases h1
theorem amQ {b:Nat} {live:List Nat} {K:Env→aA→Nat→Prop} {L:List bB} {dst:Option Nat} {e:Env} {S:dF} {ix:Nat} {xs:List aT} {m s:List Nat} {lk:Bool} {neg:Bool}:wv P b live K (⟨ix,dst,.xop (.sH neg) xs,none,m,s,lk⟩::L) e H nx S=xl P (b+ix) (msk b m H) nx (CY P b live K L dst m s e H S) (.sH neg) (xs.map (·.ev e)):=UR rfl
theorem anR {b:Nat} {live:List Nat} {K:Env→aA→Nat→Prop} {L:List bB} {dst:Option Nat} {e:Env} {S:dF} {ix:Nat} {xs:List aT} {m s:List Nat} {lk:Bool} {n:Nat}:wv P b live K (⟨ix,dst,.xop (.copy n) xs,none,m,s,lk⟩::L) e H nx S=xl P (b+ix) (msk b m H) nx (CY P b live K L dst m s e H S) (.copy n) (xs.map (·.ev e)):=UR rfl
theorem ajX {b:Nat} {live:List Nat} {K:Env→aA→Nat→Prop} {L:List bB} {dst:Option Nat} {e:Env} {S:dF} {ix:Nat} {xs:List aT} {m s:List Nat} {lk:Bool} {n:Nat} {z:List D1}:wv P b live K (⟨ix,dst,.xop (.clear n z) xs,none,m,s,lk⟩::L) e H nx S=xl P (b+ix) (msk b m H) nx (CY P b live K L dst m s e H S) (.clear n z) (xs.map (·.ev e)):=UR rfl
theorem anV {b:Nat} {live:List Nat} {K:Env→aA→Nat→Prop} {L:List bB} {dst:Option Nat} {e:Env} {S:dF} {ix:Nat} {xs:List aT} {m s:List Nat} {lk:Bool} {n:Nat} {z:List D1}:wv P b live K (⟨ix,dst,.xop (.QY n z) xs,none,m,s,lk⟩::L) e H nx S=xl P (b+ix) (msk b m H) nx (CY P b live K L dst m s e H S) (.QY n z) (xs.map (·.ev e)):=UR rfl
theorem an7 {b:Nat} {live:List Nat} {K:Env→aA→Nat→Prop} {L:List bB} {dst:Option Nat} {e:Env} {S:dF} {ix:Nat} {xs:List aT} {m s:List Nat} {lk:Bool} {f:FuncId}:wv P b live K (⟨ix,dst,.xop (.TZ f) xs,none,m,s,lk⟩::L) e H nx S=xl P (b+ix) (msk b m H) nx (CY P b live K L dst m s e H S) (.TZ f) (xs.map (·.ev e)):=UR rfl
theorem aj0 {b:Nat} {live:List Nat} {K:Env→aA→Nat→Prop} {L:List bB} {dst:Option Nat} {e:Env} {S:dF} {ix:Nat} {xs:List aT} {m s:List Nat} {lk:Bool} {kn:Nat} {bl:Bool}:wv P b live K (⟨ix,dst,.xop (.EP kn bl) xs,none,m,s,lk⟩::L) e H nx S=xl P (b+ix) (msk b m H) nx (CY P b live K L dst m s e H S) (.EP kn bl) (xs.map (·.ev e)):=UR rfl
theorem agF {b:Nat} {live:List Nat} {K:Env→aA→Nat→Prop} {L:List bB} {dst:Option Nat} {e:Env} {S:dF} {ix:Nat} {xs:List aT} {m s:List Nat} {lk:Bool}:wv P b live K (⟨ix,dst,.xop .uN xs,none,m,s,lk⟩::L) e H nx S=xl P (b+ix) (msk b m H) nx (CY P b live K L dst m s e H S) .uN (xs.map (·.ev e)):=UR rfl
theorem ag5 {b:Nat} {live:List Nat} {K:Env→aA→Nat→Prop} {L:List bB} {dst:Option Nat} {e:Env} {S:dF} {ix:Nat} {xs:List aT} {m s:List Nat} {lk:Bool} {kn:Nat} {bl ok:Bool}:wv P b live K (⟨ix,dst,.xop (.tG kn bl ok) xs,none,m,s,lk⟩::L) e H nx S=xl P (b+ix) (msk b m H) nx (CY P b live K L dst m s e H S) (.tG kn bl ok) (xs.map (·.ev e)):=UR rfl
theorem ahJ {b:Nat} {live:List Nat} {K:Env→aA→Nat→Prop} {L:List bB} {dst:Option Nat} {e:Env} {S:dF} {ix:Nat} {xs:List aT} {m s:List Nat} {lk:Bool} {kn:Nat} {bl:Bool}:wv P b live K (⟨ix,dst,.xop (.xF kn bl) xs,none,m,s,lk⟩::L) e H nx S=xl P (b+ix) (msk b m H) nx (CY P b live K L dst m s e H S) (.xF kn bl) (xs.map (·.ev e)):=UR rfl
theorem akC {F:Nat→Prop} {σ:Nat→Nat} {nh n m m':Nat} {R rows' rows:List (List D1)} {r' r:List D1} {i:Nat} (e':rows'=R) (e:rows=R.set i r) (hi:R[i]?=some r') (hR: ∀r∈R,∀x∈r,x.dT=true) (hm:m'=m) (h:CvL H F σ nh r' r):CvO H F σ nh ⟨n,m',rows'⟩ ⟨n,m,rows⟩:=by
 subst e';subst e;subst hm
 refine⟨rfl,rfl,by simp,fun _ h=>by dsimp only at h ⊢;rw[h];rfl,fun j r1 h1=> ?_⟩
 simp only[List.getElem?_set]
 by_cases hj:i=j
 ·subst hj
  have hlt:i<rows'.length:=(List.getElem?_eq_some_iff.1 h1).1
  rw[if_pos rfl,if_pos hlt]
  rw[hi] at h1;cases h1
  exact⟨r,rfl,h⟩
 ·rw[if_neg hj]
  exact⟨r1,h1,r8 fun x hx=>hR r1 (List.mem_of_getElem? h1) x hx⟩
theorem as1 {α:Type} [Inhabited α] {enc:α→List D1} {l:List α} {k:Nat} (h:k<l.length):(l.map enc)[k]?=some (enc (l.getD k default)):=by
 simp[List.getD,h]
theorem asQ {c:Prop} [Decidable c] {A B:Prop} (h1:c→A) (h2: ¬c→B):if c then A else B:=by
 split
 ·exact h1 ‹_›
 ·exact h2 ‹_›
attribute [go_sem] amQ anR ajX anV an7 aj0 agF ag5 ahJ
end
end Go.AM
end
section
namespace Go.AM
open Go.RowKit
theorem acS {P:Program} {f:FuncId} {fn:Func} (hf:P.funcs[f]?=some fn) (hname:(fn.name== "runtime.NumGoroutine")=false) (hb:fn.body.isNone=true) (hnx:Extern.findNext fn=none) {tS tR el:TypeId}
 (he:Extern.find fn=some (Extern.SlicesOverlaps.overlaps #[tS,tS] #[tR])) (ht:P.underlying tS=some (.slice el)) {size:Nat} (hz: ∀w,(Go.sizeOf el).run P w= .ok size w)
 {H:aA} {nx:Nat} {K:D→aA→Nat→Prop} {n n' i j off off' len len' cap cap':Nat} {oi oj:bC} (hi:H i=some oi) (hj:H j=some oj) (hij:i≠j) (h1:0<oi.ext) (h2:0<oj.ext) (hn:0<oj.n) (hc:0<cap) (hc':0<cap') (hoff:off*n<oi.ext*oi.n)
 (hK:K (bD false) H nx):aoX P f [.one (.c (.osl n i off len cap)),.one (.c (.osl n' j off' len' cap'))] H nx K:=by
 intro c vs hst hl hr
 match vs,hl with
 | [v1,v2],_=>
   have r1:=hr 0 _ v1 rfl rfl
   have r2:=hr 1 _ v2 rfl rfl
   simp only[fB,j9,Rel,bW] at r1 r2
   obtain⟨_,r1|⟨_,_,rfl⟩⟩:=r1
   ·omega
   obtain⟨_,r2|⟨_,_,rfl⟩⟩:=r2
   ·omega
   have hni:0<oi.n:=Nat.pos_of_ne_zero fun h=>by rw[h,Nat.mul_zero] at hoff;exact absurd hoff (Nat.not_lt_zero _)
   obtain⟨ai,Ti,b1,b2⟩:=(hst.blk i oi hi h1).cells (fun hm=>by have:=hm.1;omega)
   obtain⟨aj,Tj,b3,b4⟩:=(hst.blk j oj hj h2).cells (fun hm=>by have:=hm.1;omega)
   have hne:=hst.sep i j oi oj hi hj h1 h2 hij
   refine⟨.bool false,bD false,?_,.v _ rfl,hK⟩
   have hp:0<oj.ext*oj.n:=Nat.mul_pos h2 hn
   rw[run_callFunc_extern hf hname hb hnx he]
   have:=Lib.run_overlaps_apart c.w tS tR el ht size hz ⟨(c.ρ i).1,(c.ρ i).2+off*n,none⟩ ⟨(c.ρ j).1,(c.ρ j).2+off'*n',none⟩ len cap len' cap' hne Ti Tj ai.size aj.size (by simp[World.shape?,b1]) (by simp[World.shape?,b3]) (by omega) (by simp[World.frozen?,b1]) (by simp[World.frozen?,b1])
   rw[show ([(Value.slice (some ⟨(c.ρ i).1,(c.ρ i).2+off*n,none⟩) len cap),(Value.slice (some ⟨(c.ρ j).1,(c.ρ j).2+off'*n',none⟩) len' cap')]:List Value).toArray= #[.slice (some ⟨(c.ρ i).1,(c.ρ i).2+off*n,none⟩) len cap,.slice (some ⟨(c.ρ j).1,(c.ρ j).2+off'*n',none⟩) len' cap'] from rfl,this]
   rfl
theorem afS {H:aA} {F:Nat→Prop} {σ:Nat→Nat} {nh n m m':Nat} {rows' rows junk:List (List D1)} (hi: ∀r∈rows',∀x∈r,x.dT=true) (h:rows=rows'++junk) (hm:m'=m) (hn0:n≠0):CvO H F σ nh ⟨n,m',rows'⟩ ⟨n,m,rows⟩:=by
 subst h;subst hm
 refine⟨rfl,rfl,by simp,fun h0 _=>absurd h0 hn0,fun i r h1=> ?_⟩
 refine⟨r,?_,r8 fun x hx=>hi r (List.mem_of_getElem? h1) x hx⟩
 rw[List.getElem?_append_left (List.getElem?_eq_some_iff.1 h1).1];exact h1
end Go.AM
end
section
namespace Go.AM
@[reducible,go_sem] def rq (i t:Nat) (o:AOp):bB:=⟨i,some t,o,none,[],[],false⟩
@[reducible,go_sem] def rn (i:Nat) (o:AOp):bB:=⟨i,none,o,none,[],[],false⟩
@[reducible,go_sem] def ki (n:Int):aT:=.kv (.int .i64 n)
@[reducible,go_sem] def RM (i t a:Nat):bB:=rq i t (.move (.tm a))
@[reducible,go_sem] def RF (i t k a:Nat):bB:=rq i t (.fld k (.tm a))
@[reducible,go_sem] def RL (i t a:Nat):bB:=rq i t (.load 1 false (.tm a))
@[reducible,go_sem] def RK (i t a:Nat):bB:=rq i t (.uG (.tm a))
@[reducible,go_sem] def GQ (i t:Nat) (o:AOp) (g:Nat) (b:Bool):bB:=⟨i,some t,o,some (g,b),[],[],false⟩
@[reducible,go_sem] def VZ:D1:=.v (.int .i64 0)
@[reducible,go_sem] def OZ:D1:=.osl 0 0 0 0 0
@[reducible] def cz (i:Nat):Nat×List Nat×List Nat×Bool:=(i,[],[],false)
def aP (P:Program) (f:FuncId) (fn:Func) (ac:AC) (rs:List aZ):Prop:=
 ∀{args:List D} {H:aA} {nx:Nat} {KK:D→aA→Nat→Prop} (_hl:Nat.ble args.length fn.ntmps=true)
  (_h: ∀Q:AQ,(∀ex e2 H2 nx2 d nh d2 H3 F σ,ex= .normal∨ex= .ret→z3 H2 e2 rs=some d→CvR nx d H2 nh d2 H3 F σ→KK d2 H3 nh→Q ex e2 H2 nx2)→aQ P fn.ntmps [ac] (Env.args 0 args) H nx Q),aB P f args H nx KK
theorem aP.mk {P:Program} {f:FuncId} {fn:Func} {ac:AC} {rs:List aZ} {cs:List Cert}
 (hf:P.funcs[f]?=some fn) (hok:tA P f=true) (hc:aR P fn cs=some (ac,rs)):aP P f fn ac rs:=
 fun hl h=>aB.body hf hok hc (Nat.le_of_ble_eq_true hl) h
abbrev C0:=@ap3
abbrev D0:=@aq2
abbrev C1:=@abU
abbrev C2:=@vY
abbrev C3:=@eR
abbrev C4:=@aH
abbrev C9:=@x8
abbrev CJ:=@apP
abbrev CA:=@aF
abbrev CB:=@bG
abbrev CC:=@anO
abbrev CQ:=@jU
abbrev CE:=@agD
abbrev CR:=@ZR
abbrev CF:=@GI
abbrev CG:=@arZ
abbrev CH:=@abV
abbrev CI:=@afA
abbrev Z1:=@aQ.seq
abbrev Z2:=@aQ.skip
abbrev Z3:=@aQ.block
abbrev Z4:=@arP
abbrev Z5:=@arX
abbrev Z6:=@asT
abbrev Z7:=@asQ
abbrev Z8:=@asX
abbrev Y1:=@aQ.ar8
abbrev Y2:=@aQ.reg
abbrev Y3:=@aQ.asF
abbrev Y4:=@aqK
abbrev Y5:=@aqG
abbrev Y6:=@asB
abbrev Y7:=@apO
abbrev Y8:=@aQ.ret
abbrev Y9:=@aQ.exit
abbrev Y0:=@aQ.nil
abbrev Iw:=@IntWalk.i64_in
end Go.AM
end
end
section
namespace Go.Proofs.YtegiblhkjfiooaaGreat
open Go Go.AM
def AL:Nat:=6
def qD:Nat:=14
def AY:Nat:=17
def yE:Nat:=22
def AO:Nat:=26
def xI:Nat:=32
def iE:Nat:=33
def mC:Nat:=37
def BF:Nat:=39
def sS:Nat:=55
def vI:Nat:=56
def A4:Nat:=57
def sV:Nat:=58
def iD:Nat:=59
def kB:Nat:=62
def iN:Nat:=63
def sE:Nat:=64
def jW:Nat:=65
def jC:Nat:=66
def kP:Nat:=67
def AG:Nat:=68
def nP:Nat:=69
def n8:Nat:=71
def sO:Nat:=73
def cP:Nat:=74
def z7:Nat:=79
def fW:Nat:=80
def dJ:Nat:=81
def mR:Nat:=82
def jV:Nat:=83
def iO:Nat:=85
def cJ:Nat:=86
def aX:Nat:=87
def lT:Nat:=88
def eZ:Nat:=89
def eW:Nat:=90
def kY:Nat:=97
def aG:Nat:=104
def vL:Nat:=107
def vG:Nat:=108
def DU:Nat:=109
def xZ:Nat:=110
def bP:Nat:=111
def sT:Nat:=112
def cE:Nat:=113
def cF:Nat:=114
def sA:Nat:=115
def oP:Nat:=116
def x6:Nat:=117
def fF:Nat:=119
def pZ:Nat:=122
def pS:Nat:=123
def eV:Nat:=124
def fQ:Nat:=125
def gD:Nat:=126
def fO:Nat:=127
def eU:Nat:=128
def yC:Nat:=129
def sJ:Nat:=130
def dE:Nat:=131
def cR:Nat:=132
def lO:Nat:=133
def nZ:Nat:=134
def pP:Nat:=135
def iT:Nat:=136
def nW:Nat:=137
def nM:Nat:=138
def pH:Nat:=139
def oY:Nat:=140
def lQ:Nat:=141
def dC:Nat:=142
def cW:Nat:=149
def vF:Nat:=150
def gN:Nat:=151
def lU:Nat:=152
def fU:Nat:=153
def kF:Nat:=154
def cQ:Nat:=155
def gV:Nat:=156
def yH:Nat:=157
def jY:Nat:=158
def fG:Nat:=159
def eO:Nat:=160
def DT:Nat:=161
def fR:Nat:=162
def r9:Nat:=177
def D7:Nat:=178
def bX:Nat:=179
def sX:Nat:=180
def fK:Nat:=181
def cT:Nat:=182
def jP:Nat:=183
def sD:Nat:=184
def iP:Nat:=187
def gY:Nat:=188
def L8:Nat:=191
def mP:Nat:=192
def eI:Nat:=193
def dV:Nat:=194
def dM:Nat:=195
def cZ:Nat:=196
def eX:Nat:=197
def eP:Nat:=198
def bY:Nat:=199
def s9:Nat:=200
def eC:Nat:=201
def eM:Nat:=202
def kQ:Nat:=203
def sG:Nat:=204
def dX:Nat:=208
def eQ:Nat:=209
def bZ:Nat:=210
def sM:Nat:=211
def cM:Nat:=212
def jE:Nat:=213
def bO:Nat:=214
def eE:Nat:=215
def cN:Nat:=216
def kM:Nat:=217
def lY:Nat:=218
def qE:Nat:=219
def iA:Nat:=220
def bR:Nat:=229
def mU:Nat:=230
def vJ:Nat:=231
def cO:Nat:=232
def jD:Nat:=233
def oO:Nat:=234
def pV:Nat:=235
def xY:Nat:=236
end Go.Proofs.YtegiblhkjfiooaaGreat
end
section
namespace Go.Proofs.YtegiblhkjfiooaaGreat
open Go Go.AM
set_option maxRecDepth 100000
def rB:AC:=
 (.seq (.region [rq 0 2 (.move (.kv (.bool false)))] 1 [0])
 (.seq (.seq (.region [RM 0 14 0,
 rq 1 15 (.len false (.tm 14)),
 rq 2 16 (.bin .gtr (.tm 15) (ki 1048576))] 3 [0,16])
 (.cond (.tm 16)
 (.seq (.region [rq 0 2 (.move (.kv (.bool true)))] 1 [2])
 .ret)
 .skip))
 (.seq (.region [RM 0 18 0,
 rq 1 19 (.call qD [(.tm 18)]),
 RM 2 17 19,
 rq 3 20 (.ext (.tm 17) 0),
 rq 4 21 (.ext (.tm 17) 1),
 rq 5 3 (.alloc [OZ,OZ,OZ]),
 rn 6 (.store 3 true (.tm 3) (.tm 20)),
 RM 7 4 21] 8 [3,4])
 (.seq (.region [⟨0,(some 22),.load 3 true (.tm 3),none,[],[],true⟩,
 RM 2 24 4,
 ⟨1,(some 23),.call AY [],none,[],[0],false⟩,
 rq 3 25 (.call xI [(.tm 22),(.tm 23),(.tm 24)]),
 RM 4 5 25] 5 [3,5])
 (.seq (.region [rq 0 27 (.load 3 true (.tm 3)),
 RM 1 28 5,
 rq 2 29 (.call iE [(.tm 27),(.tm 28)]),
 RM 3 26 29,
 rq 4 30 (.ext (.tm 26) 0),
 rq 5 31 (.ext (.tm 26) 1),
 RM 6 6 30,
 RM 7 7 31] 8 [3,5,6,7])
 (.seq (.seq (.region [RM 0 32 6,
 rq 1 33 (.bin .neq (.tm 32) (.kv (.int .i64 (-1)))),
 RM 2 34 33,
 GQ 3 35 (.move (.tm 7)) 34 false,
 GQ 4 36 (.bin .neq (.tm 35) (ki 0)) 34 false,
 rq 5 37 (.pick (.tm 34) (.kv (.bool true)) (.tm 36))] 6 [3,5,37])
 (.cond (.tm 37)
 (.seq (.region [rq 0 2 (.move (.kv (.bool false)))] 1 [2])
 .ret)
 .skip))
 (.seq (.seq (.region [rq 0 8 (.move (ki 0))] 1 [3,5,8])
 (.block 0
 (.loop
 (.seq (.seq (.region [RM 0 38 8,
 RM 1 39 5,
 rq 2 40 (.len false (.tm 39)),
 rq 3 41 (.bin .lss (.tm 38) (.tm 40))] 4 [3,5,8,41])
 (.cond (.tm 41)
 .skip
 (.exit 0)))
 (.seq (.block 1
 (.seq (.seq (.region [RM 0 44 5,
 RM 1 45 8,
 rq 2 46 (.idx 3 (.tm 44) (.tm 45)),
 RF 3 47 0 46,
 RL 4 48 47,
 rq 5 49 (.bin .neq (.tm 48) (ki 2))] 6 [3,5,8,49])
 (.cond (.tm 49)
 (.exit 1)
 .skip))
 (.seq (.region [rq 0 50 (.bI 3 0 [VZ,VZ,VZ] []),
 RM 1 51 5,
 RM 2 52 8,
 rq 3 53 (.slc 3 (.tm 51) none (some (.tm 52)) none),
 RM 5 55 5,
 RM 6 56 8,
 rq 7 57 (.bin .add (.tm 56) (ki 1)),
 rq 8 58 (.slc 3 (.tm 55) (some (.tm 57)) none none),
 rq 4 54 (.append 3 (.tm 50) (.tm 53)),
 rq 9 59 (.append 3 (.tm 54) (.tm 58)),
 RM 10 9 59] 11 [3,5,8,9])
 (.seq (.region [rq 0 10 (.move (.kv (.bool false)))] 1 [3,5,8,9,10])
 (.seq (.seq (.region [RM 0 60 8,
 RM 1 11 60] 2 [3,5,8,9,10,11])
 (.block 2
 (.loop
 (.seq (.seq (.region [RM 0 61 11,
 RM 1 62 5,
 rq 2 63 (.len false (.tm 62)),
 rq 3 64 (.bin .lss (.tm 61) (.tm 63))] 4 [3,5,8,9,10,11,64])
 (.cond (.tm 64)
 .skip
 (.exit 2)))
 (.seq (.block 3
 (.region [RM 0 67 10,
 RM 1 68 67,
 GQ 2 69 (.move (.tm 5)) 68 false,
 GQ 3 70 (.move (.tm 11)) 68 false,
 GQ 4 71 (.idx 3 (.tm 69) (.tm 70)) 68 false,
 GQ 5 72 (.load 3 true (.tm 71)) 68 false,
 GQ 6 73 (.move (.tm 5)) 68 false,
 GQ 7 74 (.move (.tm 8)) 68 false,
 GQ 8 75 (.idx 3 (.tm 73) (.tm 74)) 68 false,
 GQ 9 76 (.fld 1 (.tm 75)) 68 false,
 GQ 10 77 (.load 1 false (.tm 76)) 68 false,
 GQ 11 78 (.move (.tm 5)) 68 false,
 GQ 12 79 (.move (.tm 8)) 68 false,
 GQ 13 80 (.idx 3 (.tm 78) (.tm 79)) 68 false,
 GQ 14 81 (.fld 2 (.tm 80)) 68 false,
 GQ 15 82 (.load 1 false (.tm 81)) 68 false,
 GQ 16 83 (.build [VZ,VZ,VZ] [(0,1,(ki 3)),(1,1,(.tm 77)),(2,1,(.tm 82))]) 68 false,
 GQ 17 84 (.xop (.aeq 3) [(.tm 72),(.tm 83)]) 68 false,
 rq 18 85 (.pick (.tm 68) (.kv (.bool true)) (.tm 84)),
 RM 19 10 85] 20 [3,5,8,9,10,11]))
 (.region [RM 0 65 11,
 rq 1 66 (.bin .add (.tm 65) (ki 1)),
 RM 2 11 66] 3 [3,5,8,9,10,11]))))))
 (.seq (.region [rq 0 87 (.load 3 true (.tm 3)),
 RM 1 88 9,
 rq 2 89 (.call iE [(.tm 87),(.tm 88)]),
 RM 3 86 89,
 rq 4 90 (.ext (.tm 86) 0),
 rq 5 91 (.ext (.tm 86) 1),
 RM 6 12 90,
 RM 7 13 91] 8 [3,5,8,10,12])
 (.seq (.region [RM 0 92 10,
 RM 1 93 92,
 GQ 2 94 (.move (.tm 12)) 93 true,
 GQ 3 95 (.move (.tm 8)) 93 true,
 GQ 4 96 (.bin .lss (.tm 94) (.tm 95)) 93 true,
 rq 5 97 (.pick (.tm 93) (.tm 96) (.kv (.bool false)))] 6 [3,5,8,97])
 (.cond (.tm 97)
 (.seq (.region [rq 0 2 (.move (.kv (.bool false)))] 1 [2])
 .ret)
 .skip))))))))
 (.region [RM 0 42 8,
 rq 1 43 (.bin .add (.tm 42) (ki 1)),
 RM 2 8 43] 3 [3,5,8]))))))
 (.seq (.region [rq 0 98 (.call AO []),
 RM 1 2 98] 2 [2])
 .ret))))))))
def J3:List Cert:=[⟨[],[0]⟩,⟨[],[0,16]⟩,⟨[],[2]⟩,⟨[],[3,4]⟩,⟨[(0,[],[],true),cz 2,(1,[],[0],false),cz 3,cz 4],[3,5]⟩,⟨[],[3,5,6,7]⟩,⟨[],[3,5,37]⟩,⟨[],[2]⟩,⟨[],[3,5,8]⟩,⟨[],[3,5,8,41]⟩,⟨[],[3,5,8,49]⟩,⟨[cz 0,cz 1,cz 2,cz 3,cz 5,cz 6,cz 7,cz 8,cz 4,cz 9,cz 10],[3,5,8,9]⟩,⟨[],[3,5,8,9,10]⟩,⟨[],[3,5,8,9,10,11]⟩,⟨[],[3,5,8,9,10,11,64]⟩,⟨[cz 0,cz 1,cz 2,cz 3,cz 4,cz 5,cz 6,cz 7,cz 8,cz 9,cz 10,cz 11,cz 12,cz 13,cz 14,cz 15,cz 16,cz 17,cz 18,cz 19],[3,5,8,9,10,11]⟩,⟨[],[3,5,8,9,10,11]⟩,⟨[],[3,5,8,10,12]⟩,⟨[],[3,5,8,97]⟩,⟨[],[2]⟩,⟨[],[3,5,8]⟩,⟨[],[2]⟩]
def zB:List aZ:=[.tm 2]
theorem KP:aR Tryz.prog Tryz.f6 J3=some (rB,zB):=by kernel_rfl
end Go.Proofs.YtegiblhkjfiooaaGreat
end
section
namespace Go.Proofs.YtegiblhkjfiooaaGreat
open Go Go.AM
set_option maxRecDepth 100000
def oE:AC:=
 (.seq (.region [rq 0 2 (.box true (.tm 0)),
 rq 1 4 (.move (ki 0)),
 rq 2 5 (.move (ki 0))] 3 [1,2])
 (.seq (.seq (.region [rq 0 10 (.load 3 true (.tm 2)),
 rq 1 11 (.call sV [(.tm 10)]),
 rq 2 12 (.un .not (.tm 11)),
 RM 3 13 12,
 GQ 4 14 (.move (.tm 1)) 13 false,
 GQ 5 15 (.len false (.tm 14)) 13 false,
 GQ 6 16 (.bin .gtr (.tm 15) (ki 200)) 13 false,
 rq 7 17 (.pick (.tm 13) (.kv (.bool true)) (.tm 16))] 8 [1,2,17])
 (.cond (.tm 17)
 (.seq (.region [rq 0 4 (.move (ki 0)),
 rq 1 5 (.move (ki 1))] 2 [4,5])
 .ret)
 .skip))
 (.seq (.region [rq 0 18 (.call mC []),
 rq 1 6 (.alloc [OZ,OZ,OZ,OZ,OZ,OZ]),
 rn 2 (.store 6 true (.tm 6) (.tm 18))] 3 [1,2,6])
 (.seq (.seq (.region [RM 0 19 1,
 rq 1 20 (.len false (.tm 19)),
 rq 2 21 (.move (ki 0))] 3 [2,6,19,20,21])
 (.block 0
 (.loop
 (.seq (.region [rq 0 22 (.bin .lss (.tm 21) (.tm 20))] 1 [2,6,19,20,21,22])
 (.seq (.cond (.tm 22)
 .skip
 (.exit 0))
 (.seq (.block 1
 (.seq (.region [RM 0 23 21,
 rq 1 24 (.idx 3 (.tm 19) (.tm 21)),
 rq 2 25 (.load 3 true (.tm 24)),
 rq 3 8 (.alloc [VZ,VZ,VZ]),
 RM 4 7 23,
 rn 5 (.store 3 true (.tm 8) (.tm 25))] 6 [2,6,7,8,19,20,21])
 (.seq (.seq (.region [rq 0 26 (.load 3 true (.tm 2)),
 rq 1 27 (.load 6 true (.tm 6)),
 rq 2 28 (.load 3 true (.tm 8)),
 rq 3 29 (.call mR [(.tm 26),(.tm 27),(.tm 28)]),
 RM 4 9 29] 5 [2,6,7,8,9,19,20,21])
 (.seq (.region [RM 0 30 9,
 rq 1 31 (.bin .neq (.tm 30) (ki 0))] 2 [2,6,7,8,9,19,20,21,31])
 (.cond (.tm 31)
 (.seq (.region [RM 0 32 7,
 RM 1 33 9,
 RM 2 4 32,
 RM 3 5 33] 4 [4,5])
 .ret)
 .skip)))
 (.region [rq 0 34 (.load 3 true (.tm 2)),
 rq 1 35 (.load 3 true (.tm 8)),
 rq 2 36 (.call jV [(.tm 34),(.tm 6),(.tm 35)])] 3 [2,6,19,20,21]))))
 (.region [rq 0 37 (.bin .add (.tm 21) (ki 1)),
 RM 1 21 37] 2 [2,6,19,20,21])))))))
 (.seq (.region [rq 0 4 (.move (.kv (.int .i64 (-1)))),
 rq 1 5 (.move (ki 0))] 2 [4,5])
 .ret)))))
def NX:List Cert:=[⟨[],[1,2]⟩,⟨[],[1,2,17]⟩,⟨[],[4,5]⟩,⟨[],[1,2,6]⟩,⟨[],[2,6,19,20,21]⟩,⟨[],[2,6,19,20,21,22]⟩,⟨[],[2,6,7,8,19,20,21]⟩,⟨[],[2,6,7,8,9,19,20,21]⟩,⟨[],[2,6,7,8,9,19,20,21,31]⟩,⟨[],[4,5]⟩,⟨[],[2,6,19,20,21]⟩,⟨[],[2,6,19,20,21]⟩,⟨[],[4,5]⟩]
def B5:List aZ:=[.tm 4,.tm 5]
theorem NW:aR Tryz.prog Tryz.f33 NX=some (oE,B5):=by kernel_rfl
theorem BW:aP Tryz.prog iE Tryz.f33 oE B5:=
 aP.mk Tryz.func33 (by kernel_rfl) NW
end Go.Proofs.YtegiblhkjfiooaaGreat
end
