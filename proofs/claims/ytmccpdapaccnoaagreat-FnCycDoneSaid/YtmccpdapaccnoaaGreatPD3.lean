/- Texts laid together by a program: rules, contracts and the walk that leads to the law. -/
import Derived.Test.YtmccpdapaccnoaaGreatPD2
import Derived.Lib.Overlaps
import Derived.Test.YtmccpdapaccnoaaGreatProg
set_option linter.unusedVariables false
set_option linter.unusedSimpArgs false
set_option linter.unusedSectionVars false
set_option maxRecDepth 100000
set_option maxHeartbeats 8000000
namespace Go.AM
open Go.RowKit
def cK (A B:Prop):D→Prop
 | .one (.c (.v (.bool t)))=>(t=true→A)∧(t=false→B)
 |_=>False
section
variable {P : Program} {T : Nat} {b : Nat} {live : List Nat} {K : Env → aA → Nat → Prop} {L : List aY} {dst : Option Nat} {e : Env} {H : aA} {nx : Nat} {S : dJ} {Q : AQ} {x y z : AC} {zs : List AC}
theorem aM.ar8 {c:aT} (h: ∀A B:Prop,(aM P T (x::zs) e H nx Q→A)→(aM P T (y::zs) e H nx Q→B)→cK A B (c.ev e)):aM P T (.cond c x y::zs) e H nx Q:=by
 have h:=h _ _ id id;unfold cK at h;split at h;·rename_i t ht;exact aM.cond ht h.1 h.2
 ·exact h.elim
theorem atF{A B:Prop}:cK A B (.one (.c (.v (.bool true))))=A:=by simp[cK]
theorem as8{A B:Prop}:cK A B (.one (.c (.v (.bool false))))=B:=by simp[cK]
theorem atC{A B:Prop}{t:Bool} (h1:t=true→A) (h2:t=false→B):cK A B (.one (.c (.v (.bool t)))):=⟨h1,h2⟩
theorem asU {A B:Prop} {p:Prop} [Decidable p] (h:p) (h1:A):cK A B (.one (.c (.v (.bool (decide p))))):=⟨fun _=>h1,fun h2=>by simp[h] at h2⟩
theorem ar9 {A B:Prop} {p:Prop} [Decidable p] (h: ¬p) (h1:B):cK A B (.one (.c (.v (.bool (decide p))))):=⟨fun h2=>by simp[h] at h2,fun _=>h1⟩
theorem atE{A B:Prop}{p:Prop} [Decidable p] (h1:p→A) (h2: ¬p→B):cK A B (.one (.c (.v (.bool (decide p))))):=⟨fun h=>h1 (by simpa using h),fun h=>h2 (by simpa using h)⟩
def wvH (P:Program) (b:Nat) (live:List Nat) (K:Env→aA→Nat→Prop) (o:aY) (L:List aY) (t:Nat) (w:Bool) (e:Env) (H:aA) (nx:Nat) (S:dJ):D→Prop
 | .one (.c (.v (.bool x)))=>if x=w then wv P b live K (o::L) (e.set t (.one (.c (.v (.bool x))))) H nx S else wv P b live K L ((e.set t (.one (.c (.v (.bool x))))).put o.dst (.tup [])) H nx S
 | .tup []=>wv P b live K L (e.put o.dst (.tup [])) H nx S
 |_=>False
variable{t:Nat}
theorem Env.amG{e:Env}{d:D} (h:e t=d):e.set t d=e:=by
 funext i;simp only[Env.set];split;·rename_i hi;rw[hi,h]
 ·rfl
variable{ix:Nat}{m s:List Nat}{k:Bool}
theorem atA{w:Bool}{op:AOp}:wv P b live K (⟨ix,dst,op,some (t,w),m,s,k⟩::L) e H nx S=wvH P b live K ⟨ix,dst,op,none,m,s,k⟩ L t w e H nx S (e t):=by
 rw[as9];generalize he:e t=d;by_cases hd: ∃x,d= .one (.c (.v (.bool x)));·obtain⟨x,rfl⟩:=hd;simp only[wvG,wvH];rw[Env.amG he]
 ·by_cases hu:d= .tup [];·subst hu;rfl
  ·unfold wvG wvH;split;·exact absurd ⟨_,rfl⟩ hd
   ·exact absurd rfl hu
   ·split;·exact absurd ⟨_,rfl⟩ hd
    ·exact absurd rfl hu
    ·rfl
theorem ar6{o:aY}{w:Bool}:wvH P b live K o L t w e H nx S (.tup [])=wv P b live K L (e.put o.dst (.tup [])) H nx S:=rfl
theorem arM{o:aY}:wvH P b live K o L t true e H nx S (.one (.c (.v (.bool true))))=wv P b live K (o::L) (e.set t (.one (.c (.v (.bool true))))) H nx S:=rfl
theorem aqK{o:aY}:wvH P b live K o L t true e H nx S (.one (.c (.v (.bool false))))=wv P b live K L ((e.set t (.one (.c (.v (.bool false))))).put o.dst (.tup [])) H nx S:=rfl
theorem aqZ{o:aY}:wvH P b live K o L t false e H nx S (.one (.c (.v (.bool true))))=wv P b live K L ((e.set t (.one (.c (.v (.bool true))))).put o.dst (.tup [])) H nx S:=rfl
theorem aqF{o:aY}:wvH P b live K o L t false e H nx S (.one (.c (.v (.bool false))))=wv P b live K (o::L) (e.set t (.one (.c (.v (.bool false))))) H nx S:=rfl
theorem ap6 {o:aY} {t:Nat} {w u:Bool} (h1:u=true→wvH P b live K o L t w e H nx S (.one (.c (.v (.bool true))))) (h2:u=false→wvH P b live K o L t w e H nx S (.one (.c (.v (.bool false))))):
 wvH P b live K o L t w e H nx S (.one (.c (.v (.bool u)))):=by
 cases u with
 |true=>exact h1 rfl
 |false=>exact h2 rfl
theorem aqG {o:aY} {t:Nat} {w:Bool} {p:Prop} [Decidable p] (h:p) (h1:wvH P b live K o L t w e H nx S (.one (.c (.v (.bool true))))):wvH P b live K o L t w e H nx S (.one (.c (.v (.bool (decide p))))):=by rw[decide_eq_true h];exact h1
theorem arS {o:aY} {t:Nat} {w:Bool} {p:Prop} [Decidable p] (h: ¬p) (h1:wvH P b live K o L t w e H nx S (.one (.c (.v (.bool false))))):wvH P b live K o L t w e H nx S (.one (.c (.v (.bool (decide p))))):=by rw[decide_eq_false h];exact h1
theorem asQ {o:aY} {t:Nat} {w:Bool} {p:Prop} [Decidable p] (h1:p→wvH P b live K o L t w e H nx S (.one (.c (.v (.bool true))))) (h2: ¬p→wvH P b live K o L t w e H nx S (.one (.c (.v (.bool false))))):
 wvH P b live K o L t w e H nx S (.one (.c (.v (.bool (decide p))))):=
 ap6 (fun h=>h1 (by simpa using h)) (fun h=>h2 (by simpa using h))
theorem am5{z:List D1}:wv P b live K (⟨ix,dst,.alloc z,none,m,s,k⟩::L) e H nx S=wvA P b live K L dst (b+ix) e H nx S (lT (b+ix) e (.alloc z)):=am2 rfl
theorem aqH{g:Bool}{x:aT}:wv P b live K (⟨ix,dst,.box g x,none,m,s,k⟩::L) e H nx S=wvA P b live K L dst (b+ix) e H nx S (lT (b+ix) e (.box g x)):=am2 rfl
theorem ag2{n len:Nat}{z:List D1}{ps:List (Nat×Nat×aT)}:wv P b live K (⟨ix,dst,.bC n len z ps,none,m,s,k⟩::L) e H nx S=wvA P b live K L dst (b+ix) e H nx S (lT (b+ix) e (.bC n len z ps)):=am2 rfl
theorem abU{n:Nat}{z:List D1}{x y:aT}:wv P b live K (⟨ix,dst,.kY n z x y,none,m,s,k⟩::L) e H nx S=wvA P b live K L dst (b+ix) e H nx S (lT (b+ix) e (.kY n z x y)):=am2 rfl
theorem apC{id:Nat}{st:List Nat}{c:Prop} [Decidable c]{kc:Nat}{x:Option (Option Nat×Nat×Nat×List (List D1))}:wvP P b live K L dst id m st e H nx S kc (if c then x else none)=(c∧wvP P b live K L dst id m st e H nx S kc x):=by split<;>rename_i h<;>simp[h,wvP]
theorem aq4{n i off len cap:Nat}:amE (.one (.c (.osl n i off len cap)))=cap:=rfl
theorem W0{st:List Nat}:lU [] st H=True:=by simp[lU]
theorem W5{p:Nat}{g:aA→Prop}{st:List Nat}:lU ((p,g)::S) st H=((p∈st→g H)∧lU S st H):=by simp[lU]
theorem aiG{k:XK}{l:List aT}:aU H e (.xop k l)=xq k (l.map (·.ev e)):=rfl
def ak0 (P:Program) (args:List D) (H:aA) (nx:Nat) (R:D→aA→Nat→Prop):D→Prop
 | .one (.c (.clo f caps))=>aB P f (args++caps.map fun d=>.one (.c d)) H nx R
 |_=>False
theorem am1{f:aT}{xs:List aT}:wv P b live K (⟨ix,dst,.t5 f xs,none,m,s,k⟩::L) e H nx S=ak0 P (xs.map (·.ev e)) (msk b m H) nx (DQ P b live K L dst m s e H S) (f.ev e):=by
 unfold wv;simp only[avc,l8,vI,aop,AOp.kind,HX];generalize f.ev e=d;unfold ak0;split;·simp only[D.one.injEq,DV.c.injEq,D1.clo.injEq,eq_iff_iff];exact⟨by rintro⟨_,_,⟨rfl,rfl⟩,h⟩;exact h,fun h=>⟨_,_,⟨rfl,rfl⟩,h⟩⟩
 ·rename_i hne;simp only[eq_iff_iff,iff_false];rintro⟨f,caps,rfl,_⟩;exact hne f caps rfl
section
variable {id i kn : Nat} {bl ok : Bool} {R : D → aA → Nat → Prop} {m : mH} {l : List Int} {n : Int} {k v : D}
theorem alB:xl P id H nx R (.DS kn bl) []=R (.one (.c (.omap id))) (H.set id (u4 ⟨kn,bl,[]⟩)) nx:=rfl
theorem ahU:xl P id H nx R .sS [.one (.c (.omap i))]=xlL H nx R (I7 H i):=rfl
theorem aeF:xl P id H nx R .sS [.one (.c (.MY m))]=xlL H nx R (some m):=rfl
theorem acY:xl P id H nx R (.rA kn bl ok) [.one (.c (.MY m)),k]=xlG H nx R kn bl ok (some m) (OA kn k):=rfl
theorem agY:xl P id H nx R (.rA kn bl ok) [.one (.c (.omap i)),k]=xlG H nx R kn bl ok (I7 H i) (OA kn k):=rfl
theorem agN:xl P id H nx R (.vM kn bl) [.one (.c (.omap i)),k,v]=xlS H nx R kn bl i (I7 H i) (OA kn k) (S4 bl v):=rfl
theorem akW:xlL H nx R (some m)=R (.one (.c (.v (.int .i64 m.m.length)))) H nx:=rfl
theorem ar3:xlG H nx R kn bl true (some m) (some l)=((m.kn=kn∧m.bl=bl∧l.length=zV kn)∧R (.tup [.c (.v (elemV bl ((jT m.m l).getD 0))),.c (.v (.bool (jT m.m l).isSome))]) H nx):=rfl
theorem asJ:xlG H nx R kn bl false (some m) (some l)=((m.kn=kn∧m.bl=bl∧l.length=zV kn)∧R (.one (.c (.v (elemV bl ((jT m.m l).getD 0))))) H nx):=rfl
theorem alO:xlS H nx R kn bl i (some m) (some l) (some n)=((m.kn=kn∧m.bl=bl∧l.length=zV kn)∧R .dead (H.set i (u4 ⟨kn,bl,vA m.m l n⟩)) nx):=rfl
theorem akH:I7 H i=(H i).bind anD:=rfl
theorem amZ {cs:List D1}:OA kn (.one (.agg cs))=if kn=0 then none else xY cs:=rfl
theorem arU:OA kn (.one (.c (.v (.int .i64 n))))=if kn=0 then some [n] else none:=rfl
theorem aoM {b:Bool}:S4 bl (.one (.c (.v (.bool b))))=if bl then some (if b then 1 else 0) else none:=rfl
theorem apQ:S4 bl (.one (.c (.v (.int .i64 n))))=if bl then none else some n:=rfl
theorem anS:elemV true n= .bool (decide (n≠0)):=rfl
theorem aoQ:elemV false n= .int .i64 n:=rfl
theorem ai1:xY []=some []:=rfl
theorem ad0 {r:List D1}:xY (.v (.int .i64 n)::r)=(xY r).map (n:: ·):=rfl
theorem aqT {xs ys:List D1} {g:Bool} {q:Nat}:xq (.aeq g q) [.one (.agg xs),.one (.agg ys)]=eqD g q xs ys (xY xs) (xY ys):=rfl
theorem al8 {xs ys:List D1} {q:Nat} {a b:List Int}:eqD false q xs ys (some a) (some b)=if xs.length=q∧ys.length=q then some (.one (.c (.v (.bool (decide (a=b)))))) else none:=rfl
theorem aoY {xs ys:List D1} {q:Nat} {a b:List Int}:eqD true q xs ys (some a) (some b)=if xs.length=q∧ys.length=q then some (.one (.c (.v (.bool (decide (¬a=b)))))) else none:=rfl
theorem apG:zV kn=if kn=0 then 1 else kn:=rfl
end
theorem GH{F:Nat→Prop}{σ:Nat→Nat}{nh:Nat}{x x':mH} (h:x'=x):CvO H F σ nh (u4 x') (u4 x):=by subst h;exact bS fun r hr=>by cases hr
theorem ahX{f:FuncId}{caps:List D1}{args:List D}{R:D→aA→Nat→Prop}:ak0 P args H nx R (.one (.c (.clo f caps)))=aB P f (args++caps.map fun d=>.one (.c d)) H nx R:=rfl
theorem atD{a b:Int}:(a==b)=decide (a=b):=by by_cases h:a=b<;>simp[h]
theorem atH{a b:Int}:(a != b)=decide (¬a=b):=by by_cases h:a=b<;>simp[h]
theorem as6{p:Prop} [Decidable p]:(!decide p)=decide (¬p):=by by_cases h:p<;>simp[h]
theorem ao0{α:Type}{enc:α→List D1}{l:List α}{i:Nat}{x:α}:(l.map enc).set i (enc x)=(l.set i x).map enc:=(brD).symm
theorem ak2{α:Type}{enc:α→List D1}{l:List α}{x:α}:l.map enc++[enc x]=(l++[x]).map enc:=by simp
theorem akQ{α:Type}{enc:α→List D1}{l:List α}{k:Nat}:(l.map enc).take k=(l.take k).map enc:=(br7).symm
theorem ajN{α:Type}{enc:α→List D1}{l:List α}{k:Nat}:(l.map enc).drop k=(l.drop k).map enc:=(brE).symm
end
abbrev boP (n:Int):D:=.one (.c (.v (.int .i64 n)))
abbrev dB (b:Bool):D:=.one (.c (.v (.bool b)))
abbrev dS (rows:List (List D1)):D:=.one (.c (.isl rows))
abbrev boQ (n id len cap:Nat):D:=.one (.c (.osl n id 0 len cap))
abbrev bkP (n id:Nat):D:=.one (.c (.ptr n id 0 0))
abbrev boR (cs:List D1):D:=.one (.agg cs)
abbrev cI (n:Int):D1:=.v (.int .i64 n)
abbrev cB (b:Bool):D1:=.v (.bool b)
def aJ (x:Int):List D1:=[.v (.int .i64 x)]
theorem q9 {p:Prop} [Decidable p] (h:p):dB true=dB (decide p):=by rw[decide_eq_true h]
theorem j7 {p:Prop} [Decidable p] (h: ¬p):dB false=dB (decide p):=by rw[decide_eq_false h]
theorem pD {p q:Prop} [Decidable p] [Decidable q] (h:p↔q):dB (decide p)=dB (decide q):=by rw[decide_eq_decide.2 h]
theorem qA {a b:Int} (h:a=b):boP a=boP b:=by rw[h]
theorem ak8 {l:List Int} {x:Int}:l.map aJ++[[.v (.int .i64 x)]]=(l++[x]).map aJ:=by simp[aJ]
theorem apF {l:List Int} {i:Nat} {x:Int}:(l.map aJ).set i [.v (.int .i64 x)]=(l.set i x).map aJ:=by rw[brD];rfl
attribute [go_sem] ak8 apF
section
variable {rows : List (List D1)} {k k' k'' : IntKind} {a b c : Int} {n m id off len cap : Nat}
theorem arX:sJ n (.one (.c (.isl rows))) none (some (.one (.c (.v (.int k a))))) none=if (0≤a∧a≤rows.length)∧(∀r∈rows,r.length=n) then some (.one (.c (.isl (rows.take a.toNat)))) else none:=by
 by_cases boS: ∀r∈rows,r.length=n;·by_cases ha:0≤a<;>simp only[sJ,EA,ha,eq_true boS,if_true,if_false,reduceIte,and_true,and_false,true_and,false_and]<;>(repeat' split)<;>first|rfl| (exfalso;omega)| (simp only[bq5,Nat.sub_zero,Option.some.injEq,D.one.injEq,DV.c.injEq,D1.isl.injEq];first|rfl|exact boL (by simp)|exact boL (m5 _))
 ·by_cases ha:0≤a<;>simp only[sJ,EA,ha,eq_false boS,if_true,if_false,reduceIte,and_true,and_false,true_and,false_and]<;>(repeat' split)<;>first|rfl| (exfalso;omega)| (simp only[bq5,Nat.sub_zero,Option.some.injEq,D.one.injEq,DV.c.injEq,D1.isl.injEq];first|rfl|exact boL (by simp)|exact boL (m5 _))
theorem arK:sJ n (.one (.c (.osl m id off len cap))) none (some (.one (.c (.v (.int k a))))) none=if (m=n∨cap=0)∧0≤a∧a≤cap then some (.one (.c (.osl n id off a.toNat cap))) else none:=by by_cases ha:0≤a<;>simp only[sJ,EA,ZU,ha,if_true,if_false,reduceIte,and_true,true_and,and_false,false_and]<;>(repeat' split)<;>first| (exfalso;omega)| (simp;done)| (simp;omega)
theorem arB:sJ n (.one (.c (.osl m id off len cap))) (some (.one (.c (.v (.int k a))))) none none=if (m=n∨cap=0)∧0≤a∧a≤len∧len≤cap then some (.one (.c (.osl n id (off+a.toNat) (len-a.toNat) (cap-a.toNat)))) else none:=by by_cases ha:0≤a<;>simp only[sJ,EA,ZU,ha,if_true,if_false,reduceIte,and_true,true_and,and_false,false_and]<;>(repeat' split)<;>first| (exfalso;omega)| (simp;done)| (simp;omega)
theorem apA:sJ n (.one (.c (.osl m id off len cap))) (some (.one (.c (.v (.int k a))))) (some (.one (.c (.v (.int k' b))))) none=if (m=n∨cap=0)∧0≤a∧a≤b∧b≤cap then some (.one (.c (.osl n id (off+a.toNat) (b.toNat-a.toNat) (cap-a.toNat)))) else none:=by by_cases ha:0≤a<;>by_cases hb:0≤b<;>simp only[sJ,EA,ZU,ha,hb,if_true,if_false,reduceIte,and_true,true_and,and_false,false_and]<;>(repeat' split)<;>first| (exfalso;omega)| (simp;done)| (simp;omega)
theorem aoL:sJ n (.one (.c (.osl m id off len cap))) none (some (.one (.c (.v (.int k a))))) (some (.one (.c (.v (.int k' b)))))=if (m=n∨cap=0)∧0≤a∧a≤b∧b≤cap then some (.one (.c (.osl n id off a.toNat b.toNat))) else none:=by by_cases ha:0≤a<;>by_cases hb:0≤b<;>simp only[sJ,EA,ZU,ha,hb,if_true,if_false,reduceIte,and_true,true_and,and_false,false_and]<;>(repeat' split)<;>first| (exfalso;omega)| (simp;done)| (simp;omega)
theorem akE:sJ n (.one (.c (.osl m id off len cap))) (some (.one (.c (.v (.int k a))))) (some (.one (.c (.v (.int k' b))))) (some (.one (.c (.v (.int k'' c)))))=if (m=n∨cap=0)∧0≤a∧a≤b∧b≤c∧c≤cap then some (.one (.c (.osl n id (off+a.toNat) (b.toNat-a.toNat) (c.toNat-a.toNat)))) else none:=by by_cases ha:0≤a<;>by_cases hb:0≤b<;>by_cases hc:0≤c<;>simp only[sJ,EA,ZU,ha,hb,hc,if_true,if_false,reduceIte,and_true,true_and,and_false,false_and]<;>(repeat' split)<;>first| (exfalso;omega)| (simp;done)| (simp;omega)
end
attribute [go_sem] arX arK arB apA aoL akE true_or or_true
def en:List (Nat×D)→Env
 | []=>Env.nil
 | (t,d)::l=>(en l).set t d
theorem arY:en []=Env.nil:=rfl
theorem aoG {t:Nat} {d:D} {l:List (Nat×D)}:en ((t,d)::l)=(en l).set t d:=rfl
def hp:List (Nat×bA)→aA
 | []=>aA.nil
 | (i,o)::l=>(hp l).set i o
theorem arI:hp []=aA.nil:=rfl
theorem anY {i:Nat} {o:bA} {l:List (Nat×bA)}:hp ((i,o)::l)=(hp l).set i o:=rfl
def DV.imm:DV→Bool
 | .c d=>d.dQ
 | .agg ds=>ds.all D1.dQ
def D.imm:D→Bool
 | .one x=>x.imm
 | .tup xs=>xs.all DV.imm
 | .dead=>false
section
variable {P : Program} {H G : aA} {F : Nat → Prop} {σ : Nat → Nat} {nx nh : Nat} {e e' : Env}
theorem YP{τ:Nat→Nat}{d:D1} (h:d.dQ=true):rn1 τ d=d:=by cases d<;>first|rfl|cases h
theorem af4{τ:Nat→Nat}{d:DV} (h:d.imm=true):rnV τ d=d:=by
 cases d with
 |c d=>simp only[rnV];rw[YP h]
 |agg ds=>
  simp only[rnV];congr 1;have h2:=w2.1 h;conv=>rhs;rw[←brT ds]
  exact brC fun x hx=>YP (h2 x hx)
theorem af7{τ:Nat→Nat}{d:D} (h:d.imm=true):rnD τ d=d:=by
 cases d with
 |one x=>simp only[rnD];rw[af4 h]
 |dead=>rfl
 |tup xs=>
  simp only[rnD];congr 1;have h2:=w2.1 h;conv=>rhs;rw[←brT xs]
  exact brC fun x hx=>af4 (h2 x hx)
theorem al1{d:DV} (h:d.imm=true):CvV H F σ nh d d:=by
 cases d with
 |c d=>exact bB h
 |agg ds=>exact GW fun x hx=>w2.1 h x hx
theorem aE {d:D} (h:d.imm=true):CvD H F σ nh d d:=by
 cases d with
 |one x=>exact al1 h
 |dead=>trivial
 |tup xs=>refine⟨rfl,fun i a b ha hb=> ?_⟩;rw[ha] at hb;cases hb;exact al1 (w2.1 h a (s3 ha))
theorem aB.fresh{f:FuncId}{args:List D}{K:D→aA→Nat→Prop}{R:D→Prop} (h:aB P f args .nil 0 fun r _ n=>n=0∧r.imm=true∧R r) (hargs:args.all D.imm=true) (hK: ∀r,R r→K r H nx):aB P f args H nx K:=by
 refine aB.lift h id rfl (fun i d0 d h1 h2=> ?_) PS (fun i hi=>absurd hi (bq2 i)) (fun i j hi=>absurd hi (bq2 i)) fun r H' n' _ ⟨h1,h2,h3⟩=> ?_;·rw[h1] at h2;cases h2;exact aE (w2.1 hargs d0 (s3 h1))
 ·subst h1;rw[af7 h2];exact hK r h3
theorem V4{Q:AQ}{rs:List aW}{R:D→Prop} (hQ: ∀ex e2 H2 nx2 d nh d2 H3 F σ,ex=AEx.normal∨ex=AEx.ret→yT H2 e2 rs=some d→CvR 0 d H2 nh d2 H3 F σ→(nh=0∧d2.imm=true∧R d2)→Q ex e2 H2 nx2)
 {e2:Env} {H2:aA} {nx2:Nat} (d' d:D) (h1:yT H2 e2 rs=some d) (h2:CvD H2 (fun _=>True) id 0 d' d) (h3:d'.imm=true) (h4:R d'):Q .ret e2 H2 nx2:=
 hQ _ _ _ _ d 0 d' .nil (fun _=>True) id (.inr rfl) h1 ⟨m5 _,fun _ _=>rfl,h2,PS⟩ ⟨rfl,h3,h4⟩
def alR (n:Nat) (rows:List (List D1)):Prop:=∀r∈rows,r.length=n∧ ∀x∈r,x.dQ=true
variable{n:Nat}
theorem aG{α:Type}{enc:α→List D1} (h: ∀x,(enc x).length=n∧(enc x).all D1.dQ=true) (l:List α):alR n (l.map enc):=by intro r hr;obtain⟨x,_,rfl⟩:=CF.1 hr;exact⟨(h x).1,w2.1 (h x).2⟩
variable{rows:List (List D1)}{len cap:Nat}
theorem XN{id:Nat}{o:bA} (hi:alR n rows) (hl:len=rows.length) (hF:F id) (ho:H id=some o) (hn:o.n=n) (hr:o.rows.take rows.length=rows) (hc:rows.length≤cap):Cv1 H F σ nh (.isl rows) (.osl n id 0 len cap):=by
 subst hl;have hle:rows.length≤o.rows.length:=by have:=congrArg List.length hr;rw[CG] at this;omega
 have hg: ∀i:Nat,∀r',rows[i]?=some r'→o.rows[i]?=some r':=by
  intro i r' h;rw[←hr,s4] at h;split at h;·exact h
  ·cases h
 refine .frz (.frz rows n id 0 cap o (fun i j=>((rows[i]?.getD [])[j]?).getD .dead) hF ho hn (by omega) hc (fun i r' h=>(hi r' (s3 h)).1) (fun i j r' d' h1 h2=>⟨r',by rw[Y4];exact hg i r' h1,by rw[h1];simp[h2]⟩) fun i j r' d' h1 h2=> ?_);rw[h1];simp only[Option.getD_some,h2];exact .same d' ((hi r' (s3 h1)).2 d' (s3 h2))
theorem xG {n id off:Nat}:Cv1 H F σ nh (.isl []) (.osl n id off 0 0):=.frz (.nil n id off)
theorem aaF {n id id' off off' len len' cap cap':Nat} (h:id'<nh) (hs:σ id'=id) (h1:off'=off) (h2:len'=len) (h3:cap'=cap):Cv1 H F σ nh (.osl n id' off' len' cap') (.osl n id off len cap):=by subst h1;subst h2;subst h3;exact an2 h hs
theorem DJ{id:Nat}{o:bA} (hi:alR n rows) (hl:len=rows.length) (hF:F id) (ho:H id=some o) (hn:o.n=n) (hr:o.rows.take rows.length=rows) (hc:rows.length≤cap):CvD H F σ nh (dS rows) (.one (.c (.osl n id 0 len cap))):=XN hi hl hF ho hn hr hc
theorem qS{id id' off off' len' cap':Nat} (h:id'<nh) (hs:σ id'=id) (h1:off'=off) (h2:len'=len) (h3:cap'=cap):CvD H F σ nh (.one (.c (.osl n id' off' len' cap'))) (.one (.c (.osl n id off len cap))):=aaF h hs h1 h2 h3
theorem DG{id id' row col:Nat} (h:id'<nh) (hs:σ id'=id):CvD H F σ nh (.one (.c (.ptr n id' row col))) (.one (.c (.ptr n id row col))):=afZ h hs
theorem YY {f:FuncId} {caps:List D1} (h:caps.all D1.dQ=true):Cv1 H F σ nh (.clo f caps) (.clo f caps):=
 .clo f caps caps rfl fun i x y hx hy=>by rw[hx] at hy;cases hy;have:=w2.1 h x (s3 hx);exact .inl ⟨this,.same x this⟩
theorem kC{f:FuncId}{caps:List D1} (h:caps.all D1.dQ=true):CvD H F σ nh (.one (.c (.clo f caps))) (.one (.c (.clo f caps))):=YY h
def amT (H:aA) (F:Nat→Prop):List D1→List D1→Prop
 | [],[]=>True
 |x::xs,y::ys=>(x.dQ=true∧Frz H F x y)∧amT H F xs ys
 |_,_=>False
theorem BZ: ∀{xs ys:List D1},amT H F xs ys→xs.length=ys.length∧ ∀(i:Nat) (x y:D1),xs[i]?=some x→ys[i]?=some y→x.dQ=true∧Frz H F x y
 | [],[],_=>⟨rfl,fun i x y h=>by simp at h⟩
 |a::xs,b::ys,h=>⟨by simp[(BZ h.2).1],fun i x y hx hy=>by
  match i with
  |0=>simp at hx hy;subst hx;subst hy;exact h.1
  |i+1=>exact(BZ h.2).2 i x y (by simpa using hx) (by simpa using hy)⟩
 | [],_::_,h=>h.elim
 |_::_,[],h=>h.elim
theorem PR{f:FuncId}{caps0 caps:List D1} (h:amT H F caps0 caps):CvD H F σ nh (.one (.c (.clo f caps0))) (.one (.c (.clo f caps))):=
 .clo f caps caps0 (BZ h).1 fun i x y hx hy=>.inl ((BZ h).2 i x y hx hy)
theorem zE{cells:List D1}{id:Nat}{o:bA} (hi:cells.all D1.dQ=true) (hF:F id) (ho:H id=some o) (hn:o.n=n) (hr:o.rows[0]?=some cells):(D1.fQ cells).dQ=true∧Frz H F (.fQ cells) (.ptr n id 0 0):=
 ⟨rfl,.ptr cells n id 0 0 o cells (fun j=>(cells[j]?).getD .dead) hF ho hn hr (fun j d' h=>by simp[h]) (fun j d' h=>by
  simp only[h,Option.getD_some]
  exact .same d' (w2.1 hi d' (s3 h)))⟩
theorem aeE {cells:List D1} {n id:Nat} {o:bA} (hi:cells.all D1.dQ=true) (hF:F id) (ho:H id=some o) (hn:o.n=n) (hr:o.rows[0]?=some cells):CvD H F σ nh (.one (.c (.fQ cells))) (.one (.c (.ptr n id 0 0))):=
 .frz (zE hi hF ho hn hr).2
theorem bU (hle:nx≤nh) (h:CvE H (fun _=>True) id nh e' e): ∃F σ,Cv nx e H nh e' .nil F σ:=⟨fun _=>True,id,hle,fun _ _=>rfl,h,PS⟩
def ap5 (H:aA):List D→List D→Prop
 | [],[]=>True
 |d0::l0,d::l=>CvD H (fun _=>True) id 0 d0 d∧ap5 H l0 l
 |_,_=>False
theorem aI: ∀{l0 l:List D},ap5 H l0 l→∀(i:Nat) (d0 d:D),l0[i]?=some d0→l[i]?=some d→CvD H (fun _=>True) id 0 d0 d
 | [],[],_,i,d0,d,h1,_=>by simp at h1
 |a::l0,b::l,h,i,d0,d,h1,h2=>by
  match i with
  |0=>simp at h1 h2;subst h1;subst h2;exact h.1
  |i+1=>exact aI h.2 i d0 d (by simpa using h1) (by simpa using h2)
 | [],_::_,h,_,_,_,_,_=>h.elim
 |_::_,[],h,_,_,_,_,_=>h.elim
theorem yP{α:Type}{enc:α→List D1}{l:List α}{id m:Nat} (he: ∀x,(enc x).length=n∧(enc x).all D1.dQ=true) (ho:H id=some ⟨n,m,l.map enc⟩) (hl:len=l.length) (hc:l.length≤cap) (hF:F id):CvD H F σ nh (dS (l.map enc)) (.one (.c (.osl n id 0 len cap))):=DJ (aG he l) (by simp[hl]) hF ho rfl (boL (m5 _)) (by simp;omega)
theorem oF {t:Nat} {d:D} {l:List (Nat×D)} (h:CvE H F σ nh (en l) e) (hd:CvD H F σ nh d (e t)):CvE H F σ nh (en ((t,d)::l)) e:=anZ h hd
theorem K6:CvE H F σ nh (en []) e:=fun _=>trivial
def sgL (nx:Nat) (s:List Nat) (i:Nat):Nat:=if i<nx then i else (s[i-nx]?).getD i
def OkO (H:aA) (F:Nat→Prop) (σ:Nat→Nat) (nh:Nat):List (Nat×bA)→Prop
 | []=>True
 |p::l=>(p.1<nh∧ ¬F (σ p.1)∧ ∃o,H (σ p.1)=some o∧CvO H F σ nh p.2 o)∧OkO H F σ nh l
theorem XC: ∀{l:List (Nat×bA)} {i:Nat} {o:bA},hp l i=some o→(i,o)∈l
 | [],i,o,h=>by simp[hp,aA.nil] at h
 | (j,p)::l,i,o,h=>by
   simp only[hp,aA.set] at h;split at h;·rename_i hi;cases h;subst hi;simp
   ·exact bq9 _ (XC h)
theorem af2: ∀{l:List (Nat×bA)},OkO H F σ nh l→∀p∈l,p.1<nh∧ ¬F (σ p.1)∧ ∃o,H (σ p.1)=some o∧CvO H F σ nh p.2 o
 | [],_,p,hp=>by simp at hp
 |q::l,h,p,hp=>by
  rcases t3.1 hp with rfl|hp;·exact h.1
  ·exact af2 h.2 p hp
variable{l:List (Nat×bA)}
theorem ahG (h:(l.map fun p=>σ p.1).Nodup){p q:Nat×bA} (h1:p∈l) (h2:q∈l) (he:σ p.1=σ q.1):p=q:=by
 induction l with
 |nil=>simp at h1
 |cons a l ih=>
  simp only[n3,bq8] at h;rcases t3.1 h1 with h3|h3<;>rcases t3.1 h2 with h4|h4;·rw[h3,h4]
  ·subst h3;exact absurd (CF.2 ⟨q,h4,he.symm⟩:σ p.1∈l.map fun p=>σ p.1) h.1
  ·subst h4;exact absurd (CF.2 ⟨p,h3,he⟩:σ q.1∈l.map fun p=>σ p.1) h.1
  ·exact ih h.2 h3 h4
theorem QQ (h:OkO H F σ nh l) (hn:(l.map fun p=>σ p.1).Nodup):CvH H F σ nh (hp l):=⟨fun id o' hid=>af2 h _ (XC hid),fun i j o o' hi hj he=>congrArg Prod.fst (ahG hn (XC hi) (XC hj) he)⟩
theorem cR (s:List Nat) (hle:nx≤nh) (hE:CvE H (· ∉s) (sgL nx s) nh e' e) (boT:OkO H (· ∉s) (sgL nx s) nh l) (hn:(l.map fun p=>sgL nx s p.1).Nodup): ∃F σ,Cv nx e H nh e' (hp l) F σ:=⟨_,_,hle,fun i hi=>by simp[sgL,hi],hE,QQ boT hn⟩
theorem fU{d d':D} (s:List Nat) (hle:nx≤nh) (hd:CvD H (· ∉s) (sgL nx s) nh d' d) (boT:OkO H (· ∉s) (sgL nx s) nh l) (hn:(l.map fun p=>sgL nx s p.1).Nodup):CvR nx d H nh d' (hp l) (· ∉s) (sgL nx s):=⟨hle,fun i hi=>by simp[sgL,hi],hd,QQ boT hn⟩
theorem bP{m m':Nat}{rows':List (List D1)} (hi:alR n rows') (h:rows'=rows) (hm:m'=m):CvO H F σ nh ⟨n,m',rows'⟩ ⟨n,m,rows⟩:=by subst h;subst hm;exact bS fun r hr=>(hi r hr).2
theorem aM.ar4{P:Program}{T:Nat}{e:Env}{H:aA}{nx:Nat}{Q:AQ}{x:AC}{zs:List AC}{α:Type} (m:Nat) (E:Nat→α→Env) (G:Nat→α→aA) (μ:α→Nat) (x0:α) (h0: ∃F σ,Cv nx e H (nx+m) (E nx x0) (G nx x0) F σ)
 (h: ∀u,∀K:Env→aA→Nat→Prop,(∀e' H' nx' u',nx+m≤nx'→μ u'<μ u→(∃F σ,Cv nx e' H' (nx+m) (E nx u') (G nx u') F σ)→K e' H' nx')→aM P T [x] (E nx u) (G nx u) (nx+m) (AQ.then K Q)):aM P T (.loop x::zs) e H nx Q:=
 aM.loop (E nx) (G nx) (nx+m) μ x0 h0 h
end
attribute [go_sem] aq4 alB ahU aeF agY acY agN akW ar3 asJ alO akH ahL amZ arU aoM apQ anS aoQ ai1 ad0 aqT al8 aoY apG W0 W5 t3 bq7 or_false false_or or_self aiG am1 ahX akQ ajN apC boL List.length_range List.length_replicate am5 aqH ag2 abU atA ar6 arM aqK aqZ aqF atF as8 atD atH as6 ao0 ak2 arY aoG arI anY aJ gt_iff_lt ge_iff_le Int.reduceEq Int.reduceNe Int.reduceLT Int.reduceLE Int.reduceAdd Int.reduceSub Int.reduceMul Int.reduceNeg decide_true decide_false Int.toNat_natCast Z1 Bool.not_false not_true_eq_false not_false_eq_true Y2 t2 Nat.reduceMul Nat.reduceSub Nat.reduceLT Int.reduceToNat
section
variable {P : Program} {H G : aA} {F : Nat → Prop} {σ : Nat → Nat} {nx nh : Nat} {e e' : Env}
def C7 (o:bA):Prop:=∀r∈o.rows,∀x∈r,x.dQ=true
theorem rF {τ:Nat→Nat} {o:bA} (h:C7 o):o.rn τ=o:=by
 unfold bA.rn;congr 1;conv=>rhs;rw[←brT o.rows]
 refine brC fun r hr=> ?_;conv=>rhs;rw[←brT r]
 exact brC fun x hx=>YP (h r hr x hx)
theorem aA.arQ {i:Nat} {o:bA}:H.upd i (some o)=H.set i o:=rfl
theorem aB.OU {f:FuncId} {args0 args:List D} {K:D→aA→Nat→Prop} {o:bA} {R:D→bA→Prop} (i:Nat) (h:aB P f args0 (hp [(0,o)]) 1 fun r H' n'=>n'=1∧ ∃o',H'=hp [(0,o')]∧C7 o'∧R r o') (hlen:args.length=args0.length)
 (hargs: ∀(j:Nat) (d0 d:D),args0[j]?=some d0→args[j]?=some d→CvD H (fun _=>False) (fun _=>i) 1 d0 d) (hi:i<nx) (ho:H i=some o) (himm:C7 o) (hK: ∀r o',R r o'→K (rnD (tau 1 nx fun _=>i) r) (H.set i o') nx):aB P f args H nx K:=by
 refine aB.lift h (fun _=>i) hlen hargs (QQ ⟨⟨Nat.zero_lt_one,fun h=>h,o,ho,bS himm⟩,trivial⟩ (by simp)) (fun j _=>hi) (fun j k hj hk _=>by omega) fun r H' n' hle ⟨h1,o',h2,h3,h4⟩=> ?_
 subst h1;subst h2
 have e:back (tau 1 nx fun _=>i) (hp [(0,o')]) 1 H=H.set i o':=by
  simp only[back,hp,aA.set,Option.map_some,rF h3,aA.arQ,if_true];have:tau 1 nx (fun _=>i) 0=i:=by simp[tau]
  rw[this]
 rw[e]
 exact hK r o' h4
theorem aB.aUH {f:FuncId} {args0 args:List D} {K:D→aA→Nat→Prop} {o1 o2:bA} {R:D→bA→bA→Prop} (i j:Nat) (h:aB P f args0 (hp [(0,o1),(1,o2)]) 2 fun r H' n'=>n'=2∧ ∃o1' o2',H'=hp [(0,o1'),(1,o2')]∧C7 o1'∧C7 o2'∧R r o1' o2') (hlen:args.length=args0.length)
 (hargs: ∀(k:Nat) (d0 d:D),args0[k]?=some d0→args[k]?=some d→CvD H (fun _=>False) (fun k=>if k=0 then i else j) 2 d0 d) (hi:i<nx) (hj:j<nx) (hij:i≠j) (ho1:H i=some o1) (ho2:H j=some o2) (h1:C7 o1) (h2:C7 o2)
 (hK: ∀r o1' o2',R r o1' o2'→K (rnD (tau 2 nx fun k=>if k=0 then i else j) r) ((H.set i o1').set j o2') nx):aB P f args H nx K:=by
 refine aB.lift h (fun k=>if k=0 then i else j) hlen hargs (QQ ⟨⟨by simp,fun h=>h,o1,by simpa using ho1,bS h1⟩,⟨by simp,fun h=>h,o2,by simpa using ho2,bS h2⟩,trivial⟩ (by simpa using hij)) (fun k _=>by split<;>assumption) (fun a b ha hb he=> ?_) fun r H' n' hle ⟨k1,o1',o2',k2,k3,k4,k5⟩=> ?_
 ·split at he<;>split at he<;>omega
 subst k1;subst k2
 have e:back (tau 2 nx fun k=>if k=0 then i else j) (hp [(0,o1'),(1,o2')]) 2 H=(H.set i o1').set j o2':=by
  have boU:tau 2 nx (fun k=>if k=0 then i else j) 0=i:=by simp[tau]
  have e1:tau 2 nx (fun k=>if k=0 then i else j) 1=j:=by simp[tau]
  simp only[back,hp,aA.set,boU,e1,Option.map_some,rF k3,rF k4,if_true,Y4];simp only[Nat.zero_ne_one,brN,if_false,Option.map_some,rF k3,rF k4];rfl
 rw[e]
 exact hK r o1' o2' k5
theorem lA {Q:AQ} {rs:List aW} {R:D→bA→Prop} (hQ: ∀ex e2 H2 nx2 d nh d2 H3 F σ,ex=AEx.normal∨ex=AEx.ret→yT H2 e2 rs=some d→CvR 1 d H2 nh d2 H3 F σ→(nh=1∧ ∃o',H3=hp [(0,o')]∧C7 o'∧R d2 o')→Q ex e2 H2 nx2)
 {e2:Env} {H2:aA} {nx2:Nat} (d' d:D) (o':bA) (h1:yT H2 e2 rs=some d) (h2:CvD H2 (fun i=>i≠0) id 1 d' d) (h3:H2 0=some o') (h4:C7 o') (h5:R d' o'):Q .ret e2 H2 nx2:=
 hQ _ _ _ _ d 1 d' (hp [(0,o')]) (fun i=>i≠0) id (.inr rfl) h1 ⟨m5 _,fun _ _=>rfl,h2,QQ ⟨⟨Nat.zero_lt_one,fun h=>h rfl,o',h3,bS h4⟩,trivial⟩ (by simp)⟩ ⟨rfl,o',rfl,h4,h5⟩
theorem aTE {Q:AQ} {rs:List aW} {R:D→bA→bA→Prop} (hQ: ∀ex e2 H2 nx2 d nh d2 H3 F σ,ex=AEx.normal∨ex=AEx.ret→yT H2 e2 rs=some d→CvR 2 d H2 nh d2 H3 F σ→(nh=2∧ ∃o1' o2',H3=hp [(0,o1'),(1,o2')]∧C7 o1'∧C7 o2'∧R d2 o1' o2')→Q ex e2 H2 nx2)
 {e2:Env} {H2:aA} {nx2:Nat} (d' d:D) (o1 o2:bA) (h1:yT H2 e2 rs=some d) (h2:CvD H2 (fun i=>2≤i) id 2 d' d) (h3:H2 0=some o1) (h4:H2 1=some o2) (h5:C7 o1) (h6:C7 o2) (h7:R d' o1 o2):Q .ret e2 H2 nx2:=
 hQ _ _ _ _ d 2 d' (hp [(0,o1),(1,o2)]) (fun i=>2≤i) id (.inr rfl) h1 ⟨m5 _,fun _ _=>rfl,h2,QQ ⟨⟨by simp,by simp,o1,h3,bS h5⟩,⟨by simp,by simp,o2,h4,bS h6⟩,trivial⟩ (by simp)⟩ ⟨rfl,o1,o2,rfl,h5,h6,h7⟩
theorem oB {α:Type} {enc:α→List D1} {n m:Nat} (h: ∀x,(enc x).length=n∧(enc x).all D1.dQ=true) (l:List α):C7 ⟨n,m,l.map enc⟩:=fun r hr=>(aG h l r hr).2
theorem EW {τ:Nat→Nat} {d:D} {A:D→Prop} (h:d.imm=true) (hA:A d):A (rnD τ d):=by rw[af7 h];exact hA
def aqS (H:aA) (τ:Nat→Nat) (n:Nat):List D→List D→Prop
 | [],[]=>True
 |d0::l0,d::l=>CvD H (fun _=>False) τ n d0 d∧aqS H τ n l0 l
 |_,_=>False
theorem gW {τ:Nat→Nat} {n:Nat}: ∀{l0 l:List D},aqS H τ n l0 l→∀(i:Nat) (d0 d:D),l0[i]?=some d0→l[i]?=some d→CvD H (fun _=>False) τ n d0 d
 | [],[],_,i,d0,d,h1,_=>by simp at h1
 |a::l0,b::l,h,i,d0,d,h1,h2=>by
  match i with
  |0=>simp at h1 h2;subst h1;subst h2;exact h.1
  |i+1=>exact gW h.2 i d0 d (by simpa using h1) (by simpa using h2)
 | [],_::_,h,_,_,_,_,_=>h.elim
 |_::_,[],h,_,_,_,_,_=>h.elim
end
section
variable {P : Program} {T : Nat} {e : Env} {H : aA} {nx : Nat} {Q : AQ}
theorem AWP.join {x y:AC} {α:Type} (nh:Nat) (E:α→Env) (G:α→aA) (h1:AWP P T x e H nx (AQ.then (fun e' H' _=>∃u,∃F σ,Cv nx e' H' nh (E u) (G u) F σ) Q)) (h2: ∀u,AWP P T y (E u) (G u) nh Q):AWP P T (.seq x y) e H nx Q:=by
 intro code hc c a hs he hN
 cases hc with
 |seq k1 k2=>
  refine wp_seq (wp_mono (h1 _ k1 c a hs he hN) fun ex a' w' ⟨aex,e',H',nx',c',hp⟩=> ?_);obtain⟨rfl,rfl,p1,p2,p3,p4,p5,p6⟩:=hp
  cases aex with
  |normal=>
   simp only[AQ.then] at p6;obtain⟨u,F,σ,q⟩:=p6;obtain⟨c2,r1,r2,r3,r4,r5⟩:=q.sound p1 p2 hN p3
   have h3:=h2 u _ k2 c2 a' r2 r3 fun i hi=>by
    rcases r5 i hi with h|h;·have:=q.le;omega
    ·exact h.2
   rw[r1] at h3;refine wp_mono h3 fun ex a'' w'' hq=>hq.lift r4 (fun i hi=> ?_) q.le fun _ _ _ _ _ h=>h;rcases r5 i hi with h|h
   ·rcases p4 i h.1 with h4|h4;·exact .inl h4
    ·omega
   ·exact .inr h
  |exit id=>exact⟨.exit id,e',H',nx',c',rfl,rfl,p1,p2,p3,p4,p5,p6⟩
  |ret=>exact⟨.ret,e',H',nx',c',rfl,rfl,p1,p2,p3,p4,p5,p6⟩
theorem aM.join {x y:AC} {zs:List AC} {α:Type} (m:Nat) (E:Nat→α→Env) (G:Nat→α→aA)
 (h1: ∀K:Env→aA→Nat→Prop,(∀e' H' nx' u,(∃F σ,Cv nx e' H' (nx+m) (E nx u) (G nx u) F σ)→K e' H' nx')→aM P T [x] e H nx (AQ.then K Q))
 (h2: ∀u,aM P T (y::zs) (E nx u) (G nx u) (nx+m) Q):aM P T (.seq x y::zs) e H nx Q:=by
 refine AWP.join (nx+m) (E nx) (G nx) (AWP.mono (h1 _ (fun e' H' nx' u h=>(⟨u,h⟩: ∃u,∃F σ,Cv nx e' H' (nx+m) (E nx u) (G nx u) F σ))).run fun ex e' H' nx' _ hq=> ?_) h2
 cases ex with
 |normal=>exact hq
 |exit i=>exact hq
 |ret=>exact hq
theorem aM.sG{x:AC}{zs:List AC}{β:Type} (m:Nat) (E:Nat→β→Env) (G:Nat→β→aA) (I:β→Prop) (μ:β→Nat) (v0:β) (h0: ∃F σ,Cv nx e H (nx+m) (E nx v0) (G nx v0) F σ) (hi:I v0)
 (h: ∀v,I v→∀K:Env→aA→Nat→Prop,(∀e' H' nx' v',nx+m≤nx'→(∃F σ,Cv nx e' H' (nx+m) (E nx v') (G nx v') F σ)→I v'→μ v'<μ v→K e' H' nx')→aM P T [x] (E nx v) (G nx v) (nx+m) (AQ.then K Q)):aM P T (.loop x::zs) e H nx Q:=
 aM.ar4 (α:={v:β//I v}) m (fun b u=>E b u.1) (fun b u=>G b u.1) (fun u=>μ u.1) ⟨v0,hi⟩ h0 fun u K hK=>h u.1 u.2 K fun e' H' nx' v' h1 h2 h3 h4=>hK e' H' nx' ⟨v',h3⟩ h1 h4 h2
theorem arT {H:aA} {F:Nat→Prop} {σ:Nat→Nat} {nh:Nat} {a b:D1} (h:Cv1 H F σ nh a b):Cv1 H F σ nh a b:=h
theorem aqR {H:aA} {F:Nat→Prop} {σ:Nat→Nat} {nh:Nat} {a b:D} (h:CvD H F σ nh a b):CvD H F σ nh a b:=h
theorem asF {H:aA} {F:Nat→Prop} {σ:Nat→Nat} {nh:Nat} {a b:D1} (h:a=b) (hi:a.dQ=true):Cv1 H F σ nh a b:=h▸bB hi
theorem bW{H:aA}{F:Nat→Prop}{σ:Nat→Nat}{nh:Nat}{α:Type}{enc:α→List D1}{l:List α}{n id len cap m:Nat} (he: ∀x,(enc x).length=n∧(enc x).all D1.dQ=true) (ho:H id=some ⟨n,m,l.map enc⟩) (hl:len=l.length) (hc:l.length≤cap) (hF:F id):Cv1 H F σ nh (.isl (l.map enc)) (.osl n id 0 len cap):=XN (aG he l) (by simp[hl]) hF ho rfl (boL (m5 _)) (by simp;omega)
def kpm (b:Nat) (l:List Nat) (H:aA):aA:=fun i=>if i∈l.map (b+ ·) then H i else none
variable {b i : Nat} {l : List Nat} {o : bA} {G : aA}
theorem akT:msk b l (H.set i o)=if i∈l.map (b+ ·) then msk b l H else (msk b l H).set i o:=by
 split
 ·rename_i h;funext j;simp only[msk,aA.set];by_cases hj:j=i;·subst hj;simp only[h,if_true]
  ·simp only[hj,if_false]
 ·rename_i h;funext j;simp only[msk,aA.set];by_cases hj:j=i;·subst hj;simp only[h,if_true,if_false]
  ·simp only[hj,if_false]
theorem akY:msk b l aA.nil=aA.nil:=by funext j;simp only[msk,aA.nil];split<;>rfl
theorem an1:msk b l (H.del i)=(msk b l H).del i:=by funext j;simp only[msk,aA.del];split<;>split<;>rfl
theorem aoS:kpm b l (H.set i o)=if i∈l.map (b+ ·) then (kpm b l H).set i o else kpm b l H:=by
 split
 ·rename_i h;funext j;simp only[kpm,aA.set];by_cases hj:j=i;·subst hj;simp only[h,if_true]
  ·simp only[hj,if_false]
 ·rename_i h;funext j;simp only[kpm,aA.set];by_cases hj:j=i;·subst hj;simp only[h,if_false]
  ·simp only[hj,if_false]
theorem al5:kpm b l aA.nil=aA.nil:=by funext j;simp only[kpm,aA.nil];split<;>rfl
theorem abQ:dT b l H aA.nil=kpm b l H:=by funext j;simp only[dT,kpm,aA.nil]
theorem aeC:dT b l H (G.set i o)=if i∈l.map (b+ ·) then dT b l H G else (dT b l H G).set i o:=by
 split
 ·rename_i h;funext j;simp only[dT,aA.set];by_cases hj:j=i;·subst hj;simp only[h,if_true]
  ·simp only[hj,if_false]
 ·rename_i h;funext j;simp only[dT,aA.set];by_cases hj:j=i;·subst hj;simp only[h,if_true,if_false]
  ·simp only[hj,if_false]
theorem ahD:dT b l H (G.del i)=if i∈l.map (b+ ·) then dT b l H G else (dT b l H G).del i:=by
 split
 ·rename_i h;funext j;simp only[dT,aA.del];by_cases hj:j=i;·subst hj;simp only[h,if_true]
  ·simp only[hj,if_false]
 ·rename_i h;funext j;simp only[dT,aA.del];by_cases hj:j=i;·subst hj;simp only[h,if_true,if_false]
  ·simp only[hj,if_false]
variable{a c:bA}
theorem yE{H:aA}{i j:Nat} (h: ¬i=j):(H.set i a).set j c=(H.set j c).set i a:=by
 funext k;simp only[aA.set];by_cases h1:k=j;·subst h1;rw[if_pos rfl,if_neg (fun h2=>h h2.symm),if_pos rfl]
 ·rw[if_neg h1];by_cases h2:k=i;·rw[if_pos h2,if_pos h2]
  ·rw[if_neg h2,if_neg h2,if_neg h1]
variable{boV:Nat}{boW:bA}
theorem ajH{H:aA}{i:Nat} (h0: ¬boV=i):((H.set i a).set boV boW).set i c=((H.set i c).set boV boW):=by rw[yE h0,aA.set_set]
variable{j1:Nat}{b1:bA}
theorem am6{H:aA}{i:Nat} (h0: ¬boV=i) (h1: ¬j1=i):(((H.set i a).set boV boW).set j1 b1).set i c=(((H.set i c).set boV boW).set j1 b1):=by rw[yE h1,ajH h0]
variable{j2:Nat}{b2:bA}
theorem alU{H:aA}{i:Nat} (h0: ¬boV=i) (h1: ¬j1=i) (h2: ¬j2=i):((((H.set i a).set boV boW).set j1 b1).set j2 b2).set i c=((((H.set i c).set boV boW).set j1 b1).set j2 b2):=by rw[yE h2,am6 h0 h1]
variable{boX:bA}
theorem alA{H:aA}{i j3:Nat} (h0: ¬boV=i) (h1: ¬j1=i) (h2: ¬j2=i) (h3: ¬j3=i):(((((H.set i a).set boV boW).set j1 b1).set j2 b2).set j3 boX).set i c=(((((H.set i c).set boV boW).set j1 b1).set j2 b2).set j3 boX):=by rw[yE h3,alU h0 h1 h2]
theorem ajJ{H:aA}{i j3 j4:Nat}{boY:bA} (h0: ¬boV=i) (h1: ¬j1=i) (h2: ¬j2=i) (h3: ¬j3=i) (h4: ¬j4=i):((((((H.set i a).set boV boW).set j1 b1).set j2 b2).set j3 boX).set j4 boY).set i c=((((((H.set i c).set boV boW).set j1 b1).set j2 b2).set j3 boX).set j4 boY):=by rw[yE h4,alA h0 h1 h2 h3]
theorem akV{H:aA}{i j3 j4 j5:Nat}{boY boZ:bA} (h0: ¬boV=i) (h1: ¬j1=i) (h2: ¬j2=i) (h3: ¬j3=i) (h4: ¬j4=i) (h5: ¬j5=i):(((((((H.set i a).set boV boW).set j1 b1).set j2 b2).set j3 boX).set j4 boY).set j5 boZ).set i c=(((((((H.set i c).set boV boW).set j1 b1).set j2 b2).set j3 boX).set j4 boY).set j5 boZ):=by rw[yE h5,ajJ h0 h1 h2 h3 h4]
theorem arR{H:aA}{i j3 j4 j5 j6:Nat}{boY boZ bkQ:bA} (h0: ¬boV=i) (h1: ¬j1=i) (h2: ¬j2=i) (h3: ¬j3=i) (h4: ¬j4=i) (h5: ¬j5=i) (h6: ¬j6=i):((((((((H.set i a).set boV boW).set j1 b1).set j2 b2).set j3 boX).set j4 boY).set j5 boZ).set j6 bkQ).set i c=((((((((H.set i c).set boV boW).set j1 b1).set j2 b2).set j3 boX).set j4 boY).set j5 boZ).set j6 bkQ):=by rw[yE h6,akV h0 h1 h2 h3 h4 h5]
theorem aoB{i:Nat}:aA.nil.del i=aA.nil:=by funext k;simp only[aA.del,aA.nil];split<;>rfl
theorem ae7{H:aA}{i:Nat}:(H.set i a).del i=H.del i:=by funext k;simp only[aA.set,aA.del];split<;>rfl
theorem adA{H:aA}{i j:Nat} (h: ¬i=j):(H.set j a).del i=(H.del i).set j a:=by
 funext k;simp only[aA.set,aA.del];by_cases h1:k=i;·subst h1;simp[h]
 ·simp[h1]
end
attribute [go_sem] ajH am6 alU alA ajJ akV arR aoB ae7 adA Nat.reduceLT akT akY an1 aoS al5 abQ aeC ahD
def nth (s:List Nat) (i:Nat):Nat:=s[i]?.getD 0
section
variable {P : Program} {H : aA} {nx : Nat} {τ : Nat → Nat} {H0 : aA}
theorem aB.AF {f:FuncId} {args0 args:List D} {K:D→aA→Nat→Prop} {l0:List (Nat×bA)} {R:D→aA→Nat→Prop} (s:List Nat) (h:aB P f args0 (hp l0) s.length R) (hlen:args.length=args0.length)
 (hargs:aqS H (nth s) s.length args0 args) (boT:OkO H (fun _=>False) (nth s) s.length l0) (hn:(l0.map fun p=>nth s p.1).Nodup) (hs: ∀x∈s,x<nx) (hd:s.Nodup)
 (hK: ∀r H' n',s.length≤n'→R r H' n'→K (rnD (tau s.length nx (nth s)) r) (back (tau s.length nx (nth s)) H' n' H) (nx+(n'-s.length))):aB P f args H nx K:=
 aB.lift h (nth s) hlen (gW hargs) (QQ boT hn) (fun i hi=>by rw[nth,n1 hi];exact hs _ (Z5 hi))
   (fun i j hi hj he=>by
    rw[nth,nth,n1 hi,n1 hj,Option.getD_some,Option.getD_some] at he
    exact(List.getElem_inj hd).1 he) hK
theorem aB.azZ {f:FuncId} {args0 args:List D} {K:D→aA→Nat→Prop} {R:D→Prop} (h:aB P f args0 .nil 0 fun r _ n=>n=0∧r.imm=true∧R r) (hlen:args.length=args0.length) (hargs:aqS H (nth []) 0 args0 args) (hK: ∀r,R r→K r H nx):aB P f args H nx K:=by refine aB.AF (l0:=[]) [] h hlen hargs trivial (by simp) (by simp) (by simp) fun r H' n' _ ⟨h1,h2,h3⟩=> ?_;subst h1;rw[af7 h2];exact hK r h3
theorem uB {n m:Nat} {l:List Int}:bA.rn τ ⟨n,m,l.map aJ⟩=⟨n,m,l.map aJ⟩:=by refine rF fun r hr x hx=> ?_;obtain⟨y,_,rfl⟩:=CF.1 hr;simp only[aJ,CJ] at hx;subst hx;rfl
theorem asR:back τ H0 2 H=(H.upd (τ 0) ((H0 0).map (bA.rn τ))).upd (τ 1) ((H0 1).map (bA.rn τ)):=rfl
theorem ayY {F:Nat→Prop} {σ:Nat→Nat} {nh:Nat} {xs ys:List D1} (h:CvL H F σ nh xs ys):CvV H F σ nh (.agg xs) (.agg ys):=h
theorem ay7 {F:Nat→Prop} {σ:Nat→Nat} {nh:Nat} {a b x y:DV} (h1:CvV H F σ nh a x) (h2:CvV H F σ nh b y):CvD H F σ nh (.tup [a,b]) (.tup [x,y]):=
 ⟨rfl,fun i u v hu hv=>by
  match i with
  |0=>simp at hu hv;subst hu;subst hv;exact h1
  |1=>simp at hu hv;subst hu;subst hv;exact h2
  |i+2=>simp at hu⟩
theorem yI {i:Nat}:H.upd i none=H.del i:=rfl
end
section
variable {P : Program} {H : aA} {nx : Nat}
theorem uO{F:Nat→Prop}{σ:Nat→Nat}{nh n m m':Nat}{R rows' rows:List (List D1)}{r' r:List D1} (e':rows'=R++[r']) (e:rows=R++[r]) (hR: ∀r∈R,∀x∈r,x.dQ=true) (hm:m'=m) (h:CvL H F σ nh r' r):CvO H F σ nh ⟨n,m',rows'⟩ ⟨n,m,rows⟩:=by
 subst e';subst e;subst hm;refine⟨rfl,rfl,by simp,fun _ h=>by simp at h,fun i r1 h1=> ?_⟩;simp only[o5] at h1 ⊢;by_cases hi:i<R.length;·rw[if_pos hi] at h1 ⊢;exact⟨r1,h1,GW fun x hx=>hR r1 (s3 h1) x hx⟩
 ·rw[if_neg hi] at h1 ⊢;rw[bsH] at h1 ⊢;split at h1;·rename_i h0;cases h1;exact⟨r,if_pos h0,h⟩
  ·cases h1
theorem ay5{F:Nat→Prop}{σ:Nat→Nat}{nh:Nat}{x y:D1} (hx:x.dQ=true) (h:Cv1 H F σ nh x y):Frz H F x y:=by
 cases h with
 |frz h=>exact h
 |osl=>cases hx
 |VS=>cases hx
 |ptr=>cases hx
 |omap=>cases hx
 |clo=>cases hx
 |dead=>cases hx
variable{b ix:Nat}{live m s:List Nat}{L:List aY}{dst:Option Nat}{e:Env}{S:dJ}{xs:List aT}{lk:Bool}
theorem alH{K:Env→aA→Nat→Prop}{neg:Bool}:wv P b live K (⟨ix,dst,.xop (.qJ neg) xs,none,m,s,lk⟩::L) e H nx S=xl P (b+ix) (msk b m H) nx (DQ P b live K L dst m s e H S) (.qJ neg) (xs.map (·.ev e)):=aaO rfl
theorem anL{K:Env→aA→Nat→Prop}{n:Nat}:wv P b live K (⟨ix,dst,.xop (.copy n) xs,none,m,s,lk⟩::L) e H nx S=xl P (b+ix) (msk b m H) nx (DQ P b live K L dst m s e H S) (.copy n) (xs.map (·.ev e)):=aaO rfl
theorem amC{K:Env→aA→Nat→Prop}{n:Nat}{z:List D1}:wv P b live K (⟨ix,dst,.xop (.clear n z) xs,none,m,s,lk⟩::L) e H nx S=xl P (b+ix) (msk b m H) nx (DQ P b live K L dst m s e H S) (.clear n z) (xs.map (·.ev e)):=aaO rfl
theorem amI{K:Env→aA→Nat→Prop}{kn:Nat}{bl:Bool}:wv P b live K (⟨ix,dst,.xop (.DS kn bl) xs,none,m,s,lk⟩::L) e H nx S=xl P (b+ix) (msk b m H) nx (DQ P b live K L dst m s e H S) (.DS kn bl) (xs.map (·.ev e)):=aaO rfl
theorem agK{K:Env→aA→Nat→Prop}:wv P b live K (⟨ix,dst,.xop .sS xs,none,m,s,lk⟩::L) e H nx S=xl P (b+ix) (msk b m H) nx (DQ P b live K L dst m s e H S) .sS (xs.map (·.ev e)):=aaO rfl
theorem ag8{K:Env→aA→Nat→Prop}{kn:Nat}{bl ok:Bool}:wv P b live K (⟨ix,dst,.xop (.rA kn bl ok) xs,none,m,s,lk⟩::L) e H nx S=xl P (b+ix) (msk b m H) nx (DQ P b live K L dst m s e H S) (.rA kn bl ok) (xs.map (·.ev e)):=aaO rfl
theorem ag3{K:Env→aA→Nat→Prop}{kn:Nat}{bl:Bool}:wv P b live K (⟨ix,dst,.xop (.vM kn bl) xs,none,m,s,lk⟩::L) e H nx S=xl P (b+ix) (msk b m H) nx (DQ P b live K L dst m s e H S) (.vM kn bl) (xs.map (·.ev e)):=aaO rfl
theorem ak7{F:Nat→Prop}{σ:Nat→Nat}{nh n m m':Nat}{R rows' rows:List (List D1)}{r' r:List D1}{i:Nat} (e':rows'=R) (e:rows=R.set i r) (hi:R[i]?=some r') (hR: ∀r∈R,∀x∈r,x.dQ=true) (hm:m'=m) (h:CvL H F σ nh r' r):CvO H F σ nh ⟨n,m',rows'⟩ ⟨n,m,rows⟩:=by
 subst e';subst e;subst hm;refine⟨rfl,rfl,by simp,fun _ h=>by dsimp only at h ⊢;rw[h];rfl,fun j r1 h1=> ?_⟩;simp only[D0];by_cases hj:i=j;·subst hj;have hlt:i<rows'.length:=(m3.1 h1).1;rw[if_pos rfl,if_pos hlt];rw[hi] at h1;cases h1;exact⟨r,rfl,h⟩
 ·rw[if_neg hj];exact⟨r1,h1,GW fun x hx=>hR r1 (s3 h1) x hx⟩
theorem atN{α:Type} [Inhabited α]{enc:α→List D1}{l:List α}{k:Nat} (h:k<l.length):(l.map enc)[k]?=some (enc (l.getD k default)):=by simp[List.getD,h]
theorem atL {c:Prop} [Decidable c] {A B:Prop} (h1:c→A) (h2: ¬c→B):if c then A else B:=by
 split;·exact h1 ‹_›
 ·exact h2 ‹_›
attribute [go_sem] alH anL amC amI agK ag8 ag3
end
theorem anJ {H:aA} {F:Nat→Prop} {σ:Nat→Nat} {nh n m m':Nat} {rows' rows junk:List (List D1)} (hi: ∀r∈rows',∀x∈r,x.dQ=true) (h:rows=rows'++junk) (hm:m'=m) (hn0:n≠0):CvO H F σ nh ⟨n,m',rows'⟩ ⟨n,m,rows⟩:=by subst h;subst hm;refine⟨rfl,rfl,by simp,fun h0 _=>absurd h0 hn0,fun i r h1=> ?_⟩;refine⟨r,?_,GW fun x hx=>hi r (s3 h1) x hx⟩;rw[brO (m3.1 h1).1];exact h1
end Go.AM
namespace Go.AM
@[reducible,go_sem] def rq (t:Nat) (o:AOp) (i:Nat):aY:=⟨i,some t,o,none,[],[],false⟩
@[reducible,go_sem] def rn (o:AOp) (i:Nat):aY:=⟨i,none,o,none,[],[],false⟩
@[reducible,go_sem] def ki (n:Int):aT:=.kv (.int .i64 n)
@[reducible,go_sem] def RM (t a i:Nat):aY:=rq t (.move (.tm a)) i
@[reducible,go_sem] def RF (t k a i:Nat):aY:=rq t (.fld k (.tm a)) i
@[reducible,go_sem] def RL (t a i:Nat):aY:=rq t (.load 1 false (.tm a)) i
@[reducible,go_sem] def RK (t a i:Nat):aY:=rq t (.tF (.tm a)) i
@[reducible,go_sem] def GQ (t:Nat) (o:AOp) (g:Nat) (b:Bool) (i:Nat):aY:=⟨i,some t,o,some (g,b),[],[],false⟩
@[reducible,go_sem] def VZ:D1:=.v (.int .i64 0)
@[reducible,go_sem] def OZ:D1:=.osl 0 0 0 0 0
def aN (P:Program) (f:FuncId) (fn:Func) (ac:AC) (rs:List aW):Prop:=
 ∀{args:List D} {H:aA} {nx:Nat} {KK:D→aA→Nat→Prop} (_hl:Nat.ble args.length fn.ntmps=true)
  (_h: ∀Q:AQ,(∀ex e2 H2 nx2 d nh d2 H3 F σ,ex= .normal∨ex= .ret→yT H2 e2 rs=some d→CvR nx d H2 nh d2 H3 F σ→KK d2 H3 nh→Q ex e2 H2 nx2)→aM P fn.ntmps [ac] (Env.args 0 args) H nx Q),aB P f args H nx KK
theorem aN.mk {P:Program} {f:FuncId} {fn:Func} {ac:AC} {rs:List aW} {cs:List Cert}
 (hf:P.funcs[f]?=some fn) (hok:qY P f=true) (hc:aO P fn cs=some (ac,rs)):aN P f fn ac rs:=
 fun hl h=>aB.body hf hok hc (boM hl) h
theorem dbT {p:Prop} [Decidable p] (h:p):D1.v (.bool (decide p))= .v (.bool true):=by rw[decide_eq_true h]
theorem dbE {p q:Prop} [Decidable p] [Decidable q] (h:p↔q):D1.v (.bool (decide p))= .v (.bool (decide q)):=by rw[decide_eq_decide.2 h]
theorem diE {a b:Int} (h:a=b):D1.v (.int .i64 a)= .v (.int .i64 b):=by rw[h]
abbrev bo0:=@arT
abbrev bo1:=@aqR
abbrev bo2:=@K6
abbrev bo3:=@oF
abbrev bo4:=@eP
abbrev bo5:=@aH
abbrev aUP:=@ay7
abbrev aUQ:=@ayY
abbrev bo6:=@lY
abbrev bo7:=@apS
abbrev bo8:=@aE
abbrev bo9:=@bB
abbrev bpA:=@afQ
abbrev bpB:=@aaF
abbrev bpC:=@afZ
abbrev bpD:=@aa6
abbrev bpE:=@xG
abbrev bpF:=@asF
abbrev bpG:=@YY
abbrev bpH:=@aeE
abbrev btD:=@aM.seq
abbrev btE:=@aM.skip
abbrev btF:=@aM.block
abbrev btG:=@asU
abbrev btH:=@ar9
abbrev bpI:=@atL
abbrev btI:=@aM.reg
abbrev btJ:=@aM.ar8
abbrev bpJ:=@aqG
abbrev bpK:=@arS
abbrev bpL:=@asQ
abbrev bpM:=@ap6
abbrev btK:=@aM.ret
abbrev btL:=@aM.exit
abbrev btM:=@aM.nil
abbrev Iw:=@IntWalk.i64_in
end Go.AM
namespace Go.AM
open Go.RowKit
inductive Tg (zs:List AC) (Q:AQ):Type where
 |mk
@[reducible] def bnG (P:Program) (T:Nat) (zs:List AC) (Q:AQ) (_:Tg zs Q):Env→aA→Nat→Prop:=fun e H nx=>aM P T zs e H nx Q
def vd (P:Program) (T:Nat) (x y:AC) (zs:List AC) (e:Env) (H:aA) (nx:Nat) (Q:AQ) (_:Tg (x::y::zs) Q) (d:D):Prop:=cK (aM P T (x::zs) e H nx Q) (aM P T (y::zs) e H nx Q) d
def vc (P:Program) (T:Nat):List AC→Env→aA→Nat→AQ→Prop
 | [],e,H,nx,Q=>Q .normal e H nx
 | .skip::zs,e,H,nx,Q=>aM P T zs e H nx Q
 | .region ops n live::zs,e,H,nx,Q=>wv P nx live (bnG P T zs Q .mk) ops e H (nx+n) []
 | .seq x y::zs,e,H,nx,Q=>aM P T (x::y::zs) e H nx Q
 | .cond c x y::zs,e,H,nx,Q=>vd P T x y zs e H nx Q .mk (c.ev e)
 | .block id x::zs,e,H,nx,Q=>aM P T [x] e H nx (AQ.blk id (bnG P T zs Q .mk) Q)
 | .loop x::zs,e,H,nx,Q=>aM P T (.loop x::zs) e H nx Q
 | .exit id::_,e,H,nx,Q=>Q (.exit id) e H nx
 | .ret::_,e,H,nx,Q=>Q .ret e H nx
section
variable {P : Program} {T : Nat} {live : List Nat} {ops : List aY} {n id : Nat} {c : aT} {e : Env} {H : aA} {nx : Nat} {Q : AQ} {x y : AC} {zs : List AC} {K : Env → aA → Nat → Prop}
theorem bn0 (h:aM P T zs e H nx Q):bnG P T zs Q .mk e H nx:=h
theorem bn1 (h:vc P T zs e H nx Q):aM P T zs e H nx Q:=by
 cases zs with
 |nil=>exact h
 |cons x zs=>
  cases x with
  |skip=>exact aM.skip h
  |region ops n live=>exact AWP.region h
  |seq x y=>exact aM.seq h
  |cond c x y=>
   refine aM.ar8 fun A B hA hB=> ?_;have h:cK (aM P T (x::zs) e H nx Q) (aM P T (y::zs) e H nx Q) (c.ev e):=h;unfold cK at h;unfold cK;split at h;·rename_i t ht;exact⟨fun h1=>hA (h.1 h1),fun h1=>hB (h.2 h1)⟩
   ·exact h.elim
  |block id x=>
   refine aM.block fun K hK=>AWP.mono h fun ex e' H' nx' _ hq=> ?_
   cases ex with
   |normal=>exact hK _ _ _ hq
   |exit i=>
    simp only[AQ.then,AQ.blk] at hq ⊢;split;·rename_i hi;rw[if_pos hi] at hq;exact hK _ _ _ hq
    ·rename_i hi;rw[if_neg hi] at hq;exact hq
   |ret=>exact hq
  |loop x=>exact h
  |exit id=>exact aM.exit h
  |ret=>exact aM.ret h
theorem bnP:vc P T [] e H nx Q=Q .normal e H nx:=rfl
theorem bnI:vc P T (.skip::zs) e H nx Q=aM P T zs e H nx Q:=rfl
theorem bnO:vc P T (.region ops n live::zs) e H nx Q=wv P nx live (bnG P T zs Q .mk) ops e H (nx+n) []:=rfl
theorem bnM:vc P T (.seq x y::zs) e H nx Q=aM P T (x::y::zs) e H nx Q:=rfl
theorem bnK:vc P T (.cond c x y::zs) e H nx Q=vd P T x y zs e H nx Q .mk (c.ev e):=rfl
theorem bnH:vc P T (.block id x::zs) e H nx Q=aM P T [x] e H nx (AQ.blk id (bnG P T zs Q .mk) Q):=rfl
theorem bnJ:vc P T (.exit id::zs) e H nx Q=Q (.exit id) e H nx:=rfl
theorem bnQ:vc P T (.ret::zs) e H nx Q=Q .ret e H nx:=rfl
theorem bnZ {g:Tg (x::y::zs) Q}:vd P T x y zs e H nx Q g (.one (.c (.v (.bool true))))=aM P T (x::zs) e H nx Q:=atF
theorem bnX {g:Tg (x::y::zs) Q}:vd P T x y zs e H nx Q g (.one (.c (.v (.bool false))))=aM P T (y::zs) e H nx Q:=as8
theorem bnT {g:Tg (x::y::zs) Q} {p:Prop} [Decidable p] (h:p):vd P T x y zs e H nx Q g (.one (.c (.v (.bool (decide p)))))=aM P T (x::zs) e H nx Q:=by rw[decide_eq_true h];exact atF
theorem bnU {g:Tg (x::y::zs) Q} {p:Prop} [Decidable p] (h: ¬p):vd P T x y zs e H nx Q g (.one (.c (.v (.bool (decide p)))))=aM P T (y::zs) e H nx Q:=by rw[decide_eq_false h];exact as8
theorem bnE {g:Tg (x::y::zs) Q} {p:Prop} [Decidable p] (h1:p→aM P T (x::zs) e H nx Q) (h2: ¬p→aM P T (y::zs) e H nx Q):vd P T x y zs e H nx Q g (.one (.c (.v (.bool (decide p))))):=atE h1 h2
theorem bnF {g:Tg (x::y::zs) Q} {t:Bool} (h1:t=true→aM P T (x::zs) e H nx Q) (h2:t=false→aM P T (y::zs) e H nx Q):vd P T x y zs e H nx Q g (.one (.c (.v (.bool t)))):=atC h1 h2
theorem bnN:AQ.then K Q .normal=K:=rfl
theorem bnL:AQ.then K Q .ret=Q .ret:=rfl
theorem bnS:AQ.then K Q (.exit id)=Q (.exit id):=rfl
theorem bnV {i:Nat}:AQ.blk i K Q .normal=K:=rfl
theorem bnW {i:Nat}:AQ.blk i K Q .ret=Q .ret:=rfl
attribute [go_sem] bnZ bnX bnN bnL bnS bnV bnW
attribute [go_sem ↓] bnP bnI bnO bnM bnK bnH bnJ bnQ
end
def bnY (o:aY):Nat×List Nat×List Nat×Bool:=(o.ix,o.mask,o.amN,o.look)
def bnD:AC→List Cert
 | .region ops _ live=>[⟨ops.map bnY,live⟩]
 | .seq x y=>bnD x++bnD y
 | .cond _ x y=>bnD x++bnD y
 | .block _ x=>bnD x
 | .loop x=>bnD x
 |_=>[]
instance {n:Nat}:OfNat aT n:=⟨.tm n⟩
theorem bnR {n:Nat}:(OfNat.ofNat n:aT)= .tm n:=rfl
attribute [go_sem] bnR
section
variable {P : Program} {T : Nat} {e : Env} {H : aA} {nx : Nat} {Q : AQ} {x y : AC} {zs : List AC} {K : Env → aA → Nat → Prop}
theorem bn2 {g:Tg (x::y::zs) Q} {p:Prop} [Decidable p] (h:p) (h1:aM P T (x::zs) e H nx Q):vd P T x y zs e H nx Q g (.one (.c (.v (.bool (decide p))))):=by rw[bnT h];exact h1
theorem bn3 {g:Tg (x::y::zs) Q} {p:Prop} [Decidable p] (h: ¬p) (h1:aM P T (y::zs) e H nx Q):vd P T x y zs e H nx Q g (.one (.c (.v (.bool (decide p))))):=by rw[bnU h];exact h1
end
section
variable {H : aA} {F : Nat → Prop} {σ : Nat → Nat} {nh t : Nat} {e : Env} {l : List (Nat × D)}
theorem xqI {d:D} (hd:d.imm=true) (he:e t=d) (h:CvE H F σ nh (en l) e):CvE H F σ nh (en ((t,d)::l)) e:=oF h (by rw[he];exact aE hd)
theorem xqP {n id' id row col:Nat} (hl:id'<nh) (hs:σ id'=id) (he:e t= .one (.c (.ptr n id row col))) (h:CvE H F σ nh (en l) e):CvE H F σ nh (en ((t,.one (.c (.ptr n id' row col)))::l)) e:=oF h (by rw[he];exact apS (afZ hl hs))
theorem xqO {n id' id off len len' cap:Nat} (hl:id'<nh) (hs:σ id'=id) (he:e t= .one (.c (.osl n id off len cap))) (h2:len'=len) (h:CvE H F σ nh (en l) e):CvE H F σ nh (en ((t,.one (.c (.osl n id' off len' cap)))::l)) e:=oF h (by rw[he];exact apS (aaF hl hs rfl h2 rfl))
theorem xqV {a b:Int} (he:e t= .one (.c (.v (.int .i64 b)))) (hab:a=b) (h:CvE H F σ nh (en l) e):CvE H F σ nh (en ((t,.one (.c (.v (.int .i64 a))))::l)) e:=oF h (by rw[he,hab];exact aE rfl)
end
def vcR (P:Program) (T:Nat):List AC→Env→aA→Nat→AQ→Prop
 | .seq (.region ops n live) y::zs,e,H,nx,Q=>wv P nx live (bnG P T (y::zs) Q .mk) ops e H (nx+n) []
 |zs,e,H,nx,Q=>vc P T zs e H nx Q
section
variable {P : Program} {T : Nat} {live : List Nat} {ops : List aY} {n id : Nat} {c : aT} {e : Env} {H : aA} {nx : Nat} {Q : AQ} {x y : AC} {zs : List AC}
theorem boB (h:vcR P T zs e H nx Q):aM P T zs e H nx Q:=by
 unfold vcR at h;split at h;·exact aM.seq (AWP.region h)
 ·exact bn1 h
theorem boA:vcR P T (.seq (.region ops n live) y::zs) e H nx Q=wv P nx live (bnG P T (y::zs) Q .mk) ops e H (nx+n) []:=rfl
theorem bn9:vcR P T [] e H nx Q=vc P T [] e H nx Q:=rfl
theorem bn5:vcR P T (.skip::zs) e H nx Q=vc P T (.skip::zs) e H nx Q:=rfl
theorem bn8:vcR P T (.region ops n live::zs) e H nx Q=vc P T (.region ops n live::zs) e H nx Q:=rfl
theorem bn6:vcR P T (.cond c x y::zs) e H nx Q=vc P T (.cond c x y::zs) e H nx Q:=rfl
theorem Z8:vcR P T (.block id x::zs) e H nx Q=vc P T (.block id x::zs) e H nx Q:=rfl
theorem bn4:vcR P T (.exit id::zs) e H nx Q=vc P T (.exit id::zs) e H nx Q:=rfl
theorem bn7:vcR P T (.ret::zs) e H nx Q=vc P T (.ret::zs) e H nx Q:=rfl
attribute [go_sem ↓] boA bn9 bn5 bn8 bn6 Z8 bn4 bn7
end
theorem boC:(∀a b c:Nat,a+b+c=a+(b+c))∧(∀{a b:Nat},a=a+b↔b=0)∧ ∀{a b:Nat},a+b=a↔b=0:=⟨t1,bqT,bqV⟩
@[reducible,go_sem] def boD:aT:=.kv (.bool false)
@[reducible,go_sem] def boE:aT:=.kv (.bool true)
@[reducible,go_sem] def boF (t:Nat) (o:AOp) (m s:List Nat) (k:Bool) (i:Nat):aY:=⟨i,some t,o,none,m,s,k⟩
@[reducible,go_sem] def dA (t:Option Nat) (o:AOp) (g:Option (Nat×Bool)) (m s:List Nat) (k:Bool) (i:Nat):aY:=⟨i,t,o,g,m,s,k⟩
@[reducible,go_sem] def dI (t:Nat) (b:BinOp) (x y:aT) (i:Nat):aY:=rq t (.bin b x y) i
@[reducible,go_sem] def dO (t:Nat) (x:aT) (i:Nat):aY:=rq t (.move x) i
@[reducible,go_sem] def e0 (t n:Nat) (x y:aT) (i:Nat):aY:=rq t (.idx n x y) i
@[reducible,go_sem] def f1 (t:Nat) (x:aT) (i:Nat):aY:=rq t (.len false x) i
@[reducible,go_sem] def f3 (t:Nat) (c x y:aT) (i:Nat):aY:=rq t (.pick c x y) i
@[reducible,go_sem] def f4 (t:Nat) (x:aT) (i:Nat):aY:=rq t (.un .not x) i
@[reducible,go_sem] def f5 (t:Nat) (x:aT) (i:Nat):aY:=rq t (.box true x) i
@[reducible,go_sem] def f6 (t:Nat) (f:FuncId) (l:List aT) (i:Nat):aY:=rq t (.call f l) i
@[reducible,go_sem] def f7 (t:Nat) (l:List D1) (i:Nat):aY:=rq t (.alloc l) i
@[reducible,go_sem] def f8 (t n:Nat) (x:aT) (i:Nat):aY:=rq t (.load n true x) i
@[reducible,go_sem] def g0 (n:Nat) (b:Bool) (x y:aT) (i:Nat):aY:=rn (.store n b x y) i
@[reducible,go_sem] def g8 (t:Nat) (x:aT) (m s:List Nat) (k:Bool) (i:Nat):aY:=boF t (.load 1 false x) m s k i
@[reducible,go_sem] def g9 (t k:Nat) (x:aT) (g:Nat) (b:Bool) (i:Nat):aY:=GQ t (.fld k x) g b i
@[reducible,go_sem] def hD (t:Nat) (x:aT) (g:Nat) (b:Bool) (i:Nat):aY:=GQ t (.load 1 false x) g b i
@[reducible,go_sem] def hG (t:Nat) (x:aT) (g:Nat) (b:Bool) (i:Nat):aY:=GQ t (.move x) g b i
@[reducible,go_sem] def hO (t:Nat) (o:BinOp) (x y:aT) (g:Nat) (b:Bool) (i:Nat):aY:=GQ t (.bin o x y) g b i
@[reducible,go_sem] def hP (t:Nat) (x:aT) (g:Nat) (b:Bool) (i:Nat):aY:=GQ t (.un .not x) g b i
@[reducible,go_sem] def j0 (t n:Nat) (x y:aT) (g:Nat) (b:Bool) (i:Nat):aY:=GQ t (.idx n x y) g b i
def nb:Nat→List (Nat→aY)→List aY
 |_,[]=>[]
 |i,f::l=>f i::nb (i+1) l
def ln:List (Nat→aY)→Nat
 | []=>0
 |_::l=>ln l+1
theorem b5 {i:Nat}:nb i []=[]:=rfl
theorem b3 {i:Nat} {f:Nat→aY} {l:List (Nat→aY)}:nb i (f::l)=f i::nb (i+1) l:=rfl
theorem b4:ln []=0:=rfl
theorem b0 {f:Nat→aY} {l:List (Nat→aY)}:ln (f::l)=ln l+1:=rfl
attribute [go_sem] b5 b3 b4 b0
@[reducible] def m2 (ops:List (Nat→aY)) (live:List Nat):AC:=.region (nb 0 ops) (ln ops) live
@[reducible] def boG (ops:List (Nat→aY)) (live:List Nat) (y:AC):AC:=.seq (m2 ops live) y
end Go.AM
namespace Go.Proofs.YtmccpdapaccnoaaGreat
open Go Go.AM
def bsU:Nat:=12
def aI5:Nat:=33
def mW:Nat:=35
def aIO:Nat:=37
def xJ:Nat:=38
def FO:Nat:=40
def E2:Nat:=41
def zX:Nat:=44
def oJ:Nat:=48
def C6:Nat:=52
def uJ:Nat:=54
def bsS:Nat:=59
def DB:Nat:=60
def bsQ:Nat:=62
def aI6:Nat:=72
def aI0:Nat:=74
def iG:Nat:=80
def aIV:Nat:=99
def aIU:Nat:=100
def aIY:Nat:=101
def aIT:Nat:=102
def aIZ:Nat:=103
def wF:Nat:=106
def rG:Nat:=107
def jK:Nat:=108
def iX:Nat:=109
def j9:Nat:=110
def kN:Nat:=113
def bgS:Nat:=114
def B9:Nat:=115
def kE:Nat:=116
def cV:Nat:=117
def jF:Nat:=118
def nI:Nat:=119
def wK:Nat:=121
def jM:Nat:=122
def jN:Nat:=123
def cG:Nat:=124
def bJ:Nat:=125
def wR:Nat:=126
def wD:Nat:=127
def rN:Nat:=128
def cQ:Nat:=129
def bg9:Nat:=130
def bgR:Nat:=131
def bg8:Nat:=132
def bgN:Nat:=133
def bg7:Nat:=134
def bhG:Nat:=135
def bgM:Nat:=136
def bgZ:Nat:=137
def aD:Nat:=138
def CS:Nat:=140
def dN:Nat:=141
def AE:Nat:=143
def y2:Nat:=149
def aIQ:Nat:=150
def aIX:Nat:=151
def aIN:Nat:=152
def aJS:Nat:=153
def aN2:Nat:=155
def aIR:Nat:=157
def aIM:Nat:=158
def fL:Nat:=163
def eX:Nat:=164
def eO:Nat:=165
def pL:Nat:=171
def aBG:Nat:=181
def aA3:Nat:=182
def aI2:Nat:=183
def aI7:Nat:=184
def y3:Nat:=185
def aJX:Nat:=186
def aIP:Nat:=187
def bN:Nat:=190
def qK:Nat:=191
def cF:Nat:=192
def rR:Nat:=193
def cN:Nat:=194
def nH:Nat:=195
def wP:Nat:=196
def rC:Nat:=197
def fB:Nat:=198
def jA:Nat:=199
def cO:Nat:=200
def kV:Nat:=201
def m6:Nat:=202
def oI:Nat:=203
def iT:Nat:=204
def bhC:Nat:=207
def aVK:Nat:=208
def aVA:Nat:=209
def aNJ:Nat:=210
def fY:Nat:=211
def fM:Nat:=212
def eK:Nat:=213
def mG:Nat:=214
def mM:Nat:=215
def n6:Nat:=216
def nX:Nat:=217
def qO:Nat:=219
def gL:Nat:=220
def wC:Nat:=221
def jC:Nat:=222
def bX:Nat:=223
def rE:Nat:=224
def eY:Nat:=225
def jB:Nat:=226
def rT:Nat:=227
def mZ:Nat:=228
def bhB:Nat:=229
def bgQ:Nat:=230
def cE:Nat:=231
def aKL:Nat:=236
def aAY:Nat:=237
def aA4:Nat:=238
def aAZ:Nat:=239
def W3:Nat:=240
def H5:Nat:=241
def v9:Nat:=242
def aIW:Nat:=243
def aI8:Nat:=244
def iD:Nat:=247
def gO:Nat:=248
def gG:Nat:=249
def fP:Nat:=256
def DA:Nat:=257
def fK:Nat:=258
def aBF:Nat:=262
def fF:Nat:=264
def cT:Nat:=265
def dC:Nat:=266
def bZ:Nat:=267
def rQ:Nat:=268
def lJ:Nat:=270
def bhA:Nat:=271
def v7:Nat:=272
def aU9:Nat:=273
def tN:Nat:=274
def tS:Nat:=275
def dV:Nat:=276
def dL:Nat:=277
def dE:Nat:=278
def cZ:Nat:=279
def eQ:Nat:=280
def eE:Nat:=281
def eA:Nat:=282
def eC:Nat:=283
def j8:Nat:=284
def cL:Nat:=285
def jW:Nat:=286
def lG:Nat:=287
def bR:Nat:=288
def lX:Nat:=289
def tR:Nat:=290
def qX:Nat:=291
def J2:Nat:=292
def eF:Nat:=293
def aA6:Nat:=295
def aAX:Nat:=296
def aNH:Nat:=297
def eS:Nat:=298
def eG:Nat:=299
def oS:Nat:=302
def gN:Nat:=303
def v8:Nat:=306
def qM:Nat:=307
def cM:Nat:=308
def iW:Nat:=309
def nJ:Nat:=311
end Go.Proofs.YtmccpdapaccnoaaGreat
