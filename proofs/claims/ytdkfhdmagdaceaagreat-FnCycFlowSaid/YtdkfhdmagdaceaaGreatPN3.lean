/- Texts laid together by a program: rules, contracts and the walk that leads to the law. -/
import Derived.Test.YtdkfhdmagdaceaaGreatPN2
import Derived.Lib.Overlaps
import Derived.Test.YtdkfhdmagdaceaaGreatProg
set_option linter.unusedVariables false
set_option linter.unusedSimpArgs false
set_option linter.unusedSectionVars false
set_option maxRecDepth 100000
set_option maxHeartbeats 8000000
namespace Go.AM
open Go.RowKit
def cK (A B:Prop):D→Prop
 | .one (.c (.v (.bool t)))=>(t=true→A)∧(t=false→B)
 |_=>False
section
variable {P : Program} {T : Nat} {b : Nat} {live : List Nat} {K : Env → aA → Nat → Prop} {L : List aY} {dst : Option Nat} {e : Env} {H : aA} {nx : Nat} {S : dJ} {Q : AQ} {x y z : AC} {zs : List AC}
theorem aM.ar8{c:aT} (h: ∀A B:Prop,(aM P T (x::zs) e H nx Q→A)→(aM P T (y::zs) e H nx Q→B)→cK A B (c.ev e)):aM P T (.cond c x y::zs) e H nx Q:=by
 have h:=h _ _ id id;unfold cK at h;split at h;·rename_i t a;exact aM.cond a h.1 h.2
 ·exact h.elim
theorem atF{A B:Prop}:cK A B (.one (.c (.v (.bool true))))=A:=by simp[cK]
theorem as8{A B:Prop}:cK A B (.one (.c (.v (.bool false))))=B:=by simp[cK]
theorem atC{A B:Prop}{t:Bool} (a:t=true→A) (b:t=false→B):cK A B (.one (.c (.v (.bool t)))):=⟨a,b⟩
theorem atE{A B:Prop}{p:Prop} [Decidable p] (a:p→A) (b: ¬p→B):cK A B (.one (.c (.v (.bool (decide p))))):=⟨fun h=>a (by simpa using h),fun h=>b (by simpa using h)⟩
def wvH (P:Program) (b:Nat) (live:List Nat) (K:Env→aA→Nat→Prop) (o:aY) (L:List aY) (t:Nat) (w:Bool) (e:Env) (H:aA) (nx:Nat) (S:dJ):D→Prop
 | .one (.c (.v (.bool x)))=>if x=w then wv P b live K (o::L) (e.set t (.one (.c (.v (.bool x))))) H nx S else wv P b live K L ((e.set t (.one (.c (.v (.bool x))))).put o.dst (.tup [])) H nx S
 | .tup []=>wv P b live K L (e.put o.dst (.tup [])) H nx S
 |_=>False
variable{t:Nat}
theorem Env.amG{e:Env}{d:D} (h:e t=d):e.set t d=e:=by
 funext i;simp only[Env.set];split;·rename_i hi;rw[hi,h]
 ·rfl
variable{ix:Nat}{m s:List Nat}{k:Bool}
theorem atA{w:Bool}{op:AOp}:wv P b live K (⟨ix,dst,op,some (t,w),m,s,k⟩::L) e H nx S=wvH P b live K ⟨ix,dst,op,none,m,s,k⟩ L t w e H nx S (e t):=by
 rw[as9];generalize he:e t=d;by_cases a: ∃x,d= .one (.c (.v (.bool x)));·obtain⟨x,rfl⟩:=a;simp only[wvG,wvH];rw[Env.amG he]
 ·by_cases hu:d= .tup [];·subst hu;rfl
  ·unfold wvG wvH;split;·exact absurd ⟨_,rfl⟩ a
   ·exact absurd rfl hu
   ·split;·exact absurd ⟨_,rfl⟩ a
    ·exact absurd rfl hu
    ·rfl
theorem ar6{o:aY}{w:Bool}:wvH P b live K o L t w e H nx S (.tup [])=wv P b live K L (e.put o.dst (.tup [])) H nx S:=rfl
theorem arM{o:aY}:wvH P b live K o L t true e H nx S (.one (.c (.v (.bool true))))=wv P b live K (o::L) (e.set t (.one (.c (.v (.bool true))))) H nx S:=rfl
theorem aqK{o:aY}:wvH P b live K o L t true e H nx S (.one (.c (.v (.bool false))))=wv P b live K L ((e.set t (.one (.c (.v (.bool false))))).put o.dst (.tup [])) H nx S:=rfl
theorem aqZ{o:aY}:wvH P b live K o L t false e H nx S (.one (.c (.v (.bool true))))=wv P b live K L ((e.set t (.one (.c (.v (.bool true))))).put o.dst (.tup [])) H nx S:=rfl
theorem aqF{o:aY}:wvH P b live K o L t false e H nx S (.one (.c (.v (.bool false))))=wv P b live K (o::L) (e.set t (.one (.c (.v (.bool false))))) H nx S:=rfl
theorem ap6 {o:aY} {t:Nat} {w u:Bool} (a:u=true→wvH P b live K o L t w e H nx S (.one (.c (.v (.bool true))))) (d:u=false→wvH P b live K o L t w e H nx S (.one (.c (.v (.bool false))))):
 wvH P b live K o L t w e H nx S (.one (.c (.v (.bool u)))):=by
 cases u with
 |true=>exact a rfl
 |false=>exact d rfl
theorem aqG {o:aY} {t:Nat} {w:Bool} {p:Prop} [Decidable p] (h:p) (a:wvH P b live K o L t w e H nx S (.one (.c (.v (.bool true))))):wvH P b live K o L t w e H nx S (.one (.c (.v (.bool (decide p))))):=by rw[decide_eq_true h];exact a
theorem arS {o:aY} {t:Nat} {w:Bool} {p:Prop} [Decidable p] (h: ¬p) (a:wvH P b live K o L t w e H nx S (.one (.c (.v (.bool false))))):wvH P b live K o L t w e H nx S (.one (.c (.v (.bool (decide p))))):=by rw[decide_eq_false h];exact a
theorem asQ {o:aY} {t:Nat} {w:Bool} {p:Prop} [Decidable p] (a:p→wvH P b live K o L t w e H nx S (.one (.c (.v (.bool true))))) (d: ¬p→wvH P b live K o L t w e H nx S (.one (.c (.v (.bool false))))):
 wvH P b live K o L t w e H nx S (.one (.c (.v (.bool (decide p))))):=
 ap6 (fun h=>a (by simpa using h)) (fun h=>d (by simpa using h))
theorem am5{z:List D1}:wv P b live K (⟨ix,dst,.alloc z,none,m,s,k⟩::L) e H nx S=wvA P b live K L dst (b+ix) e H nx S (lT (b+ix) e (.alloc z)):=am2 rfl
theorem aqH{g:Bool}{x:aT}:wv P b live K (⟨ix,dst,.box g x,none,m,s,k⟩::L) e H nx S=wvA P b live K L dst (b+ix) e H nx S (lT (b+ix) e (.box g x)):=am2 rfl
theorem ag2{n len:Nat}{z:List D1}{a:List (Nat×Nat×aT)}:wv P b live K (⟨ix,dst,.bC n len z a,none,m,s,k⟩::L) e H nx S=wvA P b live K L dst (b+ix) e H nx S (lT (b+ix) e (.bC n len z a)):=am2 rfl
theorem abU{n:Nat}{z:List D1}{x y:aT}:wv P b live K (⟨ix,dst,.kY n z x y,none,m,s,k⟩::L) e H nx S=wvA P b live K L dst (b+ix) e H nx S (lT (b+ix) e (.kY n z x y)):=am2 rfl
theorem apC{id:Nat}{st:List Nat}{c:Prop} [Decidable c]{a:Nat}{x:Option (Option Nat×Nat×Nat×List (List D1))}:wvP P b live K L dst id m st e H nx S a (if c then x else none)=(c∧wvP P b live K L dst id m st e H nx S a x):=by split<;>rename_i h<;>simp[h,wvP]
theorem aq4{n i off len cap:Nat}:amE (.one (.c (.osl n i off len cap)))=cap:=rfl
theorem W0{st:List Nat}:lU [] st H=True:=by simp[lU]
theorem W5{p:Nat}{g:aA→Prop}{st:List Nat}:lU ((p,g)::S) st H=((p∈st→g H)∧lU S st H):=by simp[lU]
theorem aiG{k:XK}{l:List aT}:aU H e (.xop k l)=xq k (l.map (·.ev e)):=rfl
def ak0 (P:Program) (args:List D) (H:aA) (nx:Nat) (R:D→aA→Nat→Prop):D→Prop
 | .one (.c (.clo f caps))=>aB P f (args++caps.map fun d=>.one (.c d)) H nx R
 |_=>False
theorem am1{f:aT}{xs:List aT}:wv P b live K (⟨ix,dst,.t5 f xs,none,m,s,k⟩::L) e H nx S=ak0 P (xs.map (·.ev e)) (msk b m H) nx (DQ P b live K L dst m s e H S) (f.ev e):=by
 unfold wv;simp only[avc,l8,vI,aop,AOp.kind,HX];generalize f.ev e=d;unfold ak0;split;·simp only[D.one.injEq,DV.c.injEq,D1.clo.injEq,eq_iff_iff];exact⟨by rintro⟨_,_,⟨rfl,rfl⟩,h⟩;exact h,fun h=>⟨_,_,⟨rfl,rfl⟩,h⟩⟩
 ·rename_i a;simp only[eq_iff_iff,iff_false];rintro⟨f,caps,rfl,_⟩;exact a f caps rfl
section
variable {id i kn : Nat} {bl ok : Bool} {R : D → aA → Nat → Prop} {m : mH} {l : List Int} {n : Int} {k v : D}
theorem alB:xl P id H nx R (.DS kn bl) []=R (.one (.c (.omap id))) (H.set id (u4 ⟨kn,bl,[]⟩)) nx:=rfl
theorem ahU:xl P id H nx R .sS [.one (.c (.omap i))]=xlL H nx R (I7 H i):=rfl
theorem aeF:xl P id H nx R .sS [.one (.c (.MY m))]=xlL H nx R (some m):=rfl
theorem acY:xl P id H nx R (.rA kn bl ok) [.one (.c (.MY m)),k]=xlG H nx R kn bl ok (some m) (OA kn k):=rfl
theorem agY:xl P id H nx R (.rA kn bl ok) [.one (.c (.omap i)),k]=xlG H nx R kn bl ok (I7 H i) (OA kn k):=rfl
theorem agN:xl P id H nx R (.vM kn bl) [.one (.c (.omap i)),k,v]=xlS H nx R kn bl i (I7 H i) (OA kn k) (S4 bl v):=rfl
theorem akW:xlL H nx R (some m)=R (.one (.c (.v (.int .i64 m.m.length)))) H nx:=rfl
theorem ar3:xlG H nx R kn bl true (some m) (some l)=((m.kn=kn∧m.bl=bl∧l.length=zV kn)∧R (.tup [.c (.v (elemV bl ((jT m.m l).getD 0))),.c (.v (.bool (jT m.m l).isSome))]) H nx):=rfl
theorem asJ:xlG H nx R kn bl false (some m) (some l)=((m.kn=kn∧m.bl=bl∧l.length=zV kn)∧R (.one (.c (.v (elemV bl ((jT m.m l).getD 0))))) H nx):=rfl
theorem alO:xlS H nx R kn bl i (some m) (some l) (some n)=((m.kn=kn∧m.bl=bl∧l.length=zV kn)∧R .dead (H.set i (u4 ⟨kn,bl,vA m.m l n⟩)) nx):=rfl
theorem akH:I7 H i=(H i).bind anD:=rfl
theorem amZ {cs:List D1}:OA kn (.one (.agg cs))=if kn=0 then none else xY cs:=rfl
theorem arU:OA kn (.one (.c (.v (.int .i64 n))))=if kn=0 then some [n] else none:=rfl
theorem aoM {b:Bool}:S4 bl (.one (.c (.v (.bool b))))=if bl then some (if b then 1 else 0) else none:=rfl
theorem apQ:S4 bl (.one (.c (.v (.int .i64 n))))=if bl then none else some n:=rfl
theorem anS:elemV true n= .bool (decide (n≠0)):=rfl
theorem aoQ:elemV false n= .int .i64 n:=rfl
theorem ai1:xY []=some []:=rfl
theorem ad0 {r:List D1}:xY (.v (.int .i64 n)::r)=(xY r).map (n:: ·):=rfl
theorem aqT {xs ys:List D1} {g:Bool} {q:Nat}:xq (.aeq g q) [.one (.agg xs),.one (.agg ys)]=eqD g q xs ys (xY xs) (xY ys):=rfl
theorem al8 {xs ys:List D1} {q:Nat} {a b:List Int}:eqD false q xs ys (some a) (some b)=if xs.length=q∧ys.length=q then some (.one (.c (.v (.bool (decide (a=b)))))) else none:=rfl
theorem aoY {xs ys:List D1} {q:Nat} {a b:List Int}:eqD true q xs ys (some a) (some b)=if xs.length=q∧ys.length=q then some (.one (.c (.v (.bool (decide (¬a=b)))))) else none:=rfl
theorem apG:zV kn=if kn=0 then 1 else kn:=rfl
end
theorem GH{F:Nat→Prop}{σ:Nat→Nat}{nh:Nat}{x a:mH} (h:a=x):CvO H F σ nh (u4 a) (u4 x):=by subst h;exact bS fun r hr=>by cases hr
theorem ahX{f:FuncId}{caps:List D1}{args:List D}{R:D→aA→Nat→Prop}:ak0 P args H nx R (.one (.c (.clo f caps)))=aB P f (args++caps.map fun d=>.one (.c d)) H nx R:=rfl
theorem atD{a b:Int}:(a==b)=decide (a=b):=by by_cases h:a=b<;>simp[h]
theorem atH{a b:Int}:(a != b)=decide (¬a=b):=by by_cases h:a=b<;>simp[h]
theorem as6{p:Prop} [Decidable p]:(!decide p)=decide (¬p):=by by_cases h:p<;>simp[h]
theorem ao0{α:Type}{enc:α→List D1}{l:List α}{i:Nat}{x:α}:(l.map enc).set i (enc x)=(l.set i x).map enc:=(brD).symm
theorem ak2{α:Type}{enc:α→List D1}{l:List α}{x:α}:l.map enc++[enc x]=(l++[x]).map enc:=by simp
theorem akQ{α:Type}{enc:α→List D1}{l:List α}{k:Nat}:(l.map enc).take k=(l.take k).map enc:=(br7).symm
theorem ajN{α:Type}{enc:α→List D1}{l:List α}{k:Nat}:(l.map enc).drop k=(l.drop k).map enc:=(brE).symm
end
abbrev boP (n:Int):D:=.one (.c (.v (.int .i64 n)))
abbrev dB (b:Bool):D:=.one (.c (.v (.bool b)))
abbrev dS (rows:List (List D1)):D:=.one (.c (.isl rows))
abbrev boQ (n id len cap:Nat):D:=.one (.c (.osl n id 0 len cap))
abbrev bkP (n id:Nat):D:=.one (.c (.ptr n id 0 0))
abbrev boR (cs:List D1):D:=.one (.agg cs)
abbrev cI (n:Int):D1:=.v (.int .i64 n)
abbrev cB (b:Bool):D1:=.v (.bool b)
def aJ (x:Int):List D1:=[.v (.int .i64 x)]
theorem q9 {p:Prop} [Decidable p] (h:p):dB true=dB (decide p):=by rw[decide_eq_true h]
theorem j7 {p:Prop} [Decidable p] (h: ¬p):dB false=dB (decide p):=by rw[decide_eq_false h]
theorem pD {p q:Prop} [Decidable p] [Decidable q] (h:p↔q):dB (decide p)=dB (decide q):=by rw[decide_eq_decide.2 h]
theorem qA {a b:Int} (h:a=b):boP a=boP b:=by rw[h]
theorem ak8 {l:List Int} {x:Int}:l.map aJ++[[.v (.int .i64 x)]]=(l++[x]).map aJ:=by simp[aJ]
theorem apF {l:List Int} {i:Nat} {x:Int}:(l.map aJ).set i [.v (.int .i64 x)]=(l.set i x).map aJ:=by rw[brD];rfl
attribute [go_sem] ak8 apF
section
variable {rows : List (List D1)} {k k' k'' : IntKind} {a b c : Int} {n m id off len cap : Nat}
theorem arX:sJ n (.one (.c (.isl rows))) none (some (.one (.c (.v (.int k a))))) none=if (0≤a∧a≤rows.length)∧(∀r∈rows,r.length=n) then some (.one (.c (.isl (rows.take a.toNat)))) else none:=by
 by_cases boS: ∀r∈rows,r.length=n;·by_cases b:0≤a<;>simp only[sJ,EA,b,eq_true boS,if_true,if_false,reduceIte,and_true,and_false,true_and,false_and]<;>(repeat' split)<;>first|rfl| (exfalso;omega)| (simp only[bq5,Nat.sub_zero,Option.some.injEq,D.one.injEq,DV.c.injEq,D1.isl.injEq];first|rfl|exact boL (by simp)|exact boL (m5 _))
 ·by_cases b:0≤a<;>simp only[sJ,EA,b,eq_false boS,if_true,if_false,reduceIte,and_true,and_false,true_and,false_and]<;>(repeat' split)<;>first|rfl| (exfalso;omega)| (simp only[bq5,Nat.sub_zero,Option.some.injEq,D.one.injEq,DV.c.injEq,D1.isl.injEq];first|rfl|exact boL (by simp)|exact boL (m5 _))
theorem arK:sJ n (.one (.c (.osl m id off len cap))) none (some (.one (.c (.v (.int k a))))) none=if (m=n∨cap=0)∧0≤a∧a≤cap then some (.one (.c (.osl n id off a.toNat cap))) else none:=by by_cases b:0≤a<;>simp only[sJ,EA,ZU,b,if_true,if_false,reduceIte,and_true,true_and,and_false,false_and]<;>(repeat' split)<;>first| (exfalso;omega)| (simp;done)| (simp;omega)
theorem arB:sJ n (.one (.c (.osl m id off len cap))) (some (.one (.c (.v (.int k a))))) none none=if (m=n∨cap=0)∧0≤a∧a≤len∧len≤cap then some (.one (.c (.osl n id (off+a.toNat) (len-a.toNat) (cap-a.toNat)))) else none:=by by_cases b:0≤a<;>simp only[sJ,EA,ZU,b,if_true,if_false,reduceIte,and_true,true_and,and_false,false_and]<;>(repeat' split)<;>first| (exfalso;omega)| (simp;done)| (simp;omega)
theorem apA:sJ n (.one (.c (.osl m id off len cap))) (some (.one (.c (.v (.int k a))))) (some (.one (.c (.v (.int k' b))))) none=if (m=n∨cap=0)∧0≤a∧a≤b∧b≤cap then some (.one (.c (.osl n id (off+a.toNat) (b.toNat-a.toNat) (cap-a.toNat)))) else none:=by by_cases d:0≤a<;>by_cases e:0≤b<;>simp only[sJ,EA,ZU,d,e,if_true,if_false,reduceIte,and_true,true_and,and_false,false_and]<;>(repeat' split)<;>first| (exfalso;omega)| (simp;done)| (simp;omega)
theorem aoL:sJ n (.one (.c (.osl m id off len cap))) none (some (.one (.c (.v (.int k a))))) (some (.one (.c (.v (.int k' b)))))=if (m=n∨cap=0)∧0≤a∧a≤b∧b≤cap then some (.one (.c (.osl n id off a.toNat b.toNat))) else none:=by by_cases d:0≤a<;>by_cases e:0≤b<;>simp only[sJ,EA,ZU,d,e,if_true,if_false,reduceIte,and_true,true_and,and_false,false_and]<;>(repeat' split)<;>first| (exfalso;omega)| (simp;done)| (simp;omega)
theorem akE:sJ n (.one (.c (.osl m id off len cap))) (some (.one (.c (.v (.int k a))))) (some (.one (.c (.v (.int k' b))))) (some (.one (.c (.v (.int k'' c)))))=if (m=n∨cap=0)∧0≤a∧a≤b∧b≤c∧c≤cap then some (.one (.c (.osl n id (off+a.toNat) (b.toNat-a.toNat) (c.toNat-a.toNat)))) else none:=by by_cases d:0≤a<;>by_cases e:0≤b<;>by_cases hc:0≤c<;>simp only[sJ,EA,ZU,d,e,hc,if_true,if_false,reduceIte,and_true,true_and,and_false,false_and]<;>(repeat' split)<;>first| (exfalso;omega)| (simp;done)| (simp;omega)
end
attribute [go_sem] arX arK arB apA aoL akE true_or or_true
def en:List (Nat×D)→Env
 | []=>Env.nil
 | (t,d)::l=>(en l).set t d
theorem arY:en []=Env.nil:=rfl
theorem aoG {t:Nat} {d:D} {l:List (Nat×D)}:en ((t,d)::l)=(en l).set t d:=rfl
def hp:List (Nat×bA)→aA
 | []=>aA.nil
 | (i,o)::l=>(hp l).set i o
theorem arI:hp []=aA.nil:=rfl
theorem anY {i:Nat} {o:bA} {l:List (Nat×bA)}:hp ((i,o)::l)=(hp l).set i o:=rfl
def DV.imm:DV→Bool
 | .c d=>d.dQ
 | .agg a=>a.all D1.dQ
def D.imm:D→Bool
 | .one x=>x.imm
 | .tup xs=>xs.all DV.imm
 | .dead=>false
section
variable {P : Program} {H G : aA} {F : Nat → Prop} {σ : Nat → Nat} {nx nh : Nat} {e e' : Env}
theorem YP{τ:Nat→Nat}{d:D1} (h:d.dQ=true):rn1 τ d=d:=by cases d<;>first|rfl|cases h
theorem af4{τ:Nat→Nat}{d:DV} (h:d.imm=true):rnV τ d=d:=by
 cases d with
 |c d=>simp only[rnV];rw[YP h]
 |agg a=>
  simp only[rnV];congr 1;have b:=w2.1 h;conv=>rhs;rw[←brT a]
  exact brC fun x e=>YP (b x e)
theorem af7{τ:Nat→Nat}{d:D} (h:d.imm=true):rnD τ d=d:=by
 cases d with
 |one x=>simp only[rnD];rw[af4 h]
 |dead=>rfl
 |tup xs=>
  simp only[rnD];congr 1;have a:=w2.1 h;conv=>rhs;rw[←brT xs]
  exact brC fun x b=>af4 (a x b)
theorem al1{d:DV} (h:d.imm=true):CvV H F σ nh d d:=by
 cases d with
 |c d=>exact bB h
 |agg b=>exact GW fun x a=>w2.1 h x a
theorem aE {d:D} (h:d.imm=true):CvD H F σ nh d d:=by
 cases d with
 |one x=>exact al1 h
 |dead=>trivial
 |tup xs=>refine⟨rfl,fun i a b c e=> ?_⟩;rw[c] at e;cases e;exact al1 (w2.1 h a (s3 c))
theorem aB.fresh{f:FuncId}{args:List D}{K:D→aA→Nat→Prop}{R:D→Prop} (h:aB P f args .nil 0 fun r _ n=>n=0∧r.imm=true∧R r) (a:args.all D.imm=true) (e: ∀r,R r→K r H nx):aB P f args H nx K:=by
 refine aB.lift h id rfl (fun i g d b c=> ?_) PS (fun i hi=>absurd hi (bq2 i)) (fun i j hi=>absurd hi (bq2 i)) fun r H' l _ ⟨b,c,k⟩=> ?_;·rw[b] at c;cases c;exact aE (w2.1 a g (s3 b))
 ·subst b;rw[af7 c];exact e r k
theorem V4{Q:AQ}{rs:List aW}{R:D→Prop} (e: ∀ex b H2 a d nh d2 f F σ,ex=AEx.normal∨ex=AEx.ret→yT H2 b rs=some d→CvR 0 d H2 nh d2 f F σ→(nh=0∧d2.imm=true∧R d2)→Q ex b H2 a)
 {b:Env} {H2:aA} {a:Nat} (c d:D) (g:yT H2 b rs=some d) (h:CvD H2 (fun _=>True) id 0 c d) (i:c.imm=true) (j:R c):Q .ret b H2 a:=
 e _ _ _ _ d 0 c .nil (fun _=>True) id (.inr rfl) g ⟨m5 _,fun _ _=>rfl,h,PS⟩ ⟨rfl,i,j⟩
def alR (n:Nat) (rows:List (List D1)):Prop:=∀r∈rows,r.length=n∧ ∀x∈r,x.dQ=true
variable{n:Nat}
theorem aG{α:Type}{enc:α→List D1} (h: ∀x,(enc x).length=n∧(enc x).all D1.dQ=true) (l:List α):alR n (l.map enc):=by intro r hr;obtain⟨x,_,rfl⟩:=CF.1 hr;exact⟨(h x).1,w2.1 (h x).2⟩
variable{rows:List (List D1)}{len cap:Nat}
theorem XN{id:Nat}{o:bA} (hi:alR n rows) (hl:len=rows.length) (d:F id) (e:H id=some o) (f:o.n=n) (hr:o.rows.take rows.length=rows) (hc:rows.length≤cap):Cv1 H F σ nh (.isl rows) (.osl n id 0 len cap):=by
 subst hl;have hle:rows.length≤o.rows.length:=by have:=congrArg List.length hr;rw[CG] at this;omega
 have g: ∀i:Nat,∀r',rows[i]?=some r'→o.rows[i]?=some r':=by
  intro i r' h;rw[←hr,s4] at h;split at h;·exact h
  ·cases h
 refine .frz (.frz rows n id 0 cap o (fun i j=>((rows[i]?.getD [])[j]?).getD .dead) d e f (by omega) hc (fun i r' h=>(hi r' (s3 h)).1) (fun i j r' c a b=>⟨r',by rw[Y4];exact g i r' a,by rw[a];simp[b]⟩) fun i j r' c a b=> ?_);rw[a];simp only[Option.getD_some,b];exact .same c ((hi r' (s3 a)).2 c (s3 b))
theorem xG {n id off:Nat}:Cv1 H F σ nh (.isl []) (.osl n id off 0 0):=.frz (.nil n id off)
theorem aaF {n id d off a len b cap c:Nat} (h:d<nh) (hs:σ d=id) (e:a=off) (f:b=len) (g:c=cap):Cv1 H F σ nh (.osl n d a b c) (.osl n id off len cap):=by subst e;subst f;subst g;exact an2 h hs
theorem DJ{id:Nat}{o:bA} (hi:alR n rows) (hl:len=rows.length) (a:F id) (b:H id=some o) (d:o.n=n) (hr:o.rows.take rows.length=rows) (hc:rows.length≤cap):CvD H F σ nh (dS rows) (.one (.c (.osl n id 0 len cap))):=XN hi hl a b d hr hc
theorem qS{id e off a b d:Nat} (h:e<nh) (hs:σ e=id) (f:a=off) (g:b=len) (i:d=cap):CvD H F σ nh (.one (.c (.osl n e a b d))) (.one (.c (.osl n id off len cap))):=aaF h hs f g i
theorem DG{id a row b:Nat} (h:a<nh) (hs:σ a=id):CvD H F σ nh (.one (.c (.ptr n a row b))) (.one (.c (.ptr n id row b))):=afZ h hs
theorem YY {f:FuncId} {caps:List D1} (h:caps.all D1.dQ=true):Cv1 H F σ nh (.clo f caps) (.clo f caps):=
 .clo f caps caps rfl fun i x y a b=>by rw[a] at b;cases b;have:=w2.1 h x (s3 a);exact .inl ⟨this,.same x this⟩
theorem kC{f:FuncId}{caps:List D1} (h:caps.all D1.dQ=true):CvD H F σ nh (.one (.c (.clo f caps))) (.one (.c (.clo f caps))):=YY h
def amT (H:aA) (F:Nat→Prop):List D1→List D1→Prop
 | [],[]=>True
 |x::xs,y::ys=>(x.dQ=true∧Frz H F x y)∧amT H F xs ys
 |_,_=>False
theorem BZ: ∀{xs ys:List D1},amT H F xs ys→xs.length=ys.length∧ ∀(i:Nat) (x y:D1),xs[i]?=some x→ys[i]?=some y→x.dQ=true∧Frz H F x y
 | [],[],_=>⟨rfl,fun i x y h=>by simp at h⟩
 |a::xs,b::ys,h=>⟨by simp[(BZ h.2).1],fun i x y c d=>by
  match i with
  |0=>simp at c d;subst c;subst d;exact h.1
  |i+1=>exact(BZ h.2).2 i x y (by simpa using c) (by simpa using d)⟩
 | [],_::_,h=>h.elim
 |_::_,[],h=>h.elim
theorem PR{f:FuncId}{a caps:List D1} (h:amT H F a caps):CvD H F σ nh (.one (.c (.clo f a))) (.one (.c (.clo f caps))):=
 .clo f caps a (BZ h).1 fun i x y b d=>.inl ((BZ h).2 i x y b d)
theorem zE{cells:List D1}{id:Nat}{o:bA} (hi:cells.all D1.dQ=true) (b:F id) (c:H id=some o) (d:o.n=n) (hr:o.rows[0]?=some cells):(D1.fQ cells).dQ=true∧Frz H F (.fQ cells) (.ptr n id 0 0):=
 ⟨rfl,.ptr cells n id 0 0 o cells (fun j=>(cells[j]?).getD .dead) b c d hr (fun j a h=>by simp[h]) (fun j a h=>by
  simp only[h,Option.getD_some]
  exact .same a (w2.1 hi a (s3 h)))⟩
theorem aeE {cells:List D1} {n id:Nat} {o:bA} (hi:cells.all D1.dQ=true) (a:F id) (b:H id=some o) (d:o.n=n) (hr:o.rows[0]?=some cells):CvD H F σ nh (.one (.c (.fQ cells))) (.one (.c (.ptr n id 0 0))):=
 .frz (zE hi a b d hr).2
theorem bU (hle:nx≤nh) (h:CvE H (fun _=>True) id nh e' e): ∃F σ,Cv nx e H nh e' .nil F σ:=⟨fun _=>True,id,hle,fun _ _=>rfl,h,PS⟩
def ap5 (H:aA):List D→List D→Prop
 | [],[]=>True
 |a::l0,d::l=>CvD H (fun _=>True) id 0 a d∧ap5 H l0 l
 |_,_=>False
theorem aI: ∀{l0 l:List D},ap5 H l0 l→∀(i:Nat) (c d:D),l0[i]?=some c→l[i]?=some d→CvD H (fun _=>True) id 0 c d
 | [],[],_,i,c,d,e,_=>by simp at e
 |a::l0,b::l,h,i,c,d,e,f=>by
  match i with
  |0=>simp at e f;subst e;subst f;exact h.1
  |i+1=>exact aI h.2 i c d (by simpa using e) (by simpa using f)
 | [],_::_,h,_,_,_,_,_=>h.elim
 |_::_,[],h,_,_,_,_,_=>h.elim
theorem yP{α:Type}{enc:α→List D1}{l:List α}{id m:Nat} (he: ∀x,(enc x).length=n∧(enc x).all D1.dQ=true) (a:H id=some ⟨n,m,l.map enc⟩) (hl:len=l.length) (hc:l.length≤cap) (b:F id):CvD H F σ nh (dS (l.map enc)) (.one (.c (.osl n id 0 len cap))):=DJ (aG he l) (by simp[hl]) b a rfl (boL (m5 _)) (by simp;omega)
theorem oF {t:Nat} {d:D} {l:List (Nat×D)} (h:CvE H F σ nh (en l) e) (a:CvD H F σ nh d (e t)):CvE H F σ nh (en ((t,d)::l)) e:=anZ h a
theorem K6:CvE H F σ nh (en []) e:=fun _=>trivial
def sgL (nx:Nat) (s:List Nat) (i:Nat):Nat:=if i<nx then i else (s[i-nx]?).getD i
def OkO (H:aA) (F:Nat→Prop) (σ:Nat→Nat) (nh:Nat):List (Nat×bA)→Prop
 | []=>True
 |p::l=>(p.1<nh∧ ¬F (σ p.1)∧ ∃o,H (σ p.1)=some o∧CvO H F σ nh p.2 o)∧OkO H F σ nh l
theorem XC: ∀{l:List (Nat×bA)} {i:Nat} {o:bA},hp l i=some o→(i,o)∈l
 | [],i,o,h=>by simp[hp,aA.nil] at h
 | (j,p)::l,i,o,h=>by
   simp only[hp,aA.set] at h;split at h;·rename_i hi;cases h;subst hi;simp
   ·exact bq9 _ (XC h)
theorem af2: ∀{l:List (Nat×bA)},OkO H F σ nh l→∀p∈l,p.1<nh∧ ¬F (σ p.1)∧ ∃o,H (σ p.1)=some o∧CvO H F σ nh p.2 o
 | [],_,p,hp=>by simp at hp
 |q::l,h,p,hp=>by
  rcases t3.1 hp with rfl|hp;·exact h.1
  ·exact af2 h.2 p hp
variable{l:List (Nat×bA)}
theorem ahG (h:(l.map fun p=>σ p.1).Nodup){p q:Nat×bA} (d:p∈l) (e:q∈l) (he:σ p.1=σ q.1):p=q:=by
 induction l with
 |nil=>simp at d
 |cons a l f=>
  simp only[n3,bq8] at h;rcases t3.1 d with b|b<;>rcases t3.1 e with c|c;·rw[b,c]
  ·subst b;exact absurd (CF.2 ⟨q,c,he.symm⟩:σ p.1∈l.map fun p=>σ p.1) h.1
  ·subst c;exact absurd (CF.2 ⟨p,b,he⟩:σ q.1∈l.map fun p=>σ p.1) h.1
  ·exact f h.2 b c
theorem QQ (h:OkO H F σ nh l) (b:(l.map fun p=>σ p.1).Nodup):CvH H F σ nh (hp l):=⟨fun id o' a=>af2 h _ (XC a),fun i j o o' hi c he=>congrArg Prod.fst (ahG b (XC hi) (XC c) he)⟩
theorem cR (s:List Nat) (hle:nx≤nh) (a:CvE H (· ∉s) (sgL nx s) nh e' e) (boT:OkO H (· ∉s) (sgL nx s) nh l) (b:(l.map fun p=>sgL nx s p.1).Nodup): ∃F σ,Cv nx e H nh e' (hp l) F σ:=⟨_,_,hle,fun i hi=>by simp[sgL,hi],a,QQ boT b⟩
theorem fU{d a:D} (s:List Nat) (hle:nx≤nh) (b:CvD H (· ∉s) (sgL nx s) nh a d) (boT:OkO H (· ∉s) (sgL nx s) nh l) (c:(l.map fun p=>sgL nx s p.1).Nodup):CvR nx d H nh a (hp l) (· ∉s) (sgL nx s):=⟨hle,fun i hi=>by simp[sgL,hi],b,QQ boT c⟩
theorem bP{m b:Nat}{a:List (List D1)} (hi:alR n a) (h:a=rows) (hm:b=m):CvO H F σ nh ⟨n,b,a⟩ ⟨n,m,rows⟩:=by subst h;subst hm;exact bS fun r hr=>(hi r hr).2
theorem aM.ar4{P:Program}{T:Nat}{e:Env}{H:aA}{nx:Nat}{Q:AQ}{x:AC}{zs:List AC}{α:Type} (m:Nat) (E:Nat→α→Env) (G:Nat→α→aA) (μ:α→Nat) (a:α) (c: ∃F σ,Cv nx e H (nx+m) (E nx a) (G nx a) F σ)
 (h: ∀u,∀K:Env→aA→Nat→Prop,(∀e' H' nx' b,nx+m≤nx'→μ b<μ u→(∃F σ,Cv nx e' H' (nx+m) (E nx b) (G nx b) F σ)→K e' H' nx')→aM P T [x] (E nx u) (G nx u) (nx+m) (AQ.then K Q)):aM P T (.loop x::zs) e H nx Q:=
 aM.loop (E nx) (G nx) (nx+m) μ a c h
end
attribute [go_sem] aq4 alB ahU aeF agY acY agN akW ar3 asJ alO akH ahL amZ arU aoM apQ anS aoQ ai1 ad0 aqT al8 aoY apG W0 W5 t3 bq7 or_false false_or or_self aiG am1 ahX akQ ajN apC boL List.length_range bx0 am5 aqH ag2 abU atA ar6 arM aqK aqZ aqF atF as8 atD atH as6 ao0 ak2 arY aoG arI anY aJ gt_iff_lt ge_iff_le Int.reduceEq Int.reduceNe Int.reduceLT Int.reduceLE Int.reduceAdd Int.reduceSub Int.reduceMul Int.reduceNeg decide_true decide_false Int.toNat_natCast Z1 Bool.not_false not_true_eq_false not_false_eq_true Y2 t2 Nat.reduceMul Nat.reduceSub Nat.reduceLT Int.reduceToNat
section
variable {P : Program} {H G : aA} {F : Nat → Prop} {σ : Nat → Nat} {nx nh : Nat} {e e' : Env}
def C7 (o:bA):Prop:=∀r∈o.rows,∀x∈r,x.dQ=true
theorem rF {τ:Nat→Nat} {o:bA} (h:C7 o):o.rn τ=o:=by
 unfold bA.rn;congr 1;conv=>rhs;rw[←brT o.rows]
 refine brC fun r hr=> ?_;conv=>rhs;rw[←brT r]
 exact brC fun x a=>YP (h r hr x a)
theorem aA.arQ {i:Nat} {o:bA}:H.upd i (some o)=H.set i o:=rfl
theorem aB.OU {f:FuncId} {args0 args:List D} {K:D→aA→Nat→Prop} {o:bA} {R:D→bA→Prop} (i:Nat) (h:aB P f args0 (hp [(0,o)]) 1 fun r H' c=>c=1∧ ∃o',H'=hp [(0,o')]∧C7 o'∧R r o') (hlen:args.length=args0.length)
 (a: ∀(j:Nat) (g d:D),args0[j]?=some g→args[j]?=some d→CvD H (fun _=>False) (fun _=>i) 1 g d) (hi:i<nx) (l:H i=some o) (b:C7 o) (m: ∀r o',R r o'→K (rnD (tau 1 nx fun _=>i) r) (H.set i o') nx):aB P f args H nx K:=by
 refine aB.lift h (fun _=>i) hlen a (QQ ⟨⟨Nat.zero_lt_one,fun h=>h,o,l,bS b⟩,trivial⟩ (by simp)) (fun j _=>hi) (fun j k t u _=>by omega) fun r H' c hle ⟨n,o',p,q,s⟩=> ?_
 subst n;subst p
 have e:back (tau 1 nx fun _=>i) (hp [(0,o')]) 1 H=H.set i o':=by
  simp only[back,hp,aA.set,Option.map_some,rF q,aA.arQ,if_true];have:tau 1 nx (fun _=>i) 0=i:=by simp[tau]
  rw[this]
 rw[e]
 exact m r o' s
theorem aB.aUH {f:FuncId} {args0 args:List D} {K:D→aA→Nat→Prop} {m n:bA} {R:D→bA→bA→Prop} (i j:Nat) (h:aB P f args0 (hp [(0,m),(1,n)]) 2 fun r H' s=>s=2∧ ∃c g,H'=hp [(0,c),(1,g)]∧C7 c∧C7 g∧R r c g) (hlen:args.length=args0.length)
 (l: ∀(k:Nat) (t d:D),args0[k]?=some t→args[k]?=some d→CvD H (fun _=>False) (fun k=>if k=0 then i else j) 2 t d) (hi:i<nx) (E:j<nx) (o:i≠j) (p:H i=some m) (q:H j=some n) (w:C7 m) (x:C7 n)
 (y: ∀r c g,R r c g→K (rnD (tau 2 nx fun k=>if k=0 then i else j) r) ((H.set i c).set j g) nx):aB P f args H nx K:=by
 refine aB.lift h (fun k=>if k=0 then i else j) hlen l (QQ ⟨⟨by simp,fun h=>h,m,by simpa using p,bS w⟩,⟨by simp,fun h=>h,n,by simpa using q,bS x⟩,trivial⟩ (by simpa using o)) (fun k _=>by split<;>assumption) (fun a b F G he=> ?_) fun r H' s hle ⟨z,c,g,A,u,v,B⟩=> ?_
 ·split at he<;>split at he<;>omega
 subst z;subst A
 have e:back (tau 2 nx fun k=>if k=0 then i else j) (hp [(0,c),(1,g)]) 2 H=(H.set i c).set j g:=by
  have boU:tau 2 nx (fun k=>if k=0 then i else j) 0=i:=by simp[tau]
  have C:tau 2 nx (fun k=>if k=0 then i else j) 1=j:=by simp[tau]
  simp only[back,hp,aA.set,boU,C,Option.map_some,rF u,rF v,if_true,Y4];simp only[Nat.zero_ne_one,brN,if_false,Option.map_some,rF u,rF v];rfl
 rw[e]
 exact y r c g B
theorem lA {Q:AQ} {rs:List aW} {R:D→bA→Prop} (g: ∀ex b H2 a d nh d2 e F σ,ex=AEx.normal∨ex=AEx.ret→yT H2 b rs=some d→CvR 1 d H2 nh d2 e F σ→(nh=1∧ ∃o',e=hp [(0,o')]∧C7 o'∧R d2 o')→Q ex b H2 a)
 {b:Env} {H2:aA} {a:Nat} (c d:D) (o':bA) (j:yT H2 b rs=some d) (k:CvD H2 (fun i=>i≠0) id 1 c d) (l:H2 0=some o') (f:C7 o') (m:R c o'):Q .ret b H2 a:=
 g _ _ _ _ d 1 c (hp [(0,o')]) (fun i=>i≠0) id (.inr rfl) j ⟨m5 _,fun _ _=>rfl,k,QQ ⟨⟨Nat.zero_lt_one,fun h=>h rfl,o',l,bS f⟩,trivial⟩ (by simp)⟩ ⟨rfl,o',rfl,f,m⟩
theorem aTE {Q:AQ} {rs:List aW} {R:D→bA→bA→Prop} (m: ∀ex g H2 a d nh d2 j F σ,ex=AEx.normal∨ex=AEx.ret→yT H2 g rs=some d→CvR 2 d H2 nh d2 j F σ→(nh=2∧ ∃b c,j=hp [(0,b),(1,c)]∧C7 b∧C7 c∧R d2 b c)→Q ex g H2 a)
 {g:Env} {H2:aA} {a:Nat} (h d:D) (e f:bA) (n:yT H2 g rs=some d) (o:CvD H2 (fun i=>2≤i) id 2 h d) (p:H2 0=some e) (q:H2 1=some f) (k:C7 e) (l:C7 f) (r:R h e f):Q .ret g H2 a:=
 m _ _ _ _ d 2 h (hp [(0,e),(1,f)]) (fun i=>2≤i) id (.inr rfl) n ⟨m5 _,fun _ _=>rfl,o,QQ ⟨⟨by simp,by simp,e,p,bS k⟩,⟨by simp,by simp,f,q,bS l⟩,trivial⟩ (by simp)⟩ ⟨rfl,e,f,rfl,k,l,r⟩
theorem oB {α:Type} {enc:α→List D1} {n m:Nat} (h: ∀x,(enc x).length=n∧(enc x).all D1.dQ=true) (l:List α):C7 ⟨n,m,l.map enc⟩:=fun r hr=>(aG h l r hr).2
theorem EW {τ:Nat→Nat} {d:D} {A:D→Prop} (h:d.imm=true) (a:A d):A (rnD τ d):=by rw[af7 h];exact a
def aqS (H:aA) (τ:Nat→Nat) (n:Nat):List D→List D→Prop
 | [],[]=>True
 |a::l0,d::l=>CvD H (fun _=>False) τ n a d∧aqS H τ n l0 l
 |_,_=>False
theorem gW {τ:Nat→Nat} {n:Nat}: ∀{l0 l:List D},aqS H τ n l0 l→∀(i:Nat) (c d:D),l0[i]?=some c→l[i]?=some d→CvD H (fun _=>False) τ n c d
 | [],[],_,i,c,d,e,_=>by simp at e
 |a::l0,b::l,h,i,c,d,e,f=>by
  match i with
  |0=>simp at e f;subst e;subst f;exact h.1
  |i+1=>exact gW h.2 i c d (by simpa using e) (by simpa using f)
 | [],_::_,h,_,_,_,_,_=>h.elim
 |_::_,[],h,_,_,_,_,_=>h.elim
end
section
variable {P : Program} {T : Nat} {e : Env} {H : aA} {nx : Nat} {Q : AQ}
theorem AWP.join {x y:AC} {α:Type} (nh:Nat) (E:α→Env) (G:α→aA) (r:AWP P T x e H nx (AQ.then (fun e' H' _=>∃u,∃F σ,Cv nx e' H' nh (E u) (G u) F σ) Q)) (s: ∀u,AWP P T y (E u) (G u) nh Q):AWP P T (.seq x y) e H nx Q:=by
 intro code hc c a hs he l
 cases hc with
 |seq t v=>
  refine wp_seq (wp_mono (r _ t c a hs he l) fun ex w K ⟨d,e',H',nx',c',hp⟩=> ?_);obtain⟨rfl,rfl,f,g,j,k,m,b⟩:=hp
  cases d with
  |normal=>
   simp only[AQ.then] at b;obtain⟨u,F,σ,q⟩:=b;obtain⟨c2,z,A,B,C,n⟩:=q.sound f g l j
   have o:=s u _ v c2 w A B fun i hi=>by
    rcases n i hi with h|h;·have:=q.le;omega
    ·exact h.2
   rw[z] at o;refine wp_mono o fun ex D I J=>J.lift C (fun i hi=> ?_) q.le fun _ _ _ _ _ h=>h;rcases n i hi with h|h
   ·rcases k i h.1 with p|p;·exact .inl p
    ·omega
   ·exact .inr h
  |exit id=>exact⟨.exit id,e',H',nx',c',rfl,rfl,f,g,j,k,m,b⟩
  |ret=>exact⟨.ret,e',H',nx',c',rfl,rfl,f,g,j,k,m,b⟩
theorem aM.join {x y:AC} {zs:List AC} {α:Type} (m:Nat) (E:Nat→α→Env) (G:Nat→α→aA)
 (b: ∀K:Env→aA→Nat→Prop,(∀e' H' nx' u,(∃F σ,Cv nx e' H' (nx+m) (E nx u) (G nx u) F σ)→K e' H' nx')→aM P T [x] e H nx (AQ.then K Q))
 (c: ∀u,aM P T (y::zs) (E nx u) (G nx u) (nx+m) Q):aM P T (.seq x y::zs) e H nx Q:=by
 refine AWP.join (nx+m) (E nx) (G nx) (AWP.mono (b _ (fun e' H' nx' u h=>(⟨u,h⟩: ∃u,∃F σ,Cv nx e' H' (nx+m) (E nx u) (G nx u) F σ))).run fun ex e' H' nx' _ a=> ?_) c
 cases ex with
 |normal=>exact a
 |exit i=>exact a
 |ret=>exact a
theorem aM.sG{x:AC}{zs:List AC}{β:Type} (m:Nat) (E:Nat→β→Env) (G:Nat→β→aA) (I:β→Prop) (μ:β→Nat) (v0:β) (c: ∃F σ,Cv nx e H (nx+m) (E nx v0) (G nx v0) F σ) (hi:I v0)
 (h: ∀v,I v→∀K:Env→aA→Nat→Prop,(∀e' H' nx' a,nx+m≤nx'→(∃F σ,Cv nx e' H' (nx+m) (E nx a) (G nx a) F σ)→I a→μ a<μ v→K e' H' nx')→aM P T [x] (E nx v) (G nx v) (nx+m) (AQ.then K Q)):aM P T (.loop x::zs) e H nx Q:=
 aM.ar4 (α:={v:β//I v}) m (fun b u=>E b u.1) (fun b u=>G b u.1) (fun u=>μ u.1) ⟨v0,hi⟩ c fun u K d=>h u.1 u.2 K fun e' H' nx' a f g i j=>d e' H' nx' ⟨a,i⟩ f j g
theorem arT {H:aA} {F:Nat→Prop} {σ:Nat→Nat} {nh:Nat} {a b:D1} (h:Cv1 H F σ nh a b):Cv1 H F σ nh a b:=h
theorem aqR {H:aA} {F:Nat→Prop} {σ:Nat→Nat} {nh:Nat} {a b:D} (h:CvD H F σ nh a b):CvD H F σ nh a b:=h
theorem asF {H:aA} {F:Nat→Prop} {σ:Nat→Nat} {nh:Nat} {a b:D1} (h:a=b) (hi:a.dQ=true):Cv1 H F σ nh a b:=h▸bB hi
theorem bW{H:aA}{F:Nat→Prop}{σ:Nat→Nat}{nh:Nat}{α:Type}{enc:α→List D1}{l:List α}{n id len cap m:Nat} (he: ∀x,(enc x).length=n∧(enc x).all D1.dQ=true) (a:H id=some ⟨n,m,l.map enc⟩) (hl:len=l.length) (hc:l.length≤cap) (b:F id):Cv1 H F σ nh (.isl (l.map enc)) (.osl n id 0 len cap):=XN (aG he l) (by simp[hl]) b a rfl (boL (m5 _)) (by simp;omega)
def kpm (b:Nat) (l:List Nat) (H:aA):aA:=fun i=>if i∈l.map (b+ ·) then H i else none
variable {b i : Nat} {l : List Nat} {o : bA} {G : aA}
theorem akT:msk b l (H.set i o)=if i∈l.map (b+ ·) then msk b l H else (msk b l H).set i o:=by
 split
 ·rename_i h;funext j;simp only[msk,aA.set];by_cases a:j=i;·subst a;simp only[h,if_true]
  ·simp only[a,if_false]
 ·rename_i h;funext j;simp only[msk,aA.set];by_cases a:j=i;·subst a;simp only[h,if_true,if_false]
  ·simp only[a,if_false]
theorem akY:msk b l aA.nil=aA.nil:=by funext j;simp only[msk,aA.nil];split<;>rfl
theorem an1:msk b l (H.del i)=(msk b l H).del i:=by funext j;simp only[msk,aA.del];split<;>split<;>rfl
theorem aoS:kpm b l (H.set i o)=if i∈l.map (b+ ·) then (kpm b l H).set i o else kpm b l H:=by
 split
 ·rename_i h;funext j;simp only[kpm,aA.set];by_cases a:j=i;·subst a;simp only[h,if_true]
  ·simp only[a,if_false]
 ·rename_i h;funext j;simp only[kpm,aA.set];by_cases a:j=i;·subst a;simp only[h,if_false]
  ·simp only[a,if_false]
theorem al5:kpm b l aA.nil=aA.nil:=by funext j;simp only[kpm,aA.nil];split<;>rfl
theorem abQ:dT b l H aA.nil=kpm b l H:=by funext j;simp only[dT,kpm,aA.nil]
theorem aeC:dT b l H (G.set i o)=if i∈l.map (b+ ·) then dT b l H G else (dT b l H G).set i o:=by
 split
 ·rename_i h;funext j;simp only[dT,aA.set];by_cases a:j=i;·subst a;simp only[h,if_true]
  ·simp only[a,if_false]
 ·rename_i h;funext j;simp only[dT,aA.set];by_cases a:j=i;·subst a;simp only[h,if_true,if_false]
  ·simp only[a,if_false]
theorem ahD:dT b l H (G.del i)=if i∈l.map (b+ ·) then dT b l H G else (dT b l H G).del i:=by
 split
 ·rename_i h;funext j;simp only[dT,aA.del];by_cases a:j=i;·subst a;simp only[h,if_true]
  ·simp only[a,if_false]
 ·rename_i h;funext j;simp only[dT,aA.del];by_cases a:j=i;·subst a;simp only[h,if_true,if_false]
  ·simp only[a,if_false]
variable{a c:bA}
theorem yE{H:aA}{i j:Nat} (h: ¬i=j):(H.set i a).set j c=(H.set j c).set i a:=by
 funext k;simp only[aA.set];by_cases d:k=j;·subst d;rw[if_pos rfl,if_neg (fun b=>h b.symm),if_pos rfl]
 ·rw[if_neg d];by_cases b:k=i;·rw[if_pos b,if_pos b]
  ·rw[if_neg b,if_neg b,if_neg d]
variable{boV:Nat}{boW:bA}
theorem ajH{H:aA}{i:Nat} (b: ¬boV=i):((H.set i a).set boV boW).set i c=((H.set i c).set boV boW):=by rw[yE b,aA.set_set]
variable{j1:Nat}{b1:bA}
theorem am6{H:aA}{i:Nat} (b: ¬boV=i) (d: ¬j1=i):(((H.set i a).set boV boW).set j1 b1).set i c=(((H.set i c).set boV boW).set j1 b1):=by rw[yE d,ajH b]
variable{j2:Nat}{b2:bA}
theorem alU{H:aA}{i:Nat} (b: ¬boV=i) (d: ¬j1=i) (e: ¬j2=i):((((H.set i a).set boV boW).set j1 b1).set j2 b2).set i c=((((H.set i c).set boV boW).set j1 b1).set j2 b2):=by rw[yE e,am6 b d]
variable{boX:bA}
theorem alA{H:aA}{i b:Nat} (d: ¬boV=i) (e: ¬j1=i) (f: ¬j2=i) (g: ¬b=i):(((((H.set i a).set boV boW).set j1 b1).set j2 b2).set b boX).set i c=(((((H.set i c).set boV boW).set j1 b1).set j2 b2).set b boX):=by rw[yE g,alU d e f]
theorem ajJ{H:aA}{i b d:Nat}{boY:bA} (e: ¬boV=i) (f: ¬j1=i) (g: ¬j2=i) (h: ¬b=i) (j: ¬d=i):((((((H.set i a).set boV boW).set j1 b1).set j2 b2).set b boX).set d boY).set i c=((((((H.set i c).set boV boW).set j1 b1).set j2 b2).set b boX).set d boY):=by rw[yE j,alA e f g h]
theorem akV{H:aA}{i b d e:Nat}{boY boZ:bA} (f: ¬boV=i) (g: ¬j1=i) (h: ¬j2=i) (j: ¬b=i) (k: ¬d=i) (l: ¬e=i):(((((((H.set i a).set boV boW).set j1 b1).set j2 b2).set b boX).set d boY).set e boZ).set i c=(((((((H.set i c).set boV boW).set j1 b1).set j2 b2).set b boX).set d boY).set e boZ):=by rw[yE l,ajJ f g h j k]
theorem arR{H:aA}{i b d e f:Nat}{boY boZ bkQ:bA} (g: ¬boV=i) (h: ¬j1=i) (j: ¬j2=i) (k: ¬b=i) (l: ¬d=i) (m: ¬e=i) (n: ¬f=i):((((((((H.set i a).set boV boW).set j1 b1).set j2 b2).set b boX).set d boY).set e boZ).set f bkQ).set i c=((((((((H.set i c).set boV boW).set j1 b1).set j2 b2).set b boX).set d boY).set e boZ).set f bkQ):=by rw[yE n,akV g h j k l m]
theorem aoB{i:Nat}:aA.nil.del i=aA.nil:=by funext k;simp only[aA.del,aA.nil];split<;>rfl
theorem ae7{H:aA}{i:Nat}:(H.set i a).del i=H.del i:=by funext k;simp only[aA.set,aA.del];split<;>rfl
theorem adA{H:aA}{i j:Nat} (h: ¬i=j):(H.set j a).del i=(H.del i).set j a:=by
 funext k;simp only[aA.set,aA.del];by_cases b:k=i;·subst b;simp[h]
 ·simp[b]
end
attribute [go_sem] ajH am6 alU alA ajJ akV arR aoB ae7 adA Nat.reduceLT akT akY an1 aoS al5 abQ aeC ahD
def nth (s:List Nat) (i:Nat):Nat:=s[i]?.getD 0
section
variable {P : Program} {H : aA} {nx : Nat} {τ : Nat → Nat} {H0 : aA}
theorem aB.AF {f:FuncId} {args0 args:List D} {K:D→aA→Nat→Prop} {l0:List (Nat×bA)} {R:D→aA→Nat→Prop} (s:List Nat) (h:aB P f args0 (hp l0) s.length R) (hlen:args.length=args0.length)
 (a:aqS H (nth s) s.length args0 args) (boT:OkO H (fun _=>False) (nth s) s.length l0) (c:(l0.map fun p=>nth s p.1).Nodup) (hs: ∀x∈s,x<nx) (d:s.Nodup)
 (e: ∀r H' b,s.length≤b→R r H' b→K (rnD (tau s.length nx (nth s)) r) (back (tau s.length nx (nth s)) H' b H) (nx+(b-s.length))):aB P f args H nx K:=
 aB.lift h (nth s) hlen (gW a) (QQ boT c) (fun i hi=>by rw[nth,n1 hi];exact hs _ (Z5 hi))
   (fun i j hi g he=>by
    rw[nth,nth,n1 hi,n1 g,Option.getD_some,Option.getD_some] at he
    exact(List.getElem_inj d).1 he) e
theorem aB.azZ {f:FuncId} {args0 args:List D} {K:D→aA→Nat→Prop} {R:D→Prop} (h:aB P f args0 .nil 0 fun r _ n=>n=0∧r.imm=true∧R r) (hlen:args.length=args0.length) (a:aqS H (nth []) 0 args0 args) (b: ∀r,R r→K r H nx):aB P f args H nx K:=by refine aB.AF (l0:=[]) [] h hlen a trivial (by simp) (by simp) (by simp) fun r H' g _ ⟨c,d,e⟩=> ?_;subst c;rw[af7 d];exact b r e
theorem uB {n m:Nat} {l:List Int}:bA.rn τ ⟨n,m,l.map aJ⟩=⟨n,m,l.map aJ⟩:=by refine rF fun r hr x a=> ?_;obtain⟨y,_,rfl⟩:=CF.1 hr;simp only[aJ,CJ] at a;subst a;rfl
theorem asR:back τ H0 2 H=(H.upd (τ 0) ((H0 0).map (bA.rn τ))).upd (τ 1) ((H0 1).map (bA.rn τ)):=rfl
theorem ayY {F:Nat→Prop} {σ:Nat→Nat} {nh:Nat} {xs ys:List D1} (h:CvL H F σ nh xs ys):CvV H F σ nh (.agg xs) (.agg ys):=h
theorem ay7 {F:Nat→Prop} {σ:Nat→Nat} {nh:Nat} {a b x y:DV} (d:CvV H F σ nh a x) (e:CvV H F σ nh b y):CvD H F σ nh (.tup [a,b]) (.tup [x,y]):=
 ⟨rfl,fun i u v hu c=>by
  match i with
  |0=>simp at hu c;subst hu;subst c;exact d
  |1=>simp at hu c;subst hu;subst c;exact e
  |i+2=>simp at hu⟩
theorem yI {i:Nat}:H.upd i none=H.del i:=rfl
end
section
variable {P : Program} {H : aA} {nx : Nat}
theorem uO{F:Nat→Prop}{σ:Nat→Nat}{nh n m c:Nat}{R a rows:List (List D1)}{r' r:List D1} (e':a=R++[r']) (e:rows=R++[r]) (f: ∀r∈R,∀x∈r,x.dQ=true) (hm:c=m) (h:CvL H F σ nh r' r):CvO H F σ nh ⟨n,c,a⟩ ⟨n,m,rows⟩:=by
 subst e';subst e;subst hm;refine⟨rfl,rfl,by simp,fun _ h=>by simp at h,fun i d b=> ?_⟩;simp only[o5] at b ⊢;by_cases hi:i<R.length;·rw[if_pos hi] at b ⊢;exact⟨d,b,GW fun x g=>f d (s3 b) x g⟩
 ·rw[if_neg hi] at b ⊢;rw[bsH] at b ⊢;split at b;·rename_i j;cases b;exact⟨r,if_pos j,h⟩
  ·cases b
theorem ay5{F:Nat→Prop}{σ:Nat→Nat}{nh:Nat}{x y:D1} (a:x.dQ=true) (h:Cv1 H F σ nh x y):Frz H F x y:=by
 cases h with
 |frz h=>exact h
 |osl=>cases a
 |VS=>cases a
 |ptr=>cases a
 |omap=>cases a
 |clo=>cases a
 |dead=>cases a
variable{b ix:Nat}{live m s:List Nat}{L:List aY}{dst:Option Nat}{e:Env}{S:dJ}{xs:List aT}{lk:Bool}
theorem alH{K:Env→aA→Nat→Prop}{neg:Bool}:wv P b live K (⟨ix,dst,.xop (.qJ neg) xs,none,m,s,lk⟩::L) e H nx S=xl P (b+ix) (msk b m H) nx (DQ P b live K L dst m s e H S) (.qJ neg) (xs.map (·.ev e)):=aaO rfl
theorem anL{K:Env→aA→Nat→Prop}{n:Nat}:wv P b live K (⟨ix,dst,.xop (.copy n) xs,none,m,s,lk⟩::L) e H nx S=xl P (b+ix) (msk b m H) nx (DQ P b live K L dst m s e H S) (.copy n) (xs.map (·.ev e)):=aaO rfl
theorem amC{K:Env→aA→Nat→Prop}{n:Nat}{z:List D1}:wv P b live K (⟨ix,dst,.xop (.clear n z) xs,none,m,s,lk⟩::L) e H nx S=xl P (b+ix) (msk b m H) nx (DQ P b live K L dst m s e H S) (.clear n z) (xs.map (·.ev e)):=aaO rfl
theorem amI{K:Env→aA→Nat→Prop}{kn:Nat}{bl:Bool}:wv P b live K (⟨ix,dst,.xop (.DS kn bl) xs,none,m,s,lk⟩::L) e H nx S=xl P (b+ix) (msk b m H) nx (DQ P b live K L dst m s e H S) (.DS kn bl) (xs.map (·.ev e)):=aaO rfl
theorem agK{K:Env→aA→Nat→Prop}:wv P b live K (⟨ix,dst,.xop .sS xs,none,m,s,lk⟩::L) e H nx S=xl P (b+ix) (msk b m H) nx (DQ P b live K L dst m s e H S) .sS (xs.map (·.ev e)):=aaO rfl
theorem ag8{K:Env→aA→Nat→Prop}{kn:Nat}{bl ok:Bool}:wv P b live K (⟨ix,dst,.xop (.rA kn bl ok) xs,none,m,s,lk⟩::L) e H nx S=xl P (b+ix) (msk b m H) nx (DQ P b live K L dst m s e H S) (.rA kn bl ok) (xs.map (·.ev e)):=aaO rfl
theorem ag3{K:Env→aA→Nat→Prop}{kn:Nat}{bl:Bool}:wv P b live K (⟨ix,dst,.xop (.vM kn bl) xs,none,m,s,lk⟩::L) e H nx S=xl P (b+ix) (msk b m H) nx (DQ P b live K L dst m s e H S) (.vM kn bl) (xs.map (·.ev e)):=aaO rfl
theorem ak7{F:Nat→Prop}{σ:Nat→Nat}{nh n m d:Nat}{R a rows:List (List D1)}{r' r:List D1}{i:Nat} (e':a=R) (e:rows=R.set i r) (hi:R[i]?=some r') (k: ∀r∈R,∀x∈r,x.dQ=true) (hm:d=m) (h:CvL H F σ nh r' r):CvO H F σ nh ⟨n,d,a⟩ ⟨n,m,rows⟩:=by
 subst e';subst e;subst hm;refine⟨rfl,rfl,by simp,fun _ h=>by dsimp only at h ⊢;rw[h];rfl,fun j f b=> ?_⟩;simp only[D0];by_cases g:i=j;·subst g;have c:i<a.length:=(m3.1 b).1;rw[if_pos rfl,if_pos c];rw[hi] at b;cases b;exact⟨r,rfl,h⟩
 ·rw[if_neg g];exact⟨f,b,GW fun x l=>k f (s3 b) x l⟩
theorem atN{α:Type} [Inhabited α]{enc:α→List D1}{l:List α}{k:Nat} (h:k<l.length):(l.map enc)[k]?=some (enc (l.getD k default)):=by simp[List.getD,h]
theorem atL {c:Prop} [Decidable c] {A B:Prop} (a:c→A) (b: ¬c→B):if c then A else B:=by
 split;·exact a ‹_›
 ·exact b ‹_›
attribute [go_sem] alH anL amC amI agK ag8 ag3
end
theorem anJ {H:aA} {F:Nat→Prop} {σ:Nat→Nat} {nh n m d:Nat} {a rows junk:List (List D1)} (hi: ∀r∈a,∀x∈r,x.dQ=true) (h:rows=a++junk) (hm:d=m) (b:n≠0):CvO H F σ nh ⟨n,d,a⟩ ⟨n,m,rows⟩:=by subst h;subst hm;refine⟨rfl,rfl,by simp,fun e _=>absurd e b,fun i r c=> ?_⟩;refine⟨r,?_,GW fun x f=>hi r (s3 c) x f⟩;rw[brO (m3.1 c).1];exact c
end Go.AM
namespace Go.AM
@[reducible,go_sem] def rq (t:Nat) (o:AOp) (i:Nat):aY:=⟨i,some t,o,none,[],[],false⟩
@[reducible,go_sem] def rn (o:AOp) (i:Nat):aY:=⟨i,none,o,none,[],[],false⟩
@[reducible,go_sem] def ki (n:Int):aT:=.kv (.int .i64 n)
@[reducible,go_sem] def RM (t a i:Nat):aY:=rq t (.move (.tm a)) i
@[reducible,go_sem] def RF (t k a i:Nat):aY:=rq t (.fld k (.tm a)) i
@[reducible,go_sem] def RL (t a i:Nat):aY:=rq t (.load 1 false (.tm a)) i
@[reducible,go_sem] def RK (t a i:Nat):aY:=rq t (.tF (.tm a)) i
@[reducible,go_sem] def GQ (t:Nat) (o:AOp) (g:Nat) (b:Bool) (i:Nat):aY:=⟨i,some t,o,some (g,b),[],[],false⟩
@[reducible,go_sem] def VZ:D1:=.v (.int .i64 0)
@[reducible,go_sem] def OZ:D1:=.osl 0 0 0 0 0
def aN (P:Program) (f:FuncId) (fn:Func) (ac:AC) (rs:List aW):Prop:=
 ∀{args:List D} {H:aA} {nx:Nat} {b:D→aA→Nat→Prop} (_hl:Nat.ble args.length fn.ntmps=true)
  (_h: ∀Q:AQ,(∀ex c H2 a d nh d2 e F σ,ex= .normal∨ex= .ret→yT H2 c rs=some d→CvR nx d H2 nh d2 e F σ→b d2 e nh→Q ex c H2 a)→aM P fn.ntmps [ac] (Env.args 0 args) H nx Q),aB P f args H nx b
theorem aN.mk {P:Program} {f:FuncId} {fn:Func} {ac:AC} {rs:List aW} {cs:List Cert}
 (b:P.funcs[f]?=some fn) (a:qY P f=true) (hc:aO P fn cs=some (ac,rs)):aN P f fn ac rs:=
 fun hl h=>aB.body b a hc (boM hl) h
theorem dbT {p:Prop} [Decidable p] (h:p):D1.v (.bool (decide p))= .v (.bool true):=by rw[decide_eq_true h]
theorem dbE {p q:Prop} [Decidable p] [Decidable q] (h:p↔q):D1.v (.bool (decide p))= .v (.bool (decide q)):=by rw[decide_eq_decide.2 h]
theorem diE {a b:Int} (h:a=b):D1.v (.int .i64 a)= .v (.int .i64 b):=by rw[h]
abbrev bo0:=@arT
abbrev bo1:=@aqR
abbrev bo2:=@K6
abbrev bo3:=@oF
abbrev bo4:=@eP
abbrev bo5:=@aH
abbrev aUP:=@ay7
abbrev aUQ:=@ayY
abbrev bo6:=@lY
abbrev bo7:=@apS
abbrev bo8:=@aE
abbrev bo9:=@bB
abbrev bpA:=@afQ
abbrev bpB:=@aaF
abbrev bpC:=@afZ
abbrev bpD:=@aa6
abbrev bpE:=@xG
abbrev bpF:=@asF
abbrev bpG:=@YY
abbrev bpH:=@aeE
abbrev bpI:=@atL
abbrev bpJ:=@aqG
abbrev bpK:=@arS
abbrev bpL:=@asQ
abbrev bpM:=@ap6
abbrev Iw:=@IntWalk.i64_in
end Go.AM
namespace Go.AM
open Go.RowKit
inductive Tg (zs:List AC) (Q:AQ):Type where
 |mk
@[reducible] def bnG (P:Program) (T:Nat) (zs:List AC) (Q:AQ) (_:Tg zs Q):Env→aA→Nat→Prop:=fun e H nx=>aM P T zs e H nx Q
def vd (P:Program) (T:Nat) (x y:AC) (zs:List AC) (e:Env) (H:aA) (nx:Nat) (Q:AQ) (_:Tg (x::y::zs) Q) (d:D):Prop:=cK (aM P T (x::zs) e H nx Q) (aM P T (y::zs) e H nx Q) d
def vc (P:Program) (T:Nat):List AC→Env→aA→Nat→AQ→Prop
 | [],e,H,nx,Q=>Q .normal e H nx
 | .skip::zs,e,H,nx,Q=>aM P T zs e H nx Q
 | .region ops n live::zs,e,H,nx,Q=>wv P nx live (bnG P T zs Q .mk) ops e H (nx+n) []
 | .seq x y::zs,e,H,nx,Q=>aM P T (x::y::zs) e H nx Q
 | .cond c x y::zs,e,H,nx,Q=>vd P T x y zs e H nx Q .mk (c.ev e)
 | .block id x::zs,e,H,nx,Q=>aM P T [x] e H nx (AQ.blk id (bnG P T zs Q .mk) Q)
 | .loop x::zs,e,H,nx,Q=>aM P T (.loop x::zs) e H nx Q
 | .exit id::_,e,H,nx,Q=>Q (.exit id) e H nx
 | .ret::_,e,H,nx,Q=>Q .ret e H nx
section
variable {P : Program} {T : Nat} {live : List Nat} {ops : List aY} {n id : Nat} {c : aT} {e : Env} {H : aA} {nx : Nat} {Q : AQ} {x y : AC} {zs : List AC} {K : Env → aA → Nat → Prop}
theorem bn0 (h:aM P T zs e H nx Q):bnG P T zs Q .mk e H nx:=h
theorem bn1 (h:vc P T zs e H nx Q):aM P T zs e H nx Q:=by
 cases zs with
 |nil=>exact h
 |cons x zs=>
  cases x with
  |skip=>exact aM.skip h
  |region ops n live=>exact AWP.region h
  |seq x y=>exact aM.seq h
  |cond c x y=>
   refine aM.ar8 fun A B f hB=> ?_;have h:cK (aM P T (x::zs) e H nx Q) (aM P T (y::zs) e H nx Q) (c.ev e):=h;unfold cK at h;unfold cK;split at h;·rename_i t g;exact⟨fun b=>f (h.1 b),fun b=>hB (h.2 b)⟩
   ·exact h.elim
  |block id x=>
   refine aM.block fun K d=>AWP.mono h fun ex e' H' nx' _ a=> ?_
   cases ex with
   |normal=>exact d _ _ _ a
   |exit i=>
    simp only[AQ.then,AQ.blk] at a ⊢;split;·rename_i hi;rw[if_pos hi] at a;exact d _ _ _ a
    ·rename_i hi;rw[if_neg hi] at a;exact a
   |ret=>exact a
  |loop x=>exact h
  |exit id=>exact aM.exit h
  |ret=>exact aM.ret h
theorem bnP:vc P T [] e H nx Q=Q .normal e H nx:=rfl
theorem bnI:vc P T (.skip::zs) e H nx Q=aM P T zs e H nx Q:=rfl
theorem bnO:vc P T (.region ops n live::zs) e H nx Q=wv P nx live (bnG P T zs Q .mk) ops e H (nx+n) []:=rfl
theorem bnM:vc P T (.seq x y::zs) e H nx Q=aM P T (x::y::zs) e H nx Q:=rfl
theorem bnK:vc P T (.cond c x y::zs) e H nx Q=vd P T x y zs e H nx Q .mk (c.ev e):=rfl
theorem bnH:vc P T (.block id x::zs) e H nx Q=aM P T [x] e H nx (AQ.blk id (bnG P T zs Q .mk) Q):=rfl
theorem bnJ:vc P T (.exit id::zs) e H nx Q=Q (.exit id) e H nx:=rfl
theorem bnQ:vc P T (.ret::zs) e H nx Q=Q .ret e H nx:=rfl
theorem bnZ {g:Tg (x::y::zs) Q}:vd P T x y zs e H nx Q g (.one (.c (.v (.bool true))))=aM P T (x::zs) e H nx Q:=atF
theorem bnX {g:Tg (x::y::zs) Q}:vd P T x y zs e H nx Q g (.one (.c (.v (.bool false))))=aM P T (y::zs) e H nx Q:=as8
theorem bnT {g:Tg (x::y::zs) Q} {p:Prop} [Decidable p] (h:p):vd P T x y zs e H nx Q g (.one (.c (.v (.bool (decide p)))))=aM P T (x::zs) e H nx Q:=by rw[decide_eq_true h];exact atF
theorem bnU {g:Tg (x::y::zs) Q} {p:Prop} [Decidable p] (h: ¬p):vd P T x y zs e H nx Q g (.one (.c (.v (.bool (decide p)))))=aM P T (y::zs) e H nx Q:=by rw[decide_eq_false h];exact as8
theorem bnE {g:Tg (x::y::zs) Q} {p:Prop} [Decidable p] (a:p→aM P T (x::zs) e H nx Q) (b: ¬p→aM P T (y::zs) e H nx Q):vd P T x y zs e H nx Q g (.one (.c (.v (.bool (decide p))))):=atE a b
theorem bnF {g:Tg (x::y::zs) Q} {t:Bool} (a:t=true→aM P T (x::zs) e H nx Q) (b:t=false→aM P T (y::zs) e H nx Q):vd P T x y zs e H nx Q g (.one (.c (.v (.bool t)))):=atC a b
theorem bnN:AQ.then K Q .normal=K:=rfl
theorem bnL:AQ.then K Q .ret=Q .ret:=rfl
theorem bnS:AQ.then K Q (.exit id)=Q (.exit id):=rfl
theorem bnV {i:Nat}:AQ.blk i K Q .normal=K:=rfl
theorem bnW {i:Nat}:AQ.blk i K Q .ret=Q .ret:=rfl
theorem bw7 {i j:Nat} (h: ¬j=i):AQ.blk i K Q (.exit j)=Q (.exit j):=by simp[AQ.blk,h]
attribute [go_sem] bnZ bnX bnN bnL bnS bnV bnW
attribute [go_sem ↓] bnP bnI bnO bnM bnK bnH bnJ bnQ
end
def bnY (o:aY):Nat×List Nat×List Nat×Bool:=(o.ix,o.mask,o.amN,o.look)
def bnD:AC→List Cert
 | .region ops _ live=>[⟨ops.map bnY,live⟩]
 | .seq x y=>bnD x++bnD y
 | .cond _ x y=>bnD x++bnD y
 | .block _ x=>bnD x
 | .loop x=>bnD x
 |_=>[]
instance {n:Nat}:OfNat aT n:=⟨.tm n⟩
theorem bnR {n:Nat}:(OfNat.ofNat n:aT)= .tm n:=rfl
attribute [go_sem] bnR
section
variable {P : Program} {T : Nat} {e : Env} {H : aA} {nx : Nat} {Q : AQ} {x y : AC} {zs : List AC} {K : Env → aA → Nat → Prop}
theorem bn2 {g:Tg (x::y::zs) Q} {p:Prop} [Decidable p] (h:p) (a:aM P T (x::zs) e H nx Q):vd P T x y zs e H nx Q g (.one (.c (.v (.bool (decide p))))):=by rw[bnT h];exact a
theorem bn3 {g:Tg (x::y::zs) Q} {p:Prop} [Decidable p] (h: ¬p) (a:aM P T (y::zs) e H nx Q):vd P T x y zs e H nx Q g (.one (.c (.v (.bool (decide p))))):=by rw[bnU h];exact a
theorem bw9 {i j:Nat} (h:Nat.beq j i=false) (a:Q (.exit j) e H nx):AQ.blk i K Q (.exit j) e H nx:=by rw[bw7 (fun he=>by rw[he] at h;simp at h)];exact a
end
section
variable {H : aA} {F : Nat → Prop} {σ : Nat → Nat} {nh t : Nat} {e : Env} {l : List (Nat × D)}
theorem xqI {d:D} (a:d.imm=true) (he:e t=d) (h:CvE H F σ nh (en l) e):CvE H F σ nh (en ((t,d)::l)) e:=oF h (by rw[he];exact aE a)
theorem xqP {n a id row b:Nat} (hl:a<nh) (hs:σ a=id) (he:e t= .one (.c (.ptr n id row b))) (h:CvE H F σ nh (en l) e):CvE H F σ nh (en ((t,.one (.c (.ptr n a row b)))::l)) e:=oF h (by rw[he];exact apS (afZ hl hs))
theorem xqO {n b id off len a cap:Nat} (hl:b<nh) (hs:σ b=id) (he:e t= .one (.c (.osl n id off len cap))) (d:a=len) (h:CvE H F σ nh (en l) e):CvE H F σ nh (en ((t,.one (.c (.osl n b off a cap)))::l)) e:=oF h (by rw[he];exact apS (aaF hl hs rfl d rfl))
theorem xqV {a b:Int} (he:e t= .one (.c (.v (.int .i64 b)))) (d:a=b) (h:CvE H F σ nh (en l) e):CvE H F σ nh (en ((t,.one (.c (.v (.int .i64 a))))::l)) e:=oF h (by rw[he,d];exact aE rfl)
end
def vcR (P:Program) (T:Nat):List AC→Env→aA→Nat→AQ→Prop
 | .seq (.region ops n live) y::zs,e,H,nx,Q=>wv P nx live (bnG P T (y::zs) Q .mk) ops e H (nx+n) []
 |zs,e,H,nx,Q=>vc P T zs e H nx Q
section
variable {P : Program} {T : Nat} {live : List Nat} {ops : List aY} {n id : Nat} {c : aT} {e : Env} {H : aA} {nx : Nat} {Q : AQ} {x y : AC} {zs : List AC}
theorem boB (h:vcR P T zs e H nx Q):aM P T zs e H nx Q:=by
 unfold vcR at h;split at h;·exact aM.seq (AWP.region h)
 ·exact bn1 h
theorem boA:vcR P T (.seq (.region ops n live) y::zs) e H nx Q=wv P nx live (bnG P T (y::zs) Q .mk) ops e H (nx+n) []:=rfl
theorem bn9:vcR P T [] e H nx Q=vc P T [] e H nx Q:=rfl
theorem bn5:vcR P T (.skip::zs) e H nx Q=vc P T (.skip::zs) e H nx Q:=rfl
theorem bn8:vcR P T (.region ops n live::zs) e H nx Q=vc P T (.region ops n live::zs) e H nx Q:=rfl
theorem bn6:vcR P T (.cond c x y::zs) e H nx Q=vc P T (.cond c x y::zs) e H nx Q:=rfl
theorem Z8:vcR P T (.block id x::zs) e H nx Q=vc P T (.block id x::zs) e H nx Q:=rfl
theorem bn4:vcR P T (.exit id::zs) e H nx Q=vc P T (.exit id::zs) e H nx Q:=rfl
theorem bn7:vcR P T (.ret::zs) e H nx Q=vc P T (.ret::zs) e H nx Q:=rfl
attribute [go_sem ↓] boA bn9 bn5 bn8 bn6 Z8 bn4 bn7
end
theorem boC:(∀a b c:Nat,a+b+c=a+(b+c))∧(∀{a b:Nat},a=a+b↔b=0)∧ ∀{a b:Nat},a+b=a↔b=0:=⟨t1,bqT,bqV⟩
@[reducible,go_sem] def boD:aT:=.kv (.bool false)
@[reducible,go_sem] def boE:aT:=.kv (.bool true)
@[reducible,go_sem] def boF (t:Nat) (o:AOp) (m s:List Nat) (k:Bool) (i:Nat):aY:=⟨i,some t,o,none,m,s,k⟩
@[reducible,go_sem] def dA (t:Option Nat) (o:AOp) (g:Option (Nat×Bool)) (m s:List Nat) (k:Bool) (i:Nat):aY:=⟨i,t,o,g,m,s,k⟩
@[reducible,go_sem] def dI (t:Nat) (b:BinOp) (x y:aT) (i:Nat):aY:=rq t (.bin b x y) i
@[reducible,go_sem] def dO (t:Nat) (x:aT) (i:Nat):aY:=rq t (.move x) i
@[reducible,go_sem] def e0 (t n:Nat) (x y:aT) (i:Nat):aY:=rq t (.idx n x y) i
@[reducible,go_sem] def f1 (t:Nat) (x:aT) (i:Nat):aY:=rq t (.len false x) i
@[reducible,go_sem] def f3 (t:Nat) (c x y:aT) (i:Nat):aY:=rq t (.pick c x y) i
@[reducible,go_sem] def f4 (t:Nat) (x:aT) (i:Nat):aY:=rq t (.un .not x) i
@[reducible,go_sem] def f5 (t:Nat) (x:aT) (i:Nat):aY:=rq t (.box true x) i
@[reducible,go_sem] def f6 (t:Nat) (f:FuncId) (l:List aT) (i:Nat):aY:=rq t (.call f l) i
@[reducible,go_sem] def f7 (t:Nat) (l:List D1) (i:Nat):aY:=rq t (.alloc l) i
@[reducible,go_sem] def f8 (t n:Nat) (x:aT) (i:Nat):aY:=rq t (.load n true x) i
@[reducible,go_sem] def g0 (n:Nat) (b:Bool) (x y:aT) (i:Nat):aY:=rn (.store n b x y) i
@[reducible,go_sem] def g8 (t:Nat) (x:aT) (m s:List Nat) (k:Bool) (i:Nat):aY:=boF t (.load 1 false x) m s k i
@[reducible,go_sem] def g9 (t k:Nat) (x:aT) (g:Nat) (b:Bool) (i:Nat):aY:=GQ t (.fld k x) g b i
@[reducible,go_sem] def hD (t:Nat) (x:aT) (g:Nat) (b:Bool) (i:Nat):aY:=GQ t (.load 1 false x) g b i
@[reducible,go_sem] def hG (t:Nat) (x:aT) (g:Nat) (b:Bool) (i:Nat):aY:=GQ t (.move x) g b i
@[reducible,go_sem] def hO (t:Nat) (o:BinOp) (x y:aT) (g:Nat) (b:Bool) (i:Nat):aY:=GQ t (.bin o x y) g b i
@[reducible,go_sem] def hP (t:Nat) (x:aT) (g:Nat) (b:Bool) (i:Nat):aY:=GQ t (.un .not x) g b i
@[reducible,go_sem] def j0 (t n:Nat) (x y:aT) (g:Nat) (b:Bool) (i:Nat):aY:=GQ t (.idx n x y) g b i
def nb:Nat→List (Nat→aY)→List aY
 |_,[]=>[]
 |i,f::l=>f i::nb (i+1) l
def ln:List (Nat→aY)→Nat
 | []=>0
 |_::l=>ln l+1
theorem b5 {i:Nat}:nb i []=[]:=rfl
theorem b3 {i:Nat} {f:Nat→aY} {l:List (Nat→aY)}:nb i (f::l)=f i::nb (i+1) l:=rfl
theorem b4:ln []=0:=rfl
theorem b0 {f:Nat→aY} {l:List (Nat→aY)}:ln (f::l)=ln l+1:=rfl
attribute [go_sem] b5 b3 b4 b0
@[reducible] def m2 (ops:List (Nat→aY)) (live:List Nat):AC:=.region (nb 0 ops) (ln ops) live
@[reducible] def boG (ops:List (Nat→aY)) (live:List Nat) (y:AC):AC:=.seq (m2 ops live) y
end Go.AM
namespace Go.Proofs.YtdkfhdmagdaceaaGreat
open Go Go.AM
def bxI:Nat:=6
def E2:Nat:=33
def bxC:Nat:=34
def xN:Nat:=35
def C6:Nat:=36
def bsS:Nat:=37
def aI5:Nat:=38
def DB:Nat:=39
def tV:Nat:=40
def zX:Nat:=47
def aI6:Nat:=66
def aI0:Nat:=68
def iG:Nat:=75
def mW:Nat:=93
def uJ:Nat:=94
def cV:Nat:=95
def jF:Nat:=97
def bg9:Nat:=98
def bgR:Nat:=99
def bg8:Nat:=100
def bgN:Nat:=101
def bg7:Nat:=102
def bhG:Nat:=103
def bgM:Nat:=104
def wR:Nat:=105
def wD:Nat:=106
def rN:Nat:=107
def nI:Nat:=108
def kN:Nat:=109
def bgS:Nat:=110
def aD:Nat:=111
def eT:Nat:=112
def wK:Nat:=113
def jN:Nat:=114
def jM:Nat:=115
def oJ:Nat:=116
def bgZ:Nat:=117
def CS:Nat:=118
def aIV:Nat:=119
def aIU:Nat:=120
def aIY:Nat:=121
def aIT:Nat:=122
def aIZ:Nat:=123
def dN:Nat:=124
def zH:Nat:=125
def AE:Nat:=126
def kE:Nat:=127
def cG:Nat:=130
def bJ:Nat:=131
def B9:Nat:=133
def cQ:Nat:=138
def aA3:Nat:=140
def aNJ:Nat:=143
def bhA:Nat:=144
def y2:Nat:=149
def aIQ:Nat:=150
def aIX:Nat:=151
def aIN:Nat:=152
def aJS:Nat:=153
def aN2:Nat:=155
def aIR:Nat:=157
def aIM:Nat:=158
def wF:Nat:=163
def j9:Nat:=164
def fL:Nat:=165
def eX:Nat:=166
def eO:Nat:=167
def pL:Nat:=173
def rG:Nat:=181
def jK:Nat:=182
def iX:Nat:=183
def fY:Nat:=184
def fM:Nat:=185
def eK:Nat:=186
def mG:Nat:=188
def mM:Nat:=189
def n6:Nat:=190
def nX:Nat:=191
def bhB:Nat:=192
def bgQ:Nat:=193
def bX:Nat:=194
def rE:Nat:=195
def eY:Nat:=196
def jB:Nat:=197
def bN:Nat:=198
def rT:Nat:=199
def mZ:Nat:=200
def bhC:Nat:=201
def aVK:Nat:=202
def aVA:Nat:=203
def cE:Nat:=204
def qO:Nat:=205
def aBG:Nat:=206
def aI2:Nat:=207
def aI7:Nat:=208
def y3:Nat:=209
def aJX:Nat:=210
def aIP:Nat:=211
def cW:Nat:=212
def tQ:Nat:=213
def gL:Nat:=214
def wC:Nat:=215
def jC:Nat:=216
def lJ:Nat:=217
def tN:Nat:=220
def tS:Nat:=221
def v7:Nat:=222
def aKL:Nat:=227
def aAY:Nat:=228
def aA4:Nat:=229
def aAZ:Nat:=230
def W3:Nat:=231
def H5:Nat:=232
def v9:Nat:=233
def aIW:Nat:=234
def aI8:Nat:=235
def qK:Nat:=238
def cF:Nat:=239
def rR:Nat:=240
def cN:Nat:=241
def nH:Nat:=242
def oI:Nat:=243
def jA:Nat:=244
def iT:Nat:=245
def m6:Nat:=246
def fB:Nat:=247
def iD:Nat:=248
def gO:Nat:=249
def gG:Nat:=250
def fP:Nat:=257
def DA:Nat:=258
def fK:Nat:=259
def wP:Nat:=262
def rC:Nat:=263
def cO:Nat:=264
def kV:Nat:=265
def dV:Nat:=266
def dL:Nat:=267
def dE:Nat:=268
def cZ:Nat:=269
def eQ:Nat:=270
def eE:Nat:=271
def eA:Nat:=272
def eC:Nat:=273
def j8:Nat:=274
def bR:Nat:=275
def lX:Nat:=276
def tR:Nat:=277
def fF:Nat:=278
def qX:Nat:=279
def aU9:Nat:=280
def J2:Nat:=281
def eF:Nat:=282
def aBF:Nat:=283
def dK:Nat:=284
def cL:Nat:=285
def jW:Nat:=286
def lG:Nat:=287
def qM:Nat:=288
def v8:Nat:=289
def aA6:Nat:=290
def aAX:Nat:=291
def aNH:Nat:=292
def cT:Nat:=293
def dC:Nat:=294
def eS:Nat:=295
def eG:Nat:=296
def oS:Nat:=299
def gN:Nat:=300
def bZ:Nat:=301
def rQ:Nat:=302
def cM:Nat:=303
def iW:Nat:=304
def nJ:Nat:=305
def aA7:AC:= (boG [f5 3 1,dO 4 (ki 0)] [0,3] (.seq (boG [RM 6 0,f6 7 aBG [6],f4 8 7,RM 9 8,GQ 10 (.load 7 true 3) 9 false,GQ 11 (.call aBF [10]) 9 false,hP 12 11 9 false,f3 13 9 boE 12] [0,3,13] (.cond 13 (boG [rq 4 (.move (.kv (.int .i64 (-1))))] [4] .ret) .skip)) (boG [RM 14 0,RF 15 2 3,RL 16 15,RF 17 3 3,RL 18 17,RF 19 4 3,RL 20 19,f6 21 aAY [16,18,20],f6 22 aA4 [14,21],RM 5 22] [0,5] (.seq (boG [RM 23 5,dI 24 .lss 23 (ki 0)] [0,5,24] (.cond 24 (boG [dO 4 (ki 3)] [4] .ret) .skip)) (boG [RM 25 0,RM 26 5,e0 27 4 25 26,RF 28 2 27,RL 29 28,RM 4 29] [4] .ret)))))
def aBU:List aW:=[.tm 4]
theorem aCT:aO Tryz.prog Tryz.f209 (bnD aA7)=some (aA7,aBU):=by kernel_rfl
theorem aCQ:aN Tryz.prog y3 Tryz.f209 aA7 aBU:=aN.mk Tryz.func209 (by kernel_rfl) aCT
end Go.Proofs.YtdkfhdmagdaceaaGreat
