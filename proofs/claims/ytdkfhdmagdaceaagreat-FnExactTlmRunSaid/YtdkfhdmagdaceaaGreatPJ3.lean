/- Texts laid together by a program: rules, contracts and the walk that leads to the law. -/
import Derived.Test.YtdkfhdmagdaceaaGreatPJ2
import Derived.Lib.Overlaps
set_option linter.unusedVariables false
set_option linter.unusedSimpArgs false
set_option linter.unusedSectionVars false
set_option maxRecDepth 100000
set_option maxHeartbeats 8000000
namespace Go.AM
open Go.RowKit
def cK (A B:Prop):D→Prop
 | .one (.c (.v (.bool t)))=>(t=true→A)∧(t=false→B)
 |_=>False
section
variable {P : Program} {T : Nat} {b : Nat} {live : List Nat} {K : Env → aA → Nat → Prop} {L : List aY} {dst : Option Nat} {e : Env} {H : aA} {nx : Nat} {S : dJ} {Q : AQ} {x y z : AC} {zs : List AC}
theorem aM.ar8 {c:aT} (h: ∀A B:Prop,(aM P T (x::zs) e H nx Q→A)→(aM P T (y::zs) e H nx Q→B)→cK A B (c.ev e)):aM P T (.cond c x y::zs) e H nx Q:=by
 have h:=h _ _ id id;unfold cK at h;split at h;·rename_i t a;exact aM.cond a h.1 h.2
 ·exact h.elim
theorem atF{A B:Prop}:cK A B (.one (.c (.v (.bool true))))=A:=by simp[cK]
theorem as8{A B:Prop}:cK A B (.one (.c (.v (.bool false))))=B:=by simp[cK]
theorem atC {A B:Prop} {t:Bool} (a:t=true→A) (b:t=false→B):cK A B (.one (.c (.v (.bool t)))):=⟨a,b⟩
theorem asU {A B:Prop} {p:Prop} [Decidable p] (h:p) (a:A):cK A B (.one (.c (.v (.bool (decide p))))):=⟨fun _=>a,fun b=>by simp[h] at b⟩
theorem ar9 {A B:Prop} {p:Prop} [Decidable p] (h: ¬p) (a:B):cK A B (.one (.c (.v (.bool (decide p))))):=⟨fun b=>by simp[h] at b,fun _=>a⟩
theorem atE {A B:Prop} {p:Prop} [Decidable p] (a:p→A) (b: ¬p→B):cK A B (.one (.c (.v (.bool (decide p))))):=⟨fun h=>a (by simpa using h),fun h=>b (by simpa using h)⟩
def wvH (P:Program) (b:Nat) (live:List Nat) (K:Env→aA→Nat→Prop) (o:aY) (L:List aY) (t:Nat) (w:Bool) (e:Env) (H:aA) (nx:Nat) (S:dJ):D→Prop
 | .one (.c (.v (.bool x)))=>if x=w then wv P b live K (o::L) (e.set t (.one (.c (.v (.bool x))))) H nx S else wv P b live K L ((e.set t (.one (.c (.v (.bool x))))).put o.dst (.tup [])) H nx S
 | .tup []=>wv P b live K L (e.put o.dst (.tup [])) H nx S
 |_=>False
variable{t:Nat}
theorem Env.amG{e:Env}{d:D} (h:e t=d):e.set t d=e:=by
 funext i;simp only[Env.set];split;·rename_i hi;rw[hi,h]
 ·rfl
variable{ix:Nat}{m s:List Nat}{k:Bool}
theorem atA{w:Bool}{op:AOp}:wv P b live K (⟨ix,dst,op,some (t,w),m,s,k⟩::L) e H nx S=wvH P b live K ⟨ix,dst,op,none,m,s,k⟩ L t w e H nx S (e t):=by
 rw[as9];generalize he:e t=d;by_cases a: ∃x,d= .one (.c (.v (.bool x)));·obtain⟨x,rfl⟩:=a;simp only[wvG,wvH];rw[Env.amG he]
 ·by_cases hu:d= .tup [];·subst hu;rfl
  ·unfold wvG wvH;split;·exact absurd ⟨_,rfl⟩ a
   ·exact absurd rfl hu
   ·split;·exact absurd ⟨_,rfl⟩ a
    ·exact absurd rfl hu
    ·rfl
theorem ar6{o:aY}{w:Bool}:wvH P b live K o L t w e H nx S (.tup [])=wv P b live K L (e.put o.dst (.tup [])) H nx S:=rfl
theorem arM{o:aY}:wvH P b live K o L t true e H nx S (.one (.c (.v (.bool true))))=wv P b live K (o::L) (e.set t (.one (.c (.v (.bool true))))) H nx S:=rfl
theorem aqK{o:aY}:wvH P b live K o L t true e H nx S (.one (.c (.v (.bool false))))=wv P b live K L ((e.set t (.one (.c (.v (.bool false))))).put o.dst (.tup [])) H nx S:=rfl
theorem aqZ{o:aY}:wvH P b live K o L t false e H nx S (.one (.c (.v (.bool true))))=wv P b live K L ((e.set t (.one (.c (.v (.bool true))))).put o.dst (.tup [])) H nx S:=rfl
theorem aqF{o:aY}:wvH P b live K o L t false e H nx S (.one (.c (.v (.bool false))))=wv P b live K (o::L) (e.set t (.one (.c (.v (.bool false))))) H nx S:=rfl
theorem ap6 {o:aY} {t:Nat} {w u:Bool} (a:u=true→wvH P b live K o L t w e H nx S (.one (.c (.v (.bool true))))) (d:u=false→wvH P b live K o L t w e H nx S (.one (.c (.v (.bool false))))):
 wvH P b live K o L t w e H nx S (.one (.c (.v (.bool u)))):=by
 cases u with
 |true=>exact a rfl
 |false=>exact d rfl
theorem aqG {o:aY} {t:Nat} {w:Bool} {p:Prop} [Decidable p] (h:p) (a:wvH P b live K o L t w e H nx S (.one (.c (.v (.bool true))))):wvH P b live K o L t w e H nx S (.one (.c (.v (.bool (decide p))))):=by rw[decide_eq_true h];exact a
theorem arS {o:aY} {t:Nat} {w:Bool} {p:Prop} [Decidable p] (h: ¬p) (a:wvH P b live K o L t w e H nx S (.one (.c (.v (.bool false))))):wvH P b live K o L t w e H nx S (.one (.c (.v (.bool (decide p))))):=by rw[decide_eq_false h];exact a
theorem asQ {o:aY} {t:Nat} {w:Bool} {p:Prop} [Decidable p] (a:p→wvH P b live K o L t w e H nx S (.one (.c (.v (.bool true))))) (d: ¬p→wvH P b live K o L t w e H nx S (.one (.c (.v (.bool false))))):
 wvH P b live K o L t w e H nx S (.one (.c (.v (.bool (decide p))))):=
 ap6 (fun h=>a (by simpa using h)) (fun h=>d (by simpa using h))
theorem am5{z:List D1}:wv P b live K (⟨ix,dst,.alloc z,none,m,s,k⟩::L) e H nx S=wvA P b live K L dst (b+ix) e H nx S (lT (b+ix) e (.alloc z)):=am2 rfl
theorem aqH{g:Bool}{x:aT}:wv P b live K (⟨ix,dst,.box g x,none,m,s,k⟩::L) e H nx S=wvA P b live K L dst (b+ix) e H nx S (lT (b+ix) e (.box g x)):=am2 rfl
theorem ag2{n len:Nat}{z:List D1}{a:List (Nat×Nat×aT)}:wv P b live K (⟨ix,dst,.bC n len z a,none,m,s,k⟩::L) e H nx S=wvA P b live K L dst (b+ix) e H nx S (lT (b+ix) e (.bC n len z a)):=am2 rfl
theorem abU{n:Nat}{z:List D1}{x y:aT}:wv P b live K (⟨ix,dst,.kY n z x y,none,m,s,k⟩::L) e H nx S=wvA P b live K L dst (b+ix) e H nx S (lT (b+ix) e (.kY n z x y)):=am2 rfl
theorem apC{id:Nat}{st:List Nat}{c:Prop} [Decidable c]{a:Nat}{x:Option (Option Nat×Nat×Nat×List (List D1))}:wvP P b live K L dst id m st e H nx S a (if c then x else none)=(c∧wvP P b live K L dst id m st e H nx S a x):=by split<;>rename_i h<;>simp[h,wvP]
theorem aq4{n i off len cap:Nat}:amE (.one (.c (.osl n i off len cap)))=cap:=rfl
theorem W0{st:List Nat}:lU [] st H=True:=by simp[lU]
theorem W5{p:Nat}{g:aA→Prop}{st:List Nat}:lU ((p,g)::S) st H=((p∈st→g H)∧lU S st H):=by simp[lU]
theorem aiG{k:XK}{l:List aT}:aU H e (.xop k l)=xq k (l.map (·.ev e)):=rfl
def ak0 (P:Program) (args:List D) (H:aA) (nx:Nat) (R:D→aA→Nat→Prop):D→Prop
 | .one (.c (.clo f caps))=>aB P f (args++caps.map fun d=>.one (.c d)) H nx R
 |_=>False
theorem am1{f:aT}{xs:List aT}:wv P b live K (⟨ix,dst,.t5 f xs,none,m,s,k⟩::L) e H nx S=ak0 P (xs.map (·.ev e)) (msk b m H) nx (DQ P b live K L dst m s e H S) (f.ev e):=by
 unfold wv;simp only[avc,l8,vI,aop,AOp.kind,HX];generalize f.ev e=d;unfold ak0;split;·simp only[D.one.injEq,DV.c.injEq,D1.clo.injEq,eq_iff_iff];exact⟨by rintro⟨_,_,⟨rfl,rfl⟩,h⟩;exact h,fun h=>⟨_,_,⟨rfl,rfl⟩,h⟩⟩
 ·rename_i a;simp only[eq_iff_iff,iff_false];rintro⟨f,caps,rfl,_⟩;exact a f caps rfl
section
variable {id i kn : Nat} {bl ok : Bool} {R : D → aA → Nat → Prop} {m : mH} {l : List Int} {n : Int} {k v : D}
theorem alB:xl P id H nx R (.DS kn bl) []=R (.one (.c (.omap id))) (H.set id (u4 ⟨kn,bl,[]⟩)) nx:=rfl
theorem ahU:xl P id H nx R .sS [.one (.c (.omap i))]=xlL H nx R (I7 H i):=rfl
theorem aeF:xl P id H nx R .sS [.one (.c (.MY m))]=xlL H nx R (some m):=rfl
theorem acY:xl P id H nx R (.rA kn bl ok) [.one (.c (.MY m)),k]=xlG H nx R kn bl ok (some m) (OA kn k):=rfl
theorem agY:xl P id H nx R (.rA kn bl ok) [.one (.c (.omap i)),k]=xlG H nx R kn bl ok (I7 H i) (OA kn k):=rfl
theorem agN:xl P id H nx R (.vM kn bl) [.one (.c (.omap i)),k,v]=xlS H nx R kn bl i (I7 H i) (OA kn k) (S4 bl v):=rfl
theorem akW:xlL H nx R (some m)=R (.one (.c (.v (.int .i64 m.m.length)))) H nx:=rfl
theorem ar3:xlG H nx R kn bl true (some m) (some l)=((m.kn=kn∧m.bl=bl∧l.length=zV kn)∧R (.tup [.c (.v (elemV bl ((jT m.m l).getD 0))),.c (.v (.bool (jT m.m l).isSome))]) H nx):=rfl
theorem asJ:xlG H nx R kn bl false (some m) (some l)=((m.kn=kn∧m.bl=bl∧l.length=zV kn)∧R (.one (.c (.v (elemV bl ((jT m.m l).getD 0))))) H nx):=rfl
theorem alO:xlS H nx R kn bl i (some m) (some l) (some n)=((m.kn=kn∧m.bl=bl∧l.length=zV kn)∧R .dead (H.set i (u4 ⟨kn,bl,vA m.m l n⟩)) nx):=rfl
theorem akH:I7 H i=(H i).bind anD:=rfl
theorem amZ {cs:List D1}:OA kn (.one (.agg cs))=if kn=0 then none else xY cs:=rfl
theorem arU:OA kn (.one (.c (.v (.int .i64 n))))=if kn=0 then some [n] else none:=rfl
theorem aoM {b:Bool}:S4 bl (.one (.c (.v (.bool b))))=if bl then some (if b then 1 else 0) else none:=rfl
theorem apQ:S4 bl (.one (.c (.v (.int .i64 n))))=if bl then none else some n:=rfl
theorem anS:elemV true n= .bool (decide (n≠0)):=rfl
theorem aoQ:elemV false n= .int .i64 n:=rfl
theorem ai1:xY []=some []:=rfl
theorem ad0 {r:List D1}:xY (.v (.int .i64 n)::r)=(xY r).map (n:: ·):=rfl
theorem aqT {xs ys:List D1} {g:Bool} {q:Nat}:xq (.aeq g q) [.one (.agg xs),.one (.agg ys)]=eqD g q xs ys (xY xs) (xY ys):=rfl
theorem al8 {xs ys:List D1} {q:Nat} {a b:List Int}:eqD false q xs ys (some a) (some b)=if xs.length=q∧ys.length=q then some (.one (.c (.v (.bool (decide (a=b)))))) else none:=rfl
theorem aoY {xs ys:List D1} {q:Nat} {a b:List Int}:eqD true q xs ys (some a) (some b)=if xs.length=q∧ys.length=q then some (.one (.c (.v (.bool (decide (¬a=b)))))) else none:=rfl
theorem apG:zV kn=if kn=0 then 1 else kn:=rfl
end
theorem GH{F:Nat→Prop}{σ:Nat→Nat}{nh:Nat}{x a:mH} (h:a=x):CvO H F σ nh (u4 a) (u4 x):=by subst h;exact bS fun r hr=>by cases hr
theorem ahX{f:FuncId}{caps:List D1}{args:List D}{R:D→aA→Nat→Prop}:ak0 P args H nx R (.one (.c (.clo f caps)))=aB P f (args++caps.map fun d=>.one (.c d)) H nx R:=rfl
theorem atD{a b:Int}:(a==b)=decide (a=b):=by by_cases h:a=b<;>simp[h]
theorem atH{a b:Int}:(a != b)=decide (¬a=b):=by by_cases h:a=b<;>simp[h]
theorem as6{p:Prop} [Decidable p]:(!decide p)=decide (¬p):=by by_cases h:p<;>simp[h]
theorem ak2{α:Type}{enc:α→List D1}{l:List α}{x:α}:l.map enc++[enc x]=(l++[x]).map enc:=by simp
theorem akQ{α:Type}{enc:α→List D1}{l:List α}{k:Nat}:(l.map enc).take k=(l.take k).map enc:=(br7).symm
theorem ajN{α:Type}{enc:α→List D1}{l:List α}{k:Nat}:(l.map enc).drop k=(l.drop k).map enc:=(List.map_drop).symm
end
abbrev boP (n:Int):D:=.one (.c (.v (.int .i64 n)))
abbrev dB (b:Bool):D:=.one (.c (.v (.bool b)))
abbrev dS (rows:List (List D1)):D:=.one (.c (.isl rows))
abbrev boQ (n id len cap:Nat):D:=.one (.c (.osl n id 0 len cap))
abbrev bkP (n id:Nat):D:=.one (.c (.ptr n id 0 0))
abbrev boR (cs:List D1):D:=.one (.agg cs)
abbrev cI (n:Int):D1:=.v (.int .i64 n)
abbrev cB (b:Bool):D1:=.v (.bool b)
def aJ (x:Int):List D1:=[.v (.int .i64 x)]
theorem q9 {p:Prop} [Decidable p] (h:p):dB true=dB (decide p):=by rw[decide_eq_true h]
theorem j7 {p:Prop} [Decidable p] (h: ¬p):dB false=dB (decide p):=by rw[decide_eq_false h]
theorem pD {p q:Prop} [Decidable p] [Decidable q] (h:p↔q):dB (decide p)=dB (decide q):=by rw[decide_eq_decide.2 h]
theorem qA {a b:Int} (h:a=b):boP a=boP b:=by rw[h]
theorem ak8 {l:List Int} {x:Int}:l.map aJ++[[.v (.int .i64 x)]]=(l++[x]).map aJ:=by simp[aJ]
theorem apF {l:List Int} {i:Nat} {x:Int}:(l.map aJ).set i [.v (.int .i64 x)]=(l.set i x).map aJ:=by rw[List.map_set];rfl
attribute [go_sem] ak8 apF
section
variable {rows : List (List D1)} {k k' k'' : IntKind} {a b c : Int} {n m id off len cap : Nat}
theorem arX:sJ n (.one (.c (.isl rows))) none (some (.one (.c (.v (.int k a))))) none=if (0≤a∧a≤rows.length)∧(∀r∈rows,r.length=n) then some (.one (.c (.isl (rows.take a.toNat)))) else none:=by
 by_cases boS: ∀r∈rows,r.length=n;·by_cases b:0≤a<;>simp only[sJ,EA,b,eq_true boS,if_true,if_false,reduceIte,and_true,and_false,true_and,false_and]<;>(repeat' split)<;>first|rfl| (exfalso;omega)| (simp only[bq5,Nat.sub_zero,Option.some.injEq,D.one.injEq,DV.c.injEq,D1.isl.injEq];first|rfl|exact boL (by simp)|exact boL (m5 _))
 ·by_cases b:0≤a<;>simp only[sJ,EA,b,eq_false boS,if_true,if_false,reduceIte,and_true,and_false,true_and,false_and]<;>(repeat' split)<;>first|rfl| (exfalso;omega)| (simp only[bq5,Nat.sub_zero,Option.some.injEq,D.one.injEq,DV.c.injEq,D1.isl.injEq];first|rfl|exact boL (by simp)|exact boL (m5 _))
theorem arK:sJ n (.one (.c (.osl m id off len cap))) none (some (.one (.c (.v (.int k a))))) none=if (m=n∨cap=0)∧0≤a∧a≤cap then some (.one (.c (.osl n id off a.toNat cap))) else none:=by by_cases b:0≤a<;>simp only[sJ,EA,ZU,b,if_true,if_false,reduceIte,and_true,true_and,and_false,false_and]<;>(repeat' split)<;>first| (exfalso;omega)| (simp;done)| (simp;omega)
theorem arB:sJ n (.one (.c (.osl m id off len cap))) (some (.one (.c (.v (.int k a))))) none none=if (m=n∨cap=0)∧0≤a∧a≤len∧len≤cap then some (.one (.c (.osl n id (off+a.toNat) (len-a.toNat) (cap-a.toNat)))) else none:=by by_cases b:0≤a<;>simp only[sJ,EA,ZU,b,if_true,if_false,reduceIte,and_true,true_and,and_false,false_and]<;>(repeat' split)<;>first| (exfalso;omega)| (simp;done)| (simp;omega)
theorem apA:sJ n (.one (.c (.osl m id off len cap))) (some (.one (.c (.v (.int k a))))) (some (.one (.c (.v (.int k' b))))) none=if (m=n∨cap=0)∧0≤a∧a≤b∧b≤cap then some (.one (.c (.osl n id (off+a.toNat) (b.toNat-a.toNat) (cap-a.toNat)))) else none:=by by_cases d:0≤a<;>by_cases e:0≤b<;>simp only[sJ,EA,ZU,d,e,if_true,if_false,reduceIte,and_true,true_and,and_false,false_and]<;>(repeat' split)<;>first| (exfalso;omega)| (simp;done)| (simp;omega)
theorem aoL:sJ n (.one (.c (.osl m id off len cap))) none (some (.one (.c (.v (.int k a))))) (some (.one (.c (.v (.int k' b)))))=if (m=n∨cap=0)∧0≤a∧a≤b∧b≤cap then some (.one (.c (.osl n id off a.toNat b.toNat))) else none:=by by_cases d:0≤a<;>by_cases e:0≤b<;>simp only[sJ,EA,ZU,d,e,if_true,if_false,reduceIte,and_true,true_and,and_false,false_and]<;>(repeat' split)<;>first| (exfalso;omega)| (simp;done)| (simp;omega)
theorem akE:sJ n (.one (.c (.osl m id off len cap))) (some (.one (.c (.v (.int k a))))) (some (.one (.c (.v (.int k' b))))) (some (.one (.c (.v (.int k'' c)))))=if (m=n∨cap=0)∧0≤a∧a≤b∧b≤c∧c≤cap then some (.one (.c (.osl n id (off+a.toNat) (b.toNat-a.toNat) (c.toNat-a.toNat)))) else none:=by by_cases d:0≤a<;>by_cases e:0≤b<;>by_cases f:0≤c<;>simp only[sJ,EA,ZU,d,e,f,if_true,if_false,reduceIte,and_true,true_and,and_false,false_and]<;>(repeat' split)<;>first| (exfalso;omega)| (simp;done)| (simp;omega)
end
attribute [go_sem] arX arK arB apA aoL akE true_or or_true
def en:List (Nat×D)→Env
 | []=>Env.nil
 | (t,d)::l=>(en l).set t d
theorem arY:en []=Env.nil:=rfl
theorem aoG {t:Nat} {d:D} {l:List (Nat×D)}:en ((t,d)::l)=(en l).set t d:=rfl
def hp:List (Nat×bA)→aA
 | []=>aA.nil
 | (i,o)::l=>(hp l).set i o
theorem arI:hp []=aA.nil:=rfl
theorem anY {i:Nat} {o:bA} {l:List (Nat×bA)}:hp ((i,o)::l)=(hp l).set i o:=rfl
def DV.imm:DV→Bool
 | .c d=>d.dQ
 | .agg a=>a.all D1.dQ
def D.imm:D→Bool
 | .one x=>x.imm
 | .tup xs=>xs.all DV.imm
 | .dead=>false
section
variable {P : Program} {H G : aA} {F : Nat → Prop} {σ : Nat → Nat} {nx nh : Nat} {e e' : Env}
theorem YP{τ:Nat→Nat}{d:D1} (h:d.dQ=true):rn1 τ d=d:=by cases d<;>first|rfl|cases h
theorem af4{τ:Nat→Nat}{d:DV} (h:d.imm=true):rnV τ d=d:=by
 cases d with
 |c d=>simp only[rnV];rw[YP h]
 |agg a=>
  simp only[rnV];congr 1;have b:=w2.1 h;conv=>rhs;rw[←brT a]
  exact brC fun x e=>YP (b x e)
theorem af7{τ:Nat→Nat}{d:D} (h:d.imm=true):rnD τ d=d:=by
 cases d with
 |one x=>simp only[rnD];rw[af4 h]
 |dead=>rfl
 |tup xs=>
  simp only[rnD];congr 1;have a:=w2.1 h;conv=>rhs;rw[←brT xs]
  exact brC fun x b=>af4 (a x b)
theorem al1{d:DV} (h:d.imm=true):CvV H F σ nh d d:=by
 cases d with
 |c d=>exact bB h
 |agg b=>exact GW fun x a=>w2.1 h x a
theorem aE {d:D} (h:d.imm=true):CvD H F σ nh d d:=by
 cases d with
 |one x=>exact al1 h
 |dead=>trivial
 |tup xs=>refine⟨rfl,fun i a b c e=> ?_⟩;rw[c] at e;cases e;exact al1 (w2.1 h a (s3 c))
theorem aB.fresh{f:FuncId}{args:List D}{K:D→aA→Nat→Prop}{R:D→Prop} (h:aB P f args .nil 0 fun r _ n=>n=0∧r.imm=true∧R r) (a:args.all D.imm=true) (e: ∀r,R r→K r H nx):aB P f args H nx K:=by
 refine aB.lift h id rfl (fun i g d b c=> ?_) PS (fun i hi=>absurd hi (bq2 i)) (fun i j hi=>absurd hi (bq2 i)) fun r H' l _ ⟨b,c,k⟩=> ?_;·rw[b] at c;cases c;exact aE (w2.1 a g (s3 b))
 ·subst b;rw[af7 c];exact e r k
theorem V4{Q:AQ}{rs:List aW}{R:D→Prop} (f: ∀ex c a b d nh d2 g F σ,ex=AEx.normal∨ex=AEx.ret→yT a c rs=some d→CvR 0 d a nh d2 g F σ→(nh=0∧d2.imm=true∧R d2)→Q ex c a b)
 {c:Env} {a:aA} {b:Nat} (e d:D) (h:yT a c rs=some d) (i:CvD a (fun _=>True) id 0 e d) (j:e.imm=true) (k:R e):Q .ret c a b:=
 f _ _ _ _ d 0 e .nil (fun _=>True) id (.inr rfl) h ⟨m5 _,fun _ _=>rfl,i,PS⟩ ⟨rfl,j,k⟩
def alR (n:Nat) (rows:List (List D1)):Prop:=∀r∈rows,r.length=n∧ ∀x∈r,x.dQ=true
variable{n:Nat}
theorem aG{α:Type}{enc:α→List D1} (h: ∀x,(enc x).length=n∧(enc x).all D1.dQ=true) (l:List α):alR n (l.map enc):=by intro r hr;obtain⟨x,_,rfl⟩:=CF.1 hr;exact⟨(h x).1,w2.1 (h x).2⟩
variable{rows:List (List D1)}{len cap:Nat}
theorem XN{id:Nat}{o:bA} (hi:alR n rows) (hl:len=rows.length) (d:F id) (e:H id=some o) (f:o.n=n) (hr:o.rows.take rows.length=rows) (g:rows.length≤cap):Cv1 H F σ nh (.isl rows) (.osl n id 0 len cap):=by
 subst hl;have hle:rows.length≤o.rows.length:=by have:=congrArg List.length hr;rw[CG] at this;omega
 have k: ∀i:Nat,∀r',rows[i]?=some r'→o.rows[i]?=some r':=by
  intro i r' h;rw[←hr,s4] at h;split at h;·exact h
  ·cases h
 refine .frz (.frz rows n id 0 cap o (fun i j=>((rows[i]?.getD [])[j]?).getD .dead) d e f (by omega) g (fun i r' h=>(hi r' (s3 h)).1) (fun i j r' c a b=>⟨r',by rw[Y4];exact k i r' a,by rw[a];simp[b]⟩) fun i j r' c a b=> ?_);rw[a];simp only[Option.getD_some,b];exact .same c ((hi r' (s3 a)).2 c (s3 b))
theorem xG {n id off:Nat}:Cv1 H F σ nh (.isl []) (.osl n id off 0 0):=.frz (.nil n id off)
theorem aaF {n id d off a len b cap c:Nat} (h:d<nh) (e:σ d=id) (f:a=off) (g:b=len) (i:c=cap):Cv1 H F σ nh (.osl n d a b c) (.osl n id off len cap):=by subst f;subst g;subst i;exact an2 h e
theorem DJ{id:Nat}{o:bA} (hi:alR n rows) (hl:len=rows.length) (a:F id) (b:H id=some o) (d:o.n=n) (hr:o.rows.take rows.length=rows) (e:rows.length≤cap):CvD H F σ nh (dS rows) (.one (.c (.osl n id 0 len cap))):=XN hi hl a b d hr e
theorem qS{id e off a b d:Nat} (h:e<nh) (f:σ e=id) (g:a=off) (i:b=len) (j:d=cap):CvD H F σ nh (.one (.c (.osl n e a b d))) (.one (.c (.osl n id off len cap))):=aaF h f g i j
theorem DG{id a row b:Nat} (h:a<nh) (d:σ a=id):CvD H F σ nh (.one (.c (.ptr n a row b))) (.one (.c (.ptr n id row b))):=afZ h d
theorem YY {f:FuncId} {caps:List D1} (h:caps.all D1.dQ=true):Cv1 H F σ nh (.clo f caps) (.clo f caps):=
 .clo f caps caps rfl fun i x y a b=>by rw[a] at b;cases b;have:=w2.1 h x (s3 a);exact .inl ⟨this,.same x this⟩
theorem kC{f:FuncId}{caps:List D1} (h:caps.all D1.dQ=true):CvD H F σ nh (.one (.c (.clo f caps))) (.one (.c (.clo f caps))):=YY h
def amT (H:aA) (F:Nat→Prop):List D1→List D1→Prop
 | [],[]=>True
 |x::xs,y::ys=>(x.dQ=true∧Frz H F x y)∧amT H F xs ys
 |_,_=>False
theorem BZ: ∀{xs ys:List D1},amT H F xs ys→xs.length=ys.length∧ ∀(i:Nat) (x y:D1),xs[i]?=some x→ys[i]?=some y→x.dQ=true∧Frz H F x y
 | [],[],_=>⟨rfl,fun i x y h=>by simp at h⟩
 |a::xs,b::ys,h=>⟨by simp[(BZ h.2).1],fun i x y c d=>by
  match i with
  |0=>simp at c d;subst c;subst d;exact h.1
  |i+1=>exact(BZ h.2).2 i x y (by simpa using c) (by simpa using d)⟩
 | [],_::_,h=>h.elim
 |_::_,[],h=>h.elim
theorem PR{f:FuncId}{a caps:List D1} (h:amT H F a caps):CvD H F σ nh (.one (.c (.clo f a))) (.one (.c (.clo f caps))):=
 .clo f caps a (BZ h).1 fun i x y b d=>.inl ((BZ h).2 i x y b d)
theorem zE{cells:List D1}{id:Nat}{o:bA} (hi:cells.all D1.dQ=true) (b:F id) (c:H id=some o) (d:o.n=n) (hr:o.rows[0]?=some cells):(D1.fQ cells).dQ=true∧Frz H F (.fQ cells) (.ptr n id 0 0):=
 ⟨rfl,.ptr cells n id 0 0 o cells (fun j=>(cells[j]?).getD .dead) b c d hr (fun j a h=>by simp[h]) (fun j a h=>by
  simp only[h,Option.getD_some]
  exact .same a (w2.1 hi a (s3 h)))⟩
theorem aeE {cells:List D1} {n id:Nat} {o:bA} (hi:cells.all D1.dQ=true) (a:F id) (b:H id=some o) (d:o.n=n) (hr:o.rows[0]?=some cells):CvD H F σ nh (.one (.c (.fQ cells))) (.one (.c (.ptr n id 0 0))):=
 .frz (zE hi a b d hr).2
theorem bU (hle:nx≤nh) (h:CvE H (fun _=>True) id nh e' e): ∃F σ,Cv nx e H nh e' .nil F σ:=⟨fun _=>True,id,hle,fun _ _=>rfl,h,PS⟩
def ap5 (H:aA):List D→List D→Prop
 | [],[]=>True
 |a::l0,d::l=>CvD H (fun _=>True) id 0 a d∧ap5 H l0 l
 |_,_=>False
theorem aI: ∀{l0 l:List D},ap5 H l0 l→∀(i:Nat) (c d:D),l0[i]?=some c→l[i]?=some d→CvD H (fun _=>True) id 0 c d
 | [],[],_,i,c,d,e,_=>by simp at e
 |a::l0,b::l,h,i,c,d,e,f=>by
  match i with
  |0=>simp at e f;subst e;subst f;exact h.1
  |i+1=>exact aI h.2 i c d (by simpa using e) (by simpa using f)
 | [],_::_,h,_,_,_,_,_=>h.elim
 |_::_,[],h,_,_,_,_,_=>h.elim
theorem yP{α:Type}{enc:α→List D1}{l:List α}{id m:Nat} (he: ∀x,(enc x).length=n∧(enc x).all D1.dQ=true) (a:H id=some ⟨n,m,l.map enc⟩) (hl:len=l.length) (d:l.length≤cap) (b:F id):CvD H F σ nh (dS (l.map enc)) (.one (.c (.osl n id 0 len cap))):=DJ (aG he l) (by simp[hl]) b a rfl (boL (m5 _)) (by simp;omega)
theorem oF {t:Nat} {d:D} {l:List (Nat×D)} (h:CvE H F σ nh (en l) e) (a:CvD H F σ nh d (e t)):CvE H F σ nh (en ((t,d)::l)) e:=anZ h a
theorem K6:CvE H F σ nh (en []) e:=fun _=>trivial
def sgL (nx:Nat) (s:List Nat) (i:Nat):Nat:=if i<nx then i else (s[i-nx]?).getD i
def OkO (H:aA) (F:Nat→Prop) (σ:Nat→Nat) (nh:Nat):List (Nat×bA)→Prop
 | []=>True
 |p::l=>(p.1<nh∧ ¬F (σ p.1)∧ ∃o,H (σ p.1)=some o∧CvO H F σ nh p.2 o)∧OkO H F σ nh l
theorem XC: ∀{l:List (Nat×bA)} {i:Nat} {o:bA},hp l i=some o→(i,o)∈l
 | [],i,o,h=>by simp[hp,aA.nil] at h
 | (j,p)::l,i,o,h=>by
   simp only[hp,aA.set] at h;split at h;·rename_i hi;cases h;subst hi;simp
   ·exact bq9 _ (XC h)
theorem af2: ∀{l:List (Nat×bA)},OkO H F σ nh l→∀p∈l,p.1<nh∧ ¬F (σ p.1)∧ ∃o,H (σ p.1)=some o∧CvO H F σ nh p.2 o
 | [],_,p,hp=>by simp at hp
 |q::l,h,p,hp=>by
  rcases t3.1 hp with rfl|hp;·exact h.1
  ·exact af2 h.2 p hp
variable{l:List (Nat×bA)}
theorem ahG (h:(l.map fun p=>σ p.1).Nodup){p q:Nat×bA} (d:p∈l) (e:q∈l) (he:σ p.1=σ q.1):p=q:=by
 induction l with
 |nil=>simp at d
 |cons a l f=>
  simp only[n3,bq8] at h;rcases t3.1 d with b|b<;>rcases t3.1 e with c|c;·rw[b,c]
  ·subst b;exact absurd (CF.2 ⟨q,c,he.symm⟩:σ p.1∈l.map fun p=>σ p.1) h.1
  ·subst c;exact absurd (CF.2 ⟨p,b,he⟩:σ q.1∈l.map fun p=>σ p.1) h.1
  ·exact f h.2 b c
theorem QQ (h:OkO H F σ nh l) (b:(l.map fun p=>σ p.1).Nodup):CvH H F σ nh (hp l):=⟨fun id c a=>af2 h _ (XC a),fun i j o c hi d he=>congrArg Prod.fst (ahG b (XC hi) (XC d) he)⟩
theorem cR (s:List Nat) (hle:nx≤nh) (a:CvE H (· ∉s) (sgL nx s) nh e' e) (boT:OkO H (· ∉s) (sgL nx s) nh l) (b:(l.map fun p=>sgL nx s p.1).Nodup): ∃F σ,Cv nx e H nh e' (hp l) F σ:=⟨_,_,hle,fun i hi=>by simp[sgL,hi],a,QQ boT b⟩
theorem fU{d a:D} (s:List Nat) (hle:nx≤nh) (b:CvD H (· ∉s) (sgL nx s) nh a d) (boT:OkO H (· ∉s) (sgL nx s) nh l) (c:(l.map fun p=>sgL nx s p.1).Nodup):CvR nx d H nh a (hp l) (· ∉s) (sgL nx s):=⟨hle,fun i hi=>by simp[sgL,hi],b,QQ boT c⟩
theorem bP{m b:Nat}{a:List (List D1)} (hi:alR n a) (h:a=rows) (hm:b=m):CvO H F σ nh ⟨n,b,a⟩ ⟨n,m,rows⟩:=by subst h;subst hm;exact bS fun r hr=>(hi r hr).2
theorem aM.ar4{P:Program}{T:Nat}{e:Env}{H:aA}{nx:Nat}{Q:AQ}{x:AC}{zs:List AC}{α:Type} (m:Nat) (E:Nat→α→Env) (G:Nat→α→aA) (μ:α→Nat) (b:α) (d: ∃F σ,Cv nx e H (nx+m) (E nx b) (G nx b) F σ)
 (h: ∀u,∀K:Env→aA→Nat→Prop,(∀e' H' a c,nx+m≤a→μ c<μ u→(∃F σ,Cv nx e' H' (nx+m) (E nx c) (G nx c) F σ)→K e' H' a)→aM P T [x] (E nx u) (G nx u) (nx+m) (AQ.then K Q)):aM P T (.loop x::zs) e H nx Q:=
 aM.loop (E nx) (G nx) (nx+m) μ b d h
end
attribute [go_sem] aq4 alB ahU aeF agY acY agN akW ar3 asJ alO akH ahL amZ arU aoM apQ anS aoQ ai1 ad0 aqT al8 aoY apG W0 W5 t3 bq7 or_false false_or or_self aiG am1 ahX akQ ajN apC boL List.length_range bx0 am5 aqH ag2 abU atA ar6 arM aqK aqZ aqF atF as8 atD atH as6 ak2 arY aoG arI anY aJ gt_iff_lt ge_iff_le Int.reduceEq Int.reduceNe Int.reduceLT Int.reduceLE Int.reduceAdd Int.reduceSub Int.reduceMul Int.reduceNeg decide_true decide_false Int.toNat_natCast Z1 Bool.not_false not_true_eq_false not_false_eq_true Y2 t2 Nat.reduceMul Nat.reduceSub Nat.reduceLT Int.reduceToNat
section
variable {P : Program} {H G : aA} {F : Nat → Prop} {σ : Nat → Nat} {nx nh : Nat} {e e' : Env}
def C7 (o:bA):Prop:=∀r∈o.rows,∀x∈r,x.dQ=true
theorem rF {τ:Nat→Nat} {o:bA} (h:C7 o):o.rn τ=o:=by
 unfold bA.rn;congr 1;conv=>rhs;rw[←brT o.rows]
 refine brC fun r hr=> ?_;conv=>rhs;rw[←brT r]
 exact brC fun x a=>YP (h r hr x a)
theorem aA.arQ {i:Nat} {o:bA}:H.upd i (some o)=H.set i o:=rfl
theorem aB.OU {f:FuncId} {args0 args:List D} {K:D→aA→Nat→Prop} {o:bA} {R:D→bA→Prop} (i:Nat) (h:aB P f args0 (hp [(0,o)]) 1 fun r H' g=>g=1∧ ∃a,H'=hp [(0,a)]∧C7 a∧R r a) (hlen:args.length=args0.length)
 (b: ∀(j:Nat) (l d:D),args0[j]?=some l→args[j]?=some d→CvD H (fun _=>False) (fun _=>i) 1 l d) (hi:i<nx) (m:H i=some o) (c:C7 o) (n: ∀r a,R r a→K (rnD (tau 1 nx fun _=>i) r) (H.set i a) nx):aB P f args H nx K:=by
 refine aB.lift h (fun _=>i) hlen b (QQ ⟨⟨Nat.zero_lt_one,fun h=>h,o,m,bS c⟩,trivial⟩ (by simp)) (fun j _=>hi) (fun j k u v _=>by omega) fun r H' g hle ⟨p,a,q,s,t⟩=> ?_
 subst p;subst q
 have e:back (tau 1 nx fun _=>i) (hp [(0,a)]) 1 H=H.set i a:=by
  simp only[back,hp,aA.set,Option.map_some,rF s,aA.arQ,if_true];have:tau 1 nx (fun _=>i) 0=i:=by simp[tau]
  rw[this]
 rw[e]
 exact n r a t
theorem aB.aUH {f:FuncId} {args0 args:List D} {K:D→aA→Nat→Prop} {m n:bA} {R:D→bA→bA→Prop} (i j:Nat) (h:aB P f args0 (hp [(0,m),(1,n)]) 2 fun r H' s=>s=2∧ ∃c g,H'=hp [(0,c),(1,g)]∧C7 c∧C7 g∧R r c g) (hlen:args.length=args0.length)
 (l: ∀(k:Nat) (t d:D),args0[k]?=some t→args[k]?=some d→CvD H (fun _=>False) (fun k=>if k=0 then i else j) 2 t d) (hi:i<nx) (E:j<nx) (o:i≠j) (p:H i=some m) (q:H j=some n) (w:C7 m) (x:C7 n)
 (y: ∀r c g,R r c g→K (rnD (tau 2 nx fun k=>if k=0 then i else j) r) ((H.set i c).set j g) nx):aB P f args H nx K:=by
 refine aB.lift h (fun k=>if k=0 then i else j) hlen l (QQ ⟨⟨by simp,fun h=>h,m,by simpa using p,bS w⟩,⟨by simp,fun h=>h,n,by simpa using q,bS x⟩,trivial⟩ (by simpa using o)) (fun k _=>by split<;>assumption) (fun a b F G he=> ?_) fun r H' s hle ⟨z,c,g,A,u,v,B⟩=> ?_
 ·split at he<;>split at he<;>omega
 subst z;subst A
 have e:back (tau 2 nx fun k=>if k=0 then i else j) (hp [(0,c),(1,g)]) 2 H=(H.set i c).set j g:=by
  have boU:tau 2 nx (fun k=>if k=0 then i else j) 0=i:=by simp[tau]
  have C:tau 2 nx (fun k=>if k=0 then i else j) 1=j:=by simp[tau]
  simp only[back,hp,aA.set,boU,C,Option.map_some,rF u,rF v,if_true,Y4];simp only[Nat.zero_ne_one,Nat.one_ne_zero,if_false,Option.map_some,rF u,rF v];rfl
 rw[e]
 exact y r c g B
theorem lA {Q:AQ} {rs:List aW} {R:D→bA→Prop} (k: ∀ex e b c d nh d2 g F σ,ex=AEx.normal∨ex=AEx.ret→yT b e rs=some d→CvR 1 d b nh d2 g F σ→(nh=1∧ ∃a,g=hp [(0,a)]∧C7 a∧R d2 a)→Q ex e b c)
 {e:Env} {b:aA} {c:Nat} (f d:D) (a:bA) (l:yT b e rs=some d) (m:CvD b (fun i=>i≠0) id 1 f d) (n:b 0=some a) (j:C7 a) (o:R f a):Q .ret e b c:=
 k _ _ _ _ d 1 f (hp [(0,a)]) (fun i=>i≠0) id (.inr rfl) l ⟨m5 _,fun _ _=>rfl,m,QQ ⟨⟨Nat.zero_lt_one,fun h=>h rfl,a,n,bS j⟩,trivial⟩ (by simp)⟩ ⟨rfl,a,rfl,j,o⟩
theorem aTE {Q:AQ} {rs:List aW} {R:D→bA→bA→Prop} (n: ∀ex h a b d nh d2 k F σ,ex=AEx.normal∨ex=AEx.ret→yT a h rs=some d→CvR 2 d a nh d2 k F σ→(nh=2∧ ∃c e,k=hp [(0,c),(1,e)]∧C7 c∧C7 e∧R d2 c e)→Q ex h a b)
 {h:Env} {a:aA} {b:Nat} (j d:D) (f g:bA) (o:yT a h rs=some d) (p:CvD a (fun i=>2≤i) id 2 j d) (q:a 0=some f) (r:a 1=some g) (l:C7 f) (m:C7 g) (s:R j f g):Q .ret h a b:=
 n _ _ _ _ d 2 j (hp [(0,f),(1,g)]) (fun i=>2≤i) id (.inr rfl) o ⟨m5 _,fun _ _=>rfl,p,QQ ⟨⟨by simp,by simp,f,q,bS l⟩,⟨by simp,by simp,g,r,bS m⟩,trivial⟩ (by simp)⟩ ⟨rfl,f,g,rfl,l,m,s⟩
theorem oB {α:Type} {enc:α→List D1} {n m:Nat} (h: ∀x,(enc x).length=n∧(enc x).all D1.dQ=true) (l:List α):C7 ⟨n,m,l.map enc⟩:=fun r hr=>(aG h l r hr).2
def aqS (H:aA) (τ:Nat→Nat) (n:Nat):List D→List D→Prop
 | [],[]=>True
 |a::l0,d::l=>CvD H (fun _=>False) τ n a d∧aqS H τ n l0 l
 |_,_=>False
theorem gW {τ:Nat→Nat} {n:Nat}: ∀{l0 l:List D},aqS H τ n l0 l→∀(i:Nat) (c d:D),l0[i]?=some c→l[i]?=some d→CvD H (fun _=>False) τ n c d
 | [],[],_,i,c,d,e,_=>by simp at e
 |a::l0,b::l,h,i,c,d,e,f=>by
  match i with
  |0=>simp at e f;subst e;subst f;exact h.1
  |i+1=>exact gW h.2 i c d (by simpa using e) (by simpa using f)
 | [],_::_,h,_,_,_,_,_=>h.elim
 |_::_,[],h,_,_,_,_,_=>h.elim
end
section
variable {P : Program} {T : Nat} {e : Env} {H : aA} {nx : Nat} {Q : AQ}
theorem aM.sG{x:AC}{zs:List AC}{β:Type} (m:Nat) (E:Nat→β→Env) (G:Nat→β→aA) (I:β→Prop) (μ:β→Nat) (v0:β) (d: ∃F σ,Cv nx e H (nx+m) (E nx v0) (G nx v0) F σ) (hi:I v0)
 (h: ∀v,I v→∀K:Env→aA→Nat→Prop,(∀e' H' a c,nx+m≤a→(∃F σ,Cv nx e' H' (nx+m) (E nx c) (G nx c) F σ)→I c→μ c<μ v→K e' H' a)→aM P T [x] (E nx v) (G nx v) (nx+m) (AQ.then K Q)):aM P T (.loop x::zs) e H nx Q:=
 aM.ar4 (α:={v:β//I v}) m (fun b u=>E b u.1) (fun b u=>G b u.1) (fun u=>μ u.1) ⟨v0,hi⟩ d fun u K f=>h u.1 u.2 K fun e' H' a c g i j k=>f e' H' a ⟨c,j⟩ g k i
theorem arT {H:aA} {F:Nat→Prop} {σ:Nat→Nat} {nh:Nat} {a b:D1} (h:Cv1 H F σ nh a b):Cv1 H F σ nh a b:=h
theorem aqR {H:aA} {F:Nat→Prop} {σ:Nat→Nat} {nh:Nat} {a b:D} (h:CvD H F σ nh a b):CvD H F σ nh a b:=h
theorem asF {H:aA} {F:Nat→Prop} {σ:Nat→Nat} {nh:Nat} {a b:D1} (h:a=b) (hi:a.dQ=true):Cv1 H F σ nh a b:=h▸bB hi
theorem bW{H:aA}{F:Nat→Prop}{σ:Nat→Nat}{nh:Nat}{α:Type}{enc:α→List D1}{l:List α}{n id len cap m:Nat} (he: ∀x,(enc x).length=n∧(enc x).all D1.dQ=true) (a:H id=some ⟨n,m,l.map enc⟩) (hl:len=l.length) (c:l.length≤cap) (b:F id):Cv1 H F σ nh (.isl (l.map enc)) (.osl n id 0 len cap):=XN (aG he l) (by simp[hl]) b a rfl (boL (m5 _)) (by simp;omega)
def kpm (b:Nat) (l:List Nat) (H:aA):aA:=fun i=>if i∈l.map (b+ ·) then H i else none
variable {b i : Nat} {l : List Nat} {o : bA} {G : aA}
theorem akT:msk b l (H.set i o)=if i∈l.map (b+ ·) then msk b l H else (msk b l H).set i o:=by
 split
 ·rename_i h;funext j;simp only[msk,aA.set];by_cases a:j=i;·subst a;simp only[h,if_true]
  ·simp only[a,if_false]
 ·rename_i h;funext j;simp only[msk,aA.set];by_cases a:j=i;·subst a;simp only[h,if_true,if_false]
  ·simp only[a,if_false]
theorem akY:msk b l aA.nil=aA.nil:=by funext j;simp only[msk,aA.nil];split<;>rfl
theorem an1:msk b l (H.del i)=(msk b l H).del i:=by funext j;simp only[msk,aA.del];split<;>split<;>rfl
theorem aoS:kpm b l (H.set i o)=if i∈l.map (b+ ·) then (kpm b l H).set i o else kpm b l H:=by
 split
 ·rename_i h;funext j;simp only[kpm,aA.set];by_cases a:j=i;·subst a;simp only[h,if_true]
  ·simp only[a,if_false]
 ·rename_i h;funext j;simp only[kpm,aA.set];by_cases a:j=i;·subst a;simp only[h,if_false]
  ·simp only[a,if_false]
theorem al5:kpm b l aA.nil=aA.nil:=by funext j;simp only[kpm,aA.nil];split<;>rfl
theorem abQ:dT b l H aA.nil=kpm b l H:=by funext j;simp only[dT,kpm,aA.nil]
theorem aeC:dT b l H (G.set i o)=if i∈l.map (b+ ·) then dT b l H G else (dT b l H G).set i o:=by
 split
 ·rename_i h;funext j;simp only[dT,aA.set];by_cases a:j=i;·subst a;simp only[h,if_true]
  ·simp only[a,if_false]
 ·rename_i h;funext j;simp only[dT,aA.set];by_cases a:j=i;·subst a;simp only[h,if_true,if_false]
  ·simp only[a,if_false]
theorem ahD:dT b l H (G.del i)=if i∈l.map (b+ ·) then dT b l H G else (dT b l H G).del i:=by
 split
 ·rename_i h;funext j;simp only[dT,aA.del];by_cases a:j=i;·subst a;simp only[h,if_true]
  ·simp only[a,if_false]
 ·rename_i h;funext j;simp only[dT,aA.del];by_cases a:j=i;·subst a;simp only[h,if_true,if_false]
  ·simp only[a,if_false]
variable{a c:bA}
theorem yE{H:aA}{i j:Nat} (h: ¬i=j):(H.set i a).set j c=(H.set j c).set i a:=by
 funext k;simp only[aA.set];by_cases d:k=j;·subst d;rw[if_pos rfl,if_neg (fun b=>h b.symm),if_pos rfl]
 ·rw[if_neg d];by_cases b:k=i;·rw[if_pos b,if_pos b]
  ·rw[if_neg b,if_neg b,if_neg d]
variable{boV:Nat}{boW:bA}
theorem ajH{H:aA}{i:Nat} (b: ¬boV=i):((H.set i a).set boV boW).set i c=((H.set i c).set boV boW):=by rw[yE b,aA.set_set]
variable{j1:Nat}{b1:bA}
theorem am6{H:aA}{i:Nat} (b: ¬boV=i) (d: ¬j1=i):(((H.set i a).set boV boW).set j1 b1).set i c=(((H.set i c).set boV boW).set j1 b1):=by rw[yE d,ajH b]
variable{j2:Nat}{b2:bA}
theorem alU{H:aA}{i:Nat} (b: ¬boV=i) (d: ¬j1=i) (e: ¬j2=i):((((H.set i a).set boV boW).set j1 b1).set j2 b2).set i c=((((H.set i c).set boV boW).set j1 b1).set j2 b2):=by rw[yE e,am6 b d]
variable{boX:bA}
theorem alA{H:aA}{i b:Nat} (d: ¬boV=i) (e: ¬j1=i) (f: ¬j2=i) (g: ¬b=i):(((((H.set i a).set boV boW).set j1 b1).set j2 b2).set b boX).set i c=(((((H.set i c).set boV boW).set j1 b1).set j2 b2).set b boX):=by rw[yE g,alU d e f]
theorem ajJ{H:aA}{i b d:Nat}{boY:bA} (e: ¬boV=i) (f: ¬j1=i) (g: ¬j2=i) (h: ¬b=i) (j: ¬d=i):((((((H.set i a).set boV boW).set j1 b1).set j2 b2).set b boX).set d boY).set i c=((((((H.set i c).set boV boW).set j1 b1).set j2 b2).set b boX).set d boY):=by rw[yE j,alA e f g h]
theorem akV{H:aA}{i b d e:Nat}{boY boZ:bA} (f: ¬boV=i) (g: ¬j1=i) (h: ¬j2=i) (j: ¬b=i) (k: ¬d=i) (l: ¬e=i):(((((((H.set i a).set boV boW).set j1 b1).set j2 b2).set b boX).set d boY).set e boZ).set i c=(((((((H.set i c).set boV boW).set j1 b1).set j2 b2).set b boX).set d boY).set e boZ):=by rw[yE l,ajJ f g h j k]
theorem arR{H:aA}{i b d e f:Nat}{boY boZ bkQ:bA} (g: ¬boV=i) (h: ¬j1=i) (j: ¬j2=i) (k: ¬b=i) (l: ¬d=i) (m: ¬e=i) (n: ¬f=i):((((((((H.set i a).set boV boW).set j1 b1).set j2 b2).set b boX).set d boY).set e boZ).set f bkQ).set i c=((((((((H.set i c).set boV boW).set j1 b1).set j2 b2).set b boX).set d boY).set e boZ).set f bkQ):=by rw[yE n,akV g h j k l m]
theorem aoB{i:Nat}:aA.nil.del i=aA.nil:=by funext k;simp only[aA.del,aA.nil];split<;>rfl
theorem ae7{H:aA}{i:Nat}:(H.set i a).del i=H.del i:=by funext k;simp only[aA.set,aA.del];split<;>rfl
theorem adA{H:aA}{i j:Nat} (h: ¬i=j):(H.set j a).del i=(H.del i).set j a:=by
 funext k;simp only[aA.set,aA.del];by_cases b:k=i;·subst b;simp[h]
 ·simp[b]
end
attribute [go_sem] ajH am6 alU alA ajJ akV arR aoB ae7 adA Nat.reduceLT akT akY an1 aoS al5 abQ aeC ahD
def nth (s:List Nat) (i:Nat):Nat:=s[i]?.getD 0
section
variable {P : Program} {H : aA} {nx : Nat} {τ : Nat → Nat} {H0 : aA}
theorem aB.AF {f:FuncId} {args0 args:List D} {K:D→aA→Nat→Prop} {l0:List (Nat×bA)} {R:D→aA→Nat→Prop} (s:List Nat) (h:aB P f args0 (hp l0) s.length R) (hlen:args.length=args0.length)
 (a:aqS H (nth s) s.length args0 args) (boT:OkO H (fun _=>False) (nth s) s.length l0) (c:(l0.map fun p=>nth s p.1).Nodup) (d: ∀x∈s,x<nx) (e:s.Nodup)
 (g: ∀r H' b,s.length≤b→R r H' b→K (rnD (tau s.length nx (nth s)) r) (back (tau s.length nx (nth s)) H' b H) (nx+(b-s.length))):aB P f args H nx K:=
 aB.lift h (nth s) hlen (gW a) (QQ boT c) (fun i hi=>by rw[nth,n1 hi];exact d _ (Z5 hi))
   (fun i j hi k he=>by
    rw[nth,nth,n1 hi,n1 k,Option.getD_some,Option.getD_some] at he
    exact(List.getElem_inj e).1 he) g
theorem aB.azZ {f:FuncId} {args0 args:List D} {K:D→aA→Nat→Prop} {R:D→Prop} (h:aB P f args0 .nil 0 fun r _ n=>n=0∧r.imm=true∧R r) (hlen:args.length=args0.length) (a:aqS H (nth []) 0 args0 args) (b: ∀r,R r→K r H nx):aB P f args H nx K:=by refine aB.AF (l0:=[]) [] h hlen a trivial (by simp) (by simp) (by simp) fun r H' g _ ⟨c,d,e⟩=> ?_;subst c;rw[af7 d];exact b r e
theorem uB {n m:Nat} {l:List Int}:bA.rn τ ⟨n,m,l.map aJ⟩=⟨n,m,l.map aJ⟩:=by refine rF fun r hr x a=> ?_;obtain⟨y,_,rfl⟩:=CF.1 hr;simp only[aJ,CJ] at a;subst a;rfl
theorem ayY {F:Nat→Prop} {σ:Nat→Nat} {nh:Nat} {xs ys:List D1} (h:CvL H F σ nh xs ys):CvV H F σ nh (.agg xs) (.agg ys):=h
theorem azN {F:Nat→Prop} {σ:Nat→Nat} {nh:Nat} {x y:D1} (h:Cv1 H F σ nh x y):CvV H F σ nh (.c x) (.c y):=h
theorem ay7 {F:Nat→Prop} {σ:Nat→Nat} {nh:Nat} {a b x y:DV} (d:CvV H F σ nh a x) (e:CvV H F σ nh b y):CvD H F σ nh (.tup [a,b]) (.tup [x,y]):=
 ⟨rfl,fun i u v hu c=>by
  match i with
  |0=>simp at hu c;subst hu;subst c;exact d
  |1=>simp at hu c;subst hu;subst c;exact e
  |i+2=>simp at hu⟩
theorem yI {i:Nat}:H.upd i none=H.del i:=rfl
end
section
variable {P : Program} {H : aA} {nx : Nat}
theorem ay5{F:Nat→Prop}{σ:Nat→Nat}{nh:Nat}{x y:D1} (a:x.dQ=true) (h:Cv1 H F σ nh x y):Frz H F x y:=by
 cases h with
 |frz h=>exact h
 |osl=>cases a
 |VS=>cases a
 |ptr=>cases a
 |omap=>cases a
 |clo=>cases a
 |dead=>cases a
theorem ay3{F:Nat→Prop}{σ d:Nat→Nat}{nh e:Nat}{cells r:List D1}{n id:Nat}{o:bA} (hi:cells.all D1.dQ=true) (h:CvL H F σ nh cells r) (g:F id) (i:H id=some o) (k:o.n=n) (hr:o.rows[0]?=some r):CvD H F d e (.one (.c (.fQ cells))) (.one (.c (.ptr n id 0 0))):=by
 refine .frz (.ptr cells n id 0 0 o r (fun j=>(r[j]?).getD .dead) g i k hr (fun j f a=> ?_) (fun j f a=> ?_))
 ·have b:j<r.length:=by rw[←h.1];exact(m3.1 a).1
  rw[Y4,n1 b];rfl
 ·have b:j<r.length:=by rw[←h.1];exact(m3.1 a).1
  have l:=h.2 j f r[j] a (n1 b);rw[n1 b];exact ay5 (w2.1 hi f (s3 a)) l
variable{e:Env}
theorem aM.aqB{T:Nat}{Q:AQ}{x:AC}{zs:List AC} (m:Nat) (e':Env) (H':aA) (b: ∃F σ,Cv nx e H (nx+m) e' H' F σ) (h:aM P T (x::zs) e' H' (nx+m) Q):aM P T (x::zs) e H nx Q:=by obtain⟨F,σ,a⟩:=b;exact aM.conv a h
variable{b ix:Nat}{live m s:List Nat}{L:List aY}{dst:Option Nat}{S:dJ}{xs:List aT}{lk:Bool}
theorem alH{K:Env→aA→Nat→Prop}{neg:Bool}:wv P b live K (⟨ix,dst,.xop (.qJ neg) xs,none,m,s,lk⟩::L) e H nx S=xl P (b+ix) (msk b m H) nx (DQ P b live K L dst m s e H S) (.qJ neg) (xs.map (·.ev e)):=aaO rfl
theorem anL{K:Env→aA→Nat→Prop}{n:Nat}:wv P b live K (⟨ix,dst,.xop (.copy n) xs,none,m,s,lk⟩::L) e H nx S=xl P (b+ix) (msk b m H) nx (DQ P b live K L dst m s e H S) (.copy n) (xs.map (·.ev e)):=aaO rfl
theorem amC{K:Env→aA→Nat→Prop}{n:Nat}{z:List D1}:wv P b live K (⟨ix,dst,.xop (.clear n z) xs,none,m,s,lk⟩::L) e H nx S=xl P (b+ix) (msk b m H) nx (DQ P b live K L dst m s e H S) (.clear n z) (xs.map (·.ev e)):=aaO rfl
theorem azR{K:Env→aA→Nat→Prop}{n:Nat}{z:List D1}:wv P b live K (⟨ix,dst,.xop (.adT n z) xs,none,m,s,lk⟩::L) e H nx S=xl P (b+ix) (msk b m H) nx (DQ P b live K L dst m s e H S) (.adT n z) (xs.map (·.ev e)):=aaO rfl
theorem azQ{K:Env→aA→Nat→Prop}{f:FuncId}:wv P b live K (⟨ix,dst,.xop (.aaN f) xs,none,m,s,lk⟩::L) e H nx S=xl P (b+ix) (msk b m H) nx (DQ P b live K L dst m s e H S) (.aaN f) (xs.map (·.ev e)):=aaO rfl
theorem amI{K:Env→aA→Nat→Prop}{kn:Nat}{bl:Bool}:wv P b live K (⟨ix,dst,.xop (.DS kn bl) xs,none,m,s,lk⟩::L) e H nx S=xl P (b+ix) (msk b m H) nx (DQ P b live K L dst m s e H S) (.DS kn bl) (xs.map (·.ev e)):=aaO rfl
theorem agK{K:Env→aA→Nat→Prop}:wv P b live K (⟨ix,dst,.xop .sS xs,none,m,s,lk⟩::L) e H nx S=xl P (b+ix) (msk b m H) nx (DQ P b live K L dst m s e H S) .sS (xs.map (·.ev e)):=aaO rfl
theorem ag8{K:Env→aA→Nat→Prop}{kn:Nat}{bl ok:Bool}:wv P b live K (⟨ix,dst,.xop (.rA kn bl ok) xs,none,m,s,lk⟩::L) e H nx S=xl P (b+ix) (msk b m H) nx (DQ P b live K L dst m s e H S) (.rA kn bl ok) (xs.map (·.ev e)):=aaO rfl
theorem ag3{K:Env→aA→Nat→Prop}{kn:Nat}{bl:Bool}:wv P b live K (⟨ix,dst,.xop (.vM kn bl) xs,none,m,s,lk⟩::L) e H nx S=xl P (b+ix) (msk b m H) nx (DQ P b live K L dst m s e H S) (.vM kn bl) (xs.map (·.ev e)):=aaO rfl
theorem ak7{F:Nat→Prop}{σ:Nat→Nat}{nh n m d:Nat}{R a rows:List (List D1)}{r' r:List D1}{i:Nat} (e':a=R) (e:rows=R.set i r) (hi:R[i]?=some r') (k: ∀r∈R,∀x∈r,x.dQ=true) (hm:d=m) (h:CvL H F σ nh r' r):CvO H F σ nh ⟨n,d,a⟩ ⟨n,m,rows⟩:=by
 subst e';subst e;subst hm;refine⟨rfl,rfl,by simp,fun _ h=>by dsimp only at h ⊢;rw[h];rfl,fun j f b=> ?_⟩;simp only[D0];by_cases g:i=j;·subst g;have c:i<a.length:=(m3.1 b).1;rw[if_pos rfl,if_pos c];rw[hi] at b;cases b;exact⟨r,rfl,h⟩
 ·rw[if_neg g];exact⟨f,b,GW fun x l=>k f (s3 b) x l⟩
theorem atN{α:Type} [Inhabited α]{enc:α→List D1}{l:List α}{k:Nat} (h:k<l.length):(l.map enc)[k]?=some (enc (l.getD k default)):=by simp[List.getD,h]
theorem atL {c:Prop} [Decidable c] {A B:Prop} (a:c→A) (b: ¬c→B):if c then A else B:=by
 split;·exact a ‹_›
 ·exact b ‹_›
attribute [go_sem] alH anL amC azR azQ amI agK ag8 ag3
end
theorem ay9 {P:Program} {f:FuncId} {fn:Func} (hf:P.funcs[f]?=some fn) (hname:(fn.name== "runtime.NumGoroutine")=false) (hb:fn.body.isNone=true) (hnx:Extern.findNext fn=none) {az3 az4 el:TypeId}
 (he:Extern.find fn=some (Extern.SlicesOverlaps.overlaps #[az3,az3] #[az4])) (ht:P.underlying az3=some (.slice el)) {size:Nat} (hz: ∀w,(Go.sizeOf el).run P w= .ok size w)
 {H:aA} {nx:Nat} {K:D→aA→Nat→Prop} {n n' i j off off' len len' cap cap':Nat} {oi oj:bA} (hi:H i=some oi) (hj:H j=some oj) (hij:i≠j) (h1:0<oi.ext) (h2:0<oj.ext) (hn:0<oj.n) (hc:0<cap) (hc':0<cap') (hoff:off*n<oi.ext*oi.n)
 (hK:K (bD false) H nx):asG P f [.one (.c (.osl n i off len cap)),.one (.c (.osl n' j off' len' cap'))] H nx K:=by
 intro c vs hst hl hr
 match vs,hl with
 | [v1,v2],_=>
   have r1:=hr 0 _ v1 rfl rfl;have r2:=hr 1 _ v2 rfl rfl;simp only[fD,jZ,Rel,bY] at r1 r2;obtain⟨_,r1|⟨_,_,rfl⟩⟩:=r1;·omega
   obtain⟨_,r2|⟨_,_,rfl⟩⟩:=r2;·omega
   have hni:0<oi.n:=Nat.pos_of_ne_zero fun h=>by rw[h,Nat.mul_zero] at hoff;exact absurd hoff (bq2 _)
   obtain⟨ai,Ti,b1,b2⟩:=(hst.blk i oi hi h1).cells (fun hm=>by have:=hm.1;omega);obtain⟨aj,Tj,boX,boY⟩:=(hst.blk j oj hj h2).cells (fun hm=>by have:=hm.1;omega);have hne:=hst.sep i j oi oj hi hj h1 h2 hij;refine⟨.bool false,bD false,?_,.v _ rfl,hK⟩;have hp:0<oj.ext*oj.n:=Nat.mul_pos h2 hn;rw[run_callFunc_extern hf hname hb hnx he];have:=Lib.run_overlaps_apart c.w az3 az4 el ht size hz ⟨(c.ρ i).1,(c.ρ i).2+off*n,none⟩ ⟨(c.ρ j).1,(c.ρ j).2+off'*n',none⟩ len cap len' cap' hne Ti Tj ai.size aj.size (by simp[World.shape?,b1]) (by simp[World.shape?,boX]) (by omega) (by simp[World.frozen?,b1]) (by simp[World.frozen?,b1]);rw[show ([(Value.slice (some ⟨(c.ρ i).1,(c.ρ i).2+off*n,none⟩) len cap),(Value.slice (some ⟨(c.ρ j).1,(c.ρ j).2+off'*n',none⟩) len' cap')]:List Value).toArray= #[.slice (some ⟨(c.ρ i).1,(c.ρ i).2+off*n,none⟩) len cap,.slice (some ⟨(c.ρ j).1,(c.ρ j).2+off'*n',none⟩) len' cap'] from rfl,this];rfl
theorem anJ {H:aA} {F:Nat→Prop} {σ:Nat→Nat} {nh n m d:Nat} {a rows junk:List (List D1)} (hi: ∀r∈a,∀x∈r,x.dQ=true) (h:rows=a++junk) (hm:d=m) (b:n≠0):CvO H F σ nh ⟨n,d,a⟩ ⟨n,m,rows⟩:=by subst h;subst hm;refine⟨rfl,rfl,by simp,fun e _=>absurd e b,fun i r c=> ?_⟩;refine⟨r,?_,GW fun x f=>hi r (s3 c) x f⟩;rw[brO (m3.1 c).1];exact c
end Go.AM
namespace Go.AM
@[reducible,go_sem] def rq (t:Nat) (o:AOp) (i:Nat):aY:=⟨i,some t,o,none,[],[],false⟩
@[reducible,go_sem] def rn (o:AOp) (i:Nat):aY:=⟨i,none,o,none,[],[],false⟩
@[reducible,go_sem] def ki (n:Int):aT:=.kv (.int .i64 n)
@[reducible,go_sem] def RM (t a i:Nat):aY:=rq t (.move (.tm a)) i
@[reducible,go_sem] def RF (t k a i:Nat):aY:=rq t (.fld k (.tm a)) i
@[reducible,go_sem] def RL (t a i:Nat):aY:=rq t (.load 1 false (.tm a)) i
@[reducible,go_sem] def RK (t a i:Nat):aY:=rq t (.tF (.tm a)) i
@[reducible,go_sem] def GQ (t:Nat) (o:AOp) (g:Nat) (b:Bool) (i:Nat):aY:=⟨i,some t,o,some (g,b),[],[],false⟩
@[reducible,go_sem] def VZ:D1:=.v (.int .i64 0)
@[reducible,go_sem] def OZ:D1:=.osl 0 0 0 0 0
def aN (P:Program) (f:FuncId) (fn:Func) (ac:AC) (rs:List aW):Prop:=
 ∀{args:List D} {H:aA} {nx:Nat} {c:D→aA→Nat→Prop} (_hl:Nat.ble args.length fn.ntmps=true)
  (_h: ∀Q:AQ,(∀ex e a b d nh d2 g F σ,ex= .normal∨ex= .ret→yT a e rs=some d→CvR nx d a nh d2 g F σ→c d2 g nh→Q ex e a b)→aM P fn.ntmps [ac] (Env.args 0 args) H nx Q),aB P f args H nx c
theorem aN.mk {P:Program} {f:FuncId} {fn:Func} {ac:AC} {rs:List aW} {cs:List Cert}
 (b:P.funcs[f]?=some fn) (a:qY P f=true) (c:aO P fn cs=some (ac,rs)):aN P f fn ac rs:=
 fun hl h=>aB.body b a c (boM hl) h
theorem dbT {p:Prop} [Decidable p] (h:p):D1.v (.bool (decide p))= .v (.bool true):=by rw[decide_eq_true h]
theorem dbE {p q:Prop} [Decidable p] [Decidable q] (h:p↔q):D1.v (.bool (decide p))= .v (.bool (decide q)):=by rw[decide_eq_decide.2 h]
theorem diE {a b:Int} (h:a=b):D1.v (.int .i64 a)= .v (.int .i64 b):=by rw[h]
abbrev bo0:=@arT
abbrev bo1:=@aqR
abbrev bo2:=@K6
abbrev bo3:=@oF
abbrev bo4:=@eP
abbrev bo5:=@aH
abbrev aUP:=@ay7
abbrev aUQ:=@ayY
abbrev aUR:=@azN
abbrev bo6:=@lY
abbrev bo7:=@apS
abbrev bo8:=@aE
abbrev bo9:=@bB
abbrev bpA:=@afQ
abbrev bpB:=@aaF
abbrev bpC:=@afZ
abbrev bpD:=@aa6
abbrev bpE:=@xG
abbrev bpF:=@asF
abbrev bpG:=@YY
abbrev bpH:=@aeE
abbrev btD:=@aM.seq
abbrev btE:=@aM.skip
abbrev btF:=@aM.block
abbrev btG:=@asU
abbrev btH:=@ar9
abbrev bF2:=@atE
abbrev bpI:=@atL
abbrev bF3:=@atC
abbrev btI:=@aM.reg
abbrev btJ:=@aM.ar8
abbrev bpJ:=@aqG
abbrev bpK:=@arS
abbrev bpL:=@asQ
abbrev bpM:=@ap6
abbrev btK:=@aM.ret
abbrev btL:=@aM.exit
abbrev btM:=@aM.nil
abbrev Iw:=@IntWalk.i64_in
end Go.AM
namespace Go.AM
open Go.RowKit
inductive Tg (zs:List AC) (Q:AQ):Type where
 |mk
@[reducible] def bnG (P:Program) (T:Nat) (zs:List AC) (Q:AQ) (_:Tg zs Q):Env→aA→Nat→Prop:=fun e H nx=>aM P T zs e H nx Q
def vd (P:Program) (T:Nat) (x y:AC) (zs:List AC) (e:Env) (H:aA) (nx:Nat) (Q:AQ) (_:Tg (x::y::zs) Q) (d:D):Prop:=cK (aM P T (x::zs) e H nx Q) (aM P T (y::zs) e H nx Q) d
def vc (P:Program) (T:Nat):List AC→Env→aA→Nat→AQ→Prop
 | [],e,H,nx,Q=>Q .normal e H nx
 | .skip::zs,e,H,nx,Q=>aM P T zs e H nx Q
 | .region ops n live::zs,e,H,nx,Q=>wv P nx live (bnG P T zs Q .mk) ops e H (nx+n) []
 | .seq x y::zs,e,H,nx,Q=>aM P T (x::y::zs) e H nx Q
 | .cond c x y::zs,e,H,nx,Q=>vd P T x y zs e H nx Q .mk (c.ev e)
 | .block id x::zs,e,H,nx,Q=>aM P T [x] e H nx (AQ.blk id (bnG P T zs Q .mk) Q)
 | .loop x::zs,e,H,nx,Q=>aM P T (.loop x::zs) e H nx Q
 | .exit id::_,e,H,nx,Q=>Q (.exit id) e H nx
 | .ret::_,e,H,nx,Q=>Q .ret e H nx
section
variable {P : Program} {T : Nat} {live : List Nat} {ops : List aY} {n id : Nat} {c : aT} {e : Env} {H : aA} {nx : Nat} {Q : AQ} {x y : AC} {zs : List AC} {K : Env → aA → Nat → Prop}
theorem bn0 (h:aM P T zs e H nx Q):bnG P T zs Q .mk e H nx:=h
theorem bn1 (h:vc P T zs e H nx Q):aM P T zs e H nx Q:=by
 cases zs with
 |nil=>exact h
 |cons x zs=>
  cases x with
  |skip=>exact aM.skip h
  |region ops n live=>exact AWP.region h
  |seq x y=>exact aM.seq h
  |cond c x y=>
   refine aM.ar8 fun A B f hB=> ?_;have h:cK (aM P T (x::zs) e H nx Q) (aM P T (y::zs) e H nx Q) (c.ev e):=h;unfold cK at h;unfold cK;split at h;·rename_i t j;exact⟨fun b=>f (h.1 b),fun b=>hB (h.2 b)⟩
   ·exact h.elim
  |block id x=>
   refine aM.block fun K d=>AWP.mono h fun ex e' H' g _ a=> ?_
   cases ex with
   |normal=>exact d _ _ _ a
   |exit i=>
    simp only[AQ.then,AQ.blk] at a ⊢;split;·rename_i hi;rw[if_pos hi] at a;exact d _ _ _ a
    ·rename_i hi;rw[if_neg hi] at a;exact a
   |ret=>exact a
  |loop x=>exact h
  |exit id=>exact aM.exit h
  |ret=>exact aM.ret h
theorem bnP:vc P T [] e H nx Q=Q .normal e H nx:=rfl
theorem bnI:vc P T (.skip::zs) e H nx Q=aM P T zs e H nx Q:=rfl
theorem bnO:vc P T (.region ops n live::zs) e H nx Q=wv P nx live (bnG P T zs Q .mk) ops e H (nx+n) []:=rfl
theorem bnM:vc P T (.seq x y::zs) e H nx Q=aM P T (x::y::zs) e H nx Q:=rfl
theorem bnK:vc P T (.cond c x y::zs) e H nx Q=vd P T x y zs e H nx Q .mk (c.ev e):=rfl
theorem bnH:vc P T (.block id x::zs) e H nx Q=aM P T [x] e H nx (AQ.blk id (bnG P T zs Q .mk) Q):=rfl
theorem bnJ:vc P T (.exit id::zs) e H nx Q=Q (.exit id) e H nx:=rfl
theorem bnQ:vc P T (.ret::zs) e H nx Q=Q .ret e H nx:=rfl
theorem bnZ {g:Tg (x::y::zs) Q}:vd P T x y zs e H nx Q g (.one (.c (.v (.bool true))))=aM P T (x::zs) e H nx Q:=atF
theorem bnX {g:Tg (x::y::zs) Q}:vd P T x y zs e H nx Q g (.one (.c (.v (.bool false))))=aM P T (y::zs) e H nx Q:=as8
theorem bnT {g:Tg (x::y::zs) Q} {p:Prop} [Decidable p] (h:p):vd P T x y zs e H nx Q g (.one (.c (.v (.bool (decide p)))))=aM P T (x::zs) e H nx Q:=by rw[decide_eq_true h];exact atF
theorem bnU {g:Tg (x::y::zs) Q} {p:Prop} [Decidable p] (h: ¬p):vd P T x y zs e H nx Q g (.one (.c (.v (.bool (decide p)))))=aM P T (y::zs) e H nx Q:=by rw[decide_eq_false h];exact as8
theorem bnE {g:Tg (x::y::zs) Q} {p:Prop} [Decidable p] (a:p→aM P T (x::zs) e H nx Q) (b: ¬p→aM P T (y::zs) e H nx Q):vd P T x y zs e H nx Q g (.one (.c (.v (.bool (decide p))))):=atE a b
theorem bnF {g:Tg (x::y::zs) Q} {t:Bool} (a:t=true→aM P T (x::zs) e H nx Q) (b:t=false→aM P T (y::zs) e H nx Q):vd P T x y zs e H nx Q g (.one (.c (.v (.bool t)))):=atC a b
theorem bnN:AQ.then K Q .normal=K:=rfl
theorem bnL:AQ.then K Q .ret=Q .ret:=rfl
theorem bnS:AQ.then K Q (.exit id)=Q (.exit id):=rfl
theorem bnV {i:Nat}:AQ.blk i K Q .normal=K:=rfl
theorem bnW {i:Nat}:AQ.blk i K Q .ret=Q .ret:=rfl
attribute [go_sem] bnZ bnX bnN bnL bnS bnV bnW
attribute [go_sem ↓] bnP bnI bnO bnM bnK bnH bnJ bnQ
end
def bnY (o:aY):Nat×List Nat×List Nat×Bool:=(o.ix,o.mask,o.amN,o.look)
def bnD:AC→List Cert
 | .region ops _ live=>[⟨ops.map bnY,live⟩]
 | .seq x y=>bnD x++bnD y
 | .cond _ x y=>bnD x++bnD y
 | .block _ x=>bnD x
 | .loop x=>bnD x
 |_=>[]
instance {n:Nat}:OfNat aT n:=⟨.tm n⟩
theorem bnR {n:Nat}:(OfNat.ofNat n:aT)= .tm n:=rfl
attribute [go_sem] bnR
section
variable {P : Program} {T : Nat} {e : Env} {H : aA} {nx : Nat} {Q : AQ} {x y : AC} {zs : List AC} {K : Env → aA → Nat → Prop}
theorem bn2 {g:Tg (x::y::zs) Q} {p:Prop} [Decidable p] (h:p) (a:aM P T (x::zs) e H nx Q):vd P T x y zs e H nx Q g (.one (.c (.v (.bool (decide p))))):=by rw[bnT h];exact a
theorem bn3 {g:Tg (x::y::zs) Q} {p:Prop} [Decidable p] (h: ¬p) (a:aM P T (y::zs) e H nx Q):vd P T x y zs e H nx Q g (.one (.c (.v (.bool (decide p))))):=by rw[bnU h];exact a
end
section
variable {H : aA} {F : Nat → Prop} {σ : Nat → Nat} {nh t : Nat} {e : Env} {l : List (Nat × D)}
theorem xqI {d:D} (a:d.imm=true) (he:e t=d) (h:CvE H F σ nh (en l) e):CvE H F σ nh (en ((t,d)::l)) e:=oF h (by rw[he];exact aE a)
theorem xqP {n a id row b:Nat} (hl:a<nh) (d:σ a=id) (he:e t= .one (.c (.ptr n id row b))) (h:CvE H F σ nh (en l) e):CvE H F σ nh (en ((t,.one (.c (.ptr n a row b)))::l)) e:=oF h (by rw[he];exact apS (afZ hl d))
theorem xqO {n b id off len a cap:Nat} (hl:b<nh) (d:σ b=id) (he:e t= .one (.c (.osl n id off len cap))) (f:a=len) (h:CvE H F σ nh (en l) e):CvE H F σ nh (en ((t,.one (.c (.osl n b off a cap)))::l)) e:=oF h (by rw[he];exact apS (aaF hl d rfl f rfl))
theorem xqV {a b:Int} (he:e t= .one (.c (.v (.int .i64 b)))) (d:a=b) (h:CvE H F σ nh (en l) e):CvE H F σ nh (en ((t,.one (.c (.v (.int .i64 a))))::l)) e:=oF h (by rw[he,d];exact aE rfl)
end
def vcR (P:Program) (T:Nat):List AC→Env→aA→Nat→AQ→Prop
 | .seq (.region ops n live) y::zs,e,H,nx,Q=>wv P nx live (bnG P T (y::zs) Q .mk) ops e H (nx+n) []
 |zs,e,H,nx,Q=>vc P T zs e H nx Q
section
variable {P : Program} {T : Nat} {live : List Nat} {ops : List aY} {n id : Nat} {c : aT} {e : Env} {H : aA} {nx : Nat} {Q : AQ} {x y : AC} {zs : List AC}
theorem boA:vcR P T (.seq (.region ops n live) y::zs) e H nx Q=wv P nx live (bnG P T (y::zs) Q .mk) ops e H (nx+n) []:=rfl
theorem bn9:vcR P T [] e H nx Q=vc P T [] e H nx Q:=rfl
theorem bn5:vcR P T (.skip::zs) e H nx Q=vc P T (.skip::zs) e H nx Q:=rfl
theorem bn8:vcR P T (.region ops n live::zs) e H nx Q=vc P T (.region ops n live::zs) e H nx Q:=rfl
theorem bn6:vcR P T (.cond c x y::zs) e H nx Q=vc P T (.cond c x y::zs) e H nx Q:=rfl
theorem Z8:vcR P T (.block id x::zs) e H nx Q=vc P T (.block id x::zs) e H nx Q:=rfl
theorem bn4:vcR P T (.exit id::zs) e H nx Q=vc P T (.exit id::zs) e H nx Q:=rfl
theorem bn7:vcR P T (.ret::zs) e H nx Q=vc P T (.ret::zs) e H nx Q:=rfl
attribute [go_sem ↓] boA bn9 bn5 bn8 bn6 Z8 bn4 bn7
end
theorem boC:(∀a b c:Nat,a+b+c=a+(b+c))∧(∀{a b:Nat},a=a+b↔b=0)∧ ∀{a b:Nat},a+b=a↔b=0:=⟨t1,bqT,bqV⟩
@[reducible,go_sem] def boD:aT:=.kv (.bool false)
@[reducible,go_sem] def boE:aT:=.kv (.bool true)
@[reducible,go_sem] def boF (t:Nat) (o:AOp) (m s:List Nat) (k:Bool) (i:Nat):aY:=⟨i,some t,o,none,m,s,k⟩
@[reducible,go_sem] def dA (t:Option Nat) (o:AOp) (g:Option (Nat×Bool)) (m s:List Nat) (k:Bool) (i:Nat):aY:=⟨i,t,o,g,m,s,k⟩
@[reducible,go_sem] def dI (t:Nat) (b:BinOp) (x y:aT) (i:Nat):aY:=rq t (.bin b x y) i
@[reducible,go_sem] def dO (t:Nat) (x:aT) (i:Nat):aY:=rq t (.move x) i
@[reducible,go_sem] def e0 (t n:Nat) (x y:aT) (i:Nat):aY:=rq t (.idx n x y) i
@[reducible,go_sem] def f1 (t:Nat) (x:aT) (i:Nat):aY:=rq t (.len false x) i
@[reducible,go_sem] def f3 (t:Nat) (c x y:aT) (i:Nat):aY:=rq t (.pick c x y) i
@[reducible,go_sem] def f4 (t:Nat) (x:aT) (i:Nat):aY:=rq t (.un .not x) i
@[reducible,go_sem] def f5 (t:Nat) (x:aT) (i:Nat):aY:=rq t (.box true x) i
@[reducible,go_sem] def f6 (t:Nat) (f:FuncId) (l:List aT) (i:Nat):aY:=rq t (.call f l) i
@[reducible,go_sem] def f7 (t:Nat) (l:List D1) (i:Nat):aY:=rq t (.alloc l) i
@[reducible,go_sem] def f8 (t n:Nat) (x:aT) (i:Nat):aY:=rq t (.load n true x) i
@[reducible,go_sem] def g0 (n:Nat) (b:Bool) (x y:aT) (i:Nat):aY:=rn (.store n b x y) i
@[reducible,go_sem] def g8 (t:Nat) (x:aT) (m s:List Nat) (k:Bool) (i:Nat):aY:=boF t (.load 1 false x) m s k i
@[reducible,go_sem] def g9 (t k:Nat) (x:aT) (g:Nat) (b:Bool) (i:Nat):aY:=GQ t (.fld k x) g b i
@[reducible,go_sem] def hD (t:Nat) (x:aT) (g:Nat) (b:Bool) (i:Nat):aY:=GQ t (.load 1 false x) g b i
@[reducible,go_sem] def hG (t:Nat) (x:aT) (g:Nat) (b:Bool) (i:Nat):aY:=GQ t (.move x) g b i
@[reducible,go_sem] def hO (t:Nat) (o:BinOp) (x y:aT) (g:Nat) (b:Bool) (i:Nat):aY:=GQ t (.bin o x y) g b i
@[reducible,go_sem] def hP (t:Nat) (x:aT) (g:Nat) (b:Bool) (i:Nat):aY:=GQ t (.un .not x) g b i
@[reducible,go_sem] def j0 (t n:Nat) (x y:aT) (g:Nat) (b:Bool) (i:Nat):aY:=GQ t (.idx n x y) g b i
def nb:Nat→List (Nat→aY)→List aY
 |_,[]=>[]
 |i,f::l=>f i::nb (i+1) l
def ln:List (Nat→aY)→Nat
 | []=>0
 |_::l=>ln l+1
theorem b5 {i:Nat}:nb i []=[]:=rfl
theorem b3 {i:Nat} {f:Nat→aY} {l:List (Nat→aY)}:nb i (f::l)=f i::nb (i+1) l:=rfl
theorem b4:ln []=0:=rfl
theorem b0 {f:Nat→aY} {l:List (Nat→aY)}:ln (f::l)=ln l+1:=rfl
attribute [go_sem] b5 b3 b4 b0
@[reducible] def m2 (ops:List (Nat→aY)) (live:List Nat):AC:=.region (nb 0 ops) (ln ops) live
@[reducible] def boG (ops:List (Nat→aY)) (live:List Nat) (y:AC):AC:=.seq (m2 ops live) y
end Go.AM
