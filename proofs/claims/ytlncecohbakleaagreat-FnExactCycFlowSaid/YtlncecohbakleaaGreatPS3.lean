/- Texts laid together by a program: rules, contracts and the walk that leads to the law. -/
import Derived.Test.YtlncecohbakleaaGreatPS2
import Derived.Lib.Overlaps
import Derived.Test.YtlncecohbakleaaGreatProg
set_option linter.unusedVariables false
set_option linter.unusedSimpArgs false
set_option linter.unusedSectionVars false
set_option maxRecDepth 100000
set_option maxHeartbeats 8000000
noncomputable abbrev bNV:=Go.Proofs.Tryz.prog
abbrev bNW:=Go.AM.aB bNV
abbrev bNX:=Go.AM.D->Go.AM.aA->Nat->Prop
namespace Go.AM
open Go.RowKit
def cK(A B:Prop):D->Prop
 | .one (.c (.v (.bool t)))=>(t=true->A)/\(t=false->B)
 |_=>False
section
variable{P:Program}{T:Nat}{b:Nat}{live:List Nat}{K:Env -> aA -> Nat -> Prop}{L:List aY}{dst:Option Nat}{e:Env}{H:aA}{nx:Nat}{S:dJ}{Q:AQ}{x y z:AC}{zs:List AC}
theorem aM.ar8{c:aT}(h: ∀A B:Prop,(aM P T (x::zs) e H nx Q->A)->(aM P T (y::zs) e H nx Q->B)->cK A B (c.ev e)):aM P T (.cond c x y::zs) e H nx Q:=by
 have h:=h _ _ id id;unfold cK at h;split at h;·rename_i t a;exact aM.cond a h.1 h.2
 ·exact h.elim
theorem atF{A B:Prop}:cK A B (.one (.c (.v (.bool true))))=A:=by simp[cK]
theorem as8{A B:Prop}:cK A B (.one (.c (.v (.bool false))))=B:=by simp[cK]
theorem atC{A B:Prop}{t:Bool}(a:t=true->A)(b:t=false->B):cK A B (.one (.c (.v (.bool t)))):=⟨a,b⟩
theorem atE{A B:Prop}{p:Prop}[Decidable p](a:p->A)(b: ¬p->B):cK A B (.one (.c (.v (.bool (decide p))))):=⟨fun h=>a (by simpa using h),fun h=>b (by simpa using h)⟩
def wvH(P:Program)(b:Nat)(live:List Nat)(K:Env->aA->Nat->Prop)(o:aY)(L:List aY)(t:Nat)(w:Bool)(e:Env)(H:aA)(nx:Nat)(S:dJ):D->Prop
 | .one (.c (.v (.bool x)))=>if x=w then wv P b live K (o::L) (e.set t (.one (.c (.v (.bool x))))) H nx S else wv P b live K L ((e.set t (.one (.c (.v (.bool x))))).put o.dst (.tup [])) H nx S
 | .tup []=>wv P b live K L (e.put o.dst (.tup [])) H nx S
 |_=>False
variable{t:Nat}
theorem Env.amG{e:Env}{d:D}(h:e t=d):e.set t d=e:=by
 funext i;simp only[Env.set];split;·rename_i hi;rw[hi,h]
 ·rfl
variable{ix:Nat}{m s:List Nat}{k:Bool}
theorem atA{w:Bool}{op:AOp}:wv P b live K (⟨ix,dst,op,some (t,w),m,s,k⟩::L) e H nx S=wvH P b live K ⟨ix,dst,op,none,m,s,k⟩ L t w e H nx S (e t):=by
 rw[as9];generalize he:e t=d;by_cases a: ∃x,d= .one (.c (.v (.bool x)));·obtain⟨x,rfl⟩:=a;simp only[wvG,wvH];rw[Env.amG he]
 ·by_cases hu:d= .tup [];·subst hu;rfl
  ·unfold wvG wvH;split;·exact absurd ⟨_,rfl⟩ a
   ·exact absurd rfl hu
   ·split;·exact absurd ⟨_,rfl⟩ a
    ·exact absurd rfl hu
    ·rfl
theorem ar6{o:aY}{w:Bool}:wvH P b live K o L t w e H nx S (.tup [])=wv P b live K L (e.put o.dst (.tup [])) H nx S:=rfl
theorem arM{o:aY}:wvH P b live K o L t true e H nx S (.one (.c (.v (.bool true))))=wv P b live K (o::L) (e.set t (.one (.c (.v (.bool true))))) H nx S:=rfl
theorem aqK{o:aY}:wvH P b live K o L t true e H nx S (.one (.c (.v (.bool false))))=wv P b live K L ((e.set t (.one (.c (.v (.bool false))))).put o.dst (.tup [])) H nx S:=rfl
theorem aqZ{o:aY}:wvH P b live K o L t false e H nx S (.one (.c (.v (.bool true))))=wv P b live K L ((e.set t (.one (.c (.v (.bool true))))).put o.dst (.tup [])) H nx S:=rfl
theorem aqF{o:aY}:wvH P b live K o L t false e H nx S (.one (.c (.v (.bool false))))=wv P b live K (o::L) (e.set t (.one (.c (.v (.bool false))))) H nx S:=rfl
theorem ap6{o:aY}{t:Nat}{w u:Bool}(a:u=true->wvH P b live K o L t w e H nx S (.one (.c (.v (.bool true)))))(d:u=false->wvH P b live K o L t w e H nx S (.one (.c (.v (.bool false))))):
 wvH P b live K o L t w e H nx S (.one (.c (.v (.bool u)))):=by
 cases u with
 |true=>exact a rfl
 |false=>exact d rfl
theorem aqG{o:aY}{t:Nat}{w:Bool}{p:Prop}[Decidable p](h:p)(a:wvH P b live K o L t w e H nx S (.one (.c (.v (.bool true))))):wvH P b live K o L t w e H nx S (.one (.c (.v (.bool (decide p))))):=by rw[decide_eq_true h];exact a
theorem arS{o:aY}{t:Nat}{w:Bool}{p:Prop}[Decidable p](h: ¬p)(a:wvH P b live K o L t w e H nx S (.one (.c (.v (.bool false))))):wvH P b live K o L t w e H nx S (.one (.c (.v (.bool (decide p))))):=by rw[decide_eq_false h];exact a
theorem asQ{o:aY}{t:Nat}{w:Bool}{p:Prop}[Decidable p](a:p->wvH P b live K o L t w e H nx S (.one (.c (.v (.bool true)))))(d: ¬p->wvH P b live K o L t w e H nx S (.one (.c (.v (.bool false))))):
 wvH P b live K o L t w e H nx S (.one (.c (.v (.bool (decide p))))):=
 ap6 (fun h=>a (by simpa using h)) (fun h=>d (by simpa using h))
theorem am5{z:List D1}:wv P b live K (⟨ix,dst,.alloc z,none,m,s,k⟩::L) e H nx S=wvA P b live K L dst (b+ix) e H nx S (lT (b+ix) e (.alloc z)):=am2 rfl
theorem aqH{g:Bool}{x:aT}:wv P b live K (⟨ix,dst,.box g x,none,m,s,k⟩::L) e H nx S=wvA P b live K L dst (b+ix) e H nx S (lT (b+ix) e (.box g x)):=am2 rfl
theorem ag2{n len:Nat}{z:List D1}{a:List (Nat×Nat×aT)}:wv P b live K (⟨ix,dst,.bC n len z a,none,m,s,k⟩::L) e H nx S=wvA P b live K L dst (b+ix) e H nx S (lT (b+ix) e (.bC n len z a)):=am2 rfl
theorem abU{n:Nat}{z:List D1}{x y:aT}:wv P b live K (⟨ix,dst,.kY n z x y,none,m,s,k⟩::L) e H nx S=wvA P b live K L dst (b+ix) e H nx S (lT (b+ix) e (.kY n z x y)):=am2 rfl
theorem apC{id:Nat}{st:List Nat}{c:Prop}[Decidable c]{a:Nat}{x:Option (Option Nat×Nat×Nat×List (List D1))}:wvP P b live K L dst id m st e H nx S a (if c then x else none)=(c/\wvP P b live K L dst id m st e H nx S a x):=by split<;>rename_i h<;>simp[h,wvP]
theorem aq4{n i off len cap:Nat}:amE (.one (.c (.osl n i off len cap)))=cap:=rfl
theorem W0{st:List Nat}:lU [] st H=True:=by simp[lU]
theorem W5{p:Nat}{g:aA->Prop}{st:List Nat}:lU ((p,g)::S) st H=((p∈st->g H)/\lU S st H):=by simp[lU]
theorem aiG{k:XK}{l:List aT}:aU H e (.xop k l)=xq k (l.map (·.ev e)):=rfl
def ak0(P:Program)(args:List D)(H:aA)(nx:Nat)(R:bNX):D->Prop
 | .one (.c (.clo f caps))=>aB P f (args++caps.map fun d=>.one (.c d)) H nx R
 |_=>False
theorem am1{f:aT}{xs:List aT}:wv P b live K (⟨ix,dst,.t5 f xs,none,m,s,k⟩::L) e H nx S=ak0 P (xs.map (·.ev e)) (msk b m H) nx (DQ P b live K L dst m s e H S) (f.ev e):=by
 unfold wv;simp only[avc,l8,vI,aop,AOp.kind,HX];generalize f.ev e=d;unfold ak0;split;·simp only[D.one.injEq,DV.c.injEq,D1.clo.injEq,eq_iff_iff];exact⟨by rintro⟨_,_,⟨rfl,rfl⟩,h⟩;exact h,fun h=>⟨_,_,⟨rfl,rfl⟩,h⟩⟩
 ·rename_i a;simp only[eq_iff_iff,iff_false];rintro⟨f,caps,rfl,_⟩;exact a f caps rfl
section
variable{id i kn:Nat}{bl ok:Bool}{R:bNX}{m:mH}{l:List Int}{n:Int}{k v:D}
theorem alB:xl P id H nx R (.DS kn bl) []=R (.one (.c (.omap id))) (H.set id (u4 ⟨kn,bl,[]⟩)) nx:=rfl
theorem ahU:xl P id H nx R .sS [.one (.c (.omap i))]=xlL H nx R (I7 H i):=rfl
theorem aeF:xl P id H nx R .sS [.one (.c (.MY m))]=xlL H nx R (some m):=rfl
theorem acY:xl P id H nx R (.rA kn bl ok) [.one (.c (.MY m)),k]=xlG H nx R kn bl ok (some m) (OA kn k):=rfl
theorem agY:xl P id H nx R (.rA kn bl ok) [.one (.c (.omap i)),k]=xlG H nx R kn bl ok (I7 H i) (OA kn k):=rfl
theorem agN:xl P id H nx R (.vM kn bl) [.one (.c (.omap i)),k,v]=xlS H nx R kn bl i (I7 H i) (OA kn k) (S4 bl v):=rfl
theorem akW:xlL H nx R (some m)=R (.one (.c (.v (.int .i64 m.m.length)))) H nx:=rfl
theorem ar3:xlG H nx R kn bl true (some m) (some l)=((m.kn=kn/\m.bl=bl/\l.length=zV kn)/\R (.tup [.c (.v (elemV bl ((jT m.m l).getD 0))),.c (.v (.bool (jT m.m l).isSome))]) H nx):=rfl
theorem asJ:xlG H nx R kn bl false (some m) (some l)=((m.kn=kn/\m.bl=bl/\l.length=zV kn)/\R (.one (.c (.v (elemV bl ((jT m.m l).getD 0))))) H nx):=rfl
theorem alO:xlS H nx R kn bl i (some m) (some l) (some n)=((m.kn=kn/\m.bl=bl/\l.length=zV kn)/\R .dead (H.set i (u4 ⟨kn,bl,vA m.m l n⟩)) nx):=rfl
theorem akH:I7 H i=(H i).bind anD:=rfl
theorem amZ{cs:List D1}:OA kn (.one (.agg cs))=if kn=0 then none else xY cs:=rfl
theorem arU:OA kn (.one (.c (.v (.int .i64 n))))=if kn=0 then some [n] else none:=rfl
theorem aoM{b:Bool}:S4 bl (.one (.c (.v (.bool b))))=if bl then some (if b then 1 else 0) else none:=rfl
theorem apQ:S4 bl (.one (.c (.v (.int .i64 n))))=if bl then none else some n:=rfl
theorem anS:elemV true n= .bool (decide (n≠0)):=rfl
theorem aoQ:elemV false n= .int .i64 n:=rfl
theorem ai1:xY []=some []:=rfl
theorem ad0{r:List D1}:xY (.v (.int .i64 n)::r)=(xY r).map (n:: ·):=rfl
theorem aqT{xs ys:List D1}{g:Bool}{q:Nat}:xq (.aeq g q) [.one (.agg xs),.one (.agg ys)]=eqD g q xs ys (xY xs) (xY ys):=rfl
theorem al8{xs ys:List D1}{q:Nat}{a b:List Int}:eqD false q xs ys (some a) (some b)=if xs.length=q/\ys.length=q then some (.one (.c (.v (.bool (decide (a=b)))))) else none:=rfl
theorem aoY{xs ys:List D1}{q:Nat}{a b:List Int}:eqD true q xs ys (some a) (some b)=if xs.length=q/\ys.length=q then some (.one (.c (.v (.bool (decide (¬a=b)))))) else none:=rfl
theorem apG:zV kn=if kn=0 then 1 else kn:=rfl
end
theorem GH{F:Nat->Prop}{σ:Nat->Nat}{nh:Nat}{x a:mH}(h:a=x):CvO H F σ nh (u4 a) (u4 x):=by subst h;exact bS fun r hr=>by cases hr
theorem ahX{f:FuncId}{caps:List D1}{args:List D}{R:bNX}:ak0 P args H nx R (.one (.c (.clo f caps)))=aB P f (args++caps.map fun d=>.one (.c d)) H nx R:=rfl
theorem atD{a b:Int}:(a==b)=decide (a=b):=by by_cases h:a=b<;>simp[h]
theorem atH{a b:Int}:(a != b)=decide (¬a=b):=by by_cases h:a=b<;>simp[h]
theorem as6{p:Prop}[Decidable p]:(!decide p)=decide (¬p):=by by_cases h:p<;>simp[h]
theorem ao0{α:Type}{enc:α->List D1}{l:List α}{i:Nat}{x:α}:(l.map enc).set i (enc x)=(l.set i x).map enc:=(brD).symm
theorem ak2{α:Type}{enc:α->List D1}{l:List α}{x:α}:l.map enc++[enc x]=(l++[x]).map enc:=by simp
theorem akQ{α:Type}{enc:α->List D1}{l:List α}{k:Nat}:(l.map enc).take k=(l.take k).map enc:=(List.map_take).symm
theorem ajN{α:Type}{enc:α->List D1}{l:List α}{k:Nat}:(l.map enc).drop k=(l.drop k).map enc:=(brE).symm
end
abbrev boP(n:Int):D:=.one (.c (.v (.int .i64 n)))
abbrev dB(b:Bool):D:=.one (.c (.v (.bool b)))
abbrev dS(rows:List (List D1)):D:=.one (.c (.isl rows))
abbrev boQ(n id len cap:Nat):D:=.one (.c (.osl n id 0 len cap))
abbrev bkP(n id:Nat):D:=.one (.c (.ptr n id 0 0))
abbrev boR(cs:List D1):D:=.one (.agg cs)
abbrev cI(n:Int):D1:=.v (.int .i64 n)
abbrev cB(b:Bool):D1:=.v (.bool b)
def aJ(x:Int):List D1:=[.v (.int .i64 x)]
theorem q9{p:Prop}[Decidable p](h:p):dB true=dB (decide p):=by rw[decide_eq_true h]
theorem j7{p:Prop}[Decidable p](h: ¬p):dB false=dB (decide p):=by rw[decide_eq_false h]
theorem pD{p q:Prop}[Decidable p][Decidable q](h:p↔q):dB (decide p)=dB (decide q):=by rw[decide_eq_decide.2 h]
theorem qA{a b:Int}(h:a=b):boP a=boP b:=by rw[h]
theorem ak8{l:List Int}{x:Int}:l.map aJ++[[.v (.int .i64 x)]]=(l++[x]).map aJ:=by simp[aJ]
theorem apF{l:List Int}{i:Nat}{x:Int}:(l.map aJ).set i [.v (.int .i64 x)]=(l.set i x).map aJ:=by rw[brD];rfl
attribute [go_sem] ak8 apF
section
variable {rows : List (List D1)} {k k' k'' : IntKind} {a b c : Int} {n m id off len cap : Nat}
theorem arX:sJ n (.one (.c (.isl rows))) none (some (.one (.c (.v (.int k a))))) none=if (0<=a/\a<=rows.length)/\(∀r∈rows,r.length=n) then some (.one (.c (.isl (rows.take a.toNat)))) else none:=by
 by_cases boS: ∀r∈rows,r.length=n;·by_cases b:0<=a<;>simp only[sJ,EA,b,eq_true boS,if_true,if_false,reduceIte,and_true,and_false,true_and,false_and]<;>(repeat' split)<;>first|rfl| (exfalso;omega)| (simp only[bq5,Nat.sub_zero,Option.some.injEq,D.one.injEq,DV.c.injEq,D1.isl.injEq];first|rfl|exact boL (by simp)|exact boL (m5 _))
 ·by_cases b:0<=a<;>simp only[sJ,EA,b,eq_false boS,if_true,if_false,reduceIte,and_true,and_false,true_and,false_and]<;>(repeat' split)<;>first|rfl| (exfalso;omega)| (simp only[bq5,Nat.sub_zero,Option.some.injEq,D.one.injEq,DV.c.injEq,D1.isl.injEq];first|rfl|exact boL (by simp)|exact boL (m5 _))
theorem arK:sJ n (.one (.c (.osl m id off len cap))) none (some (.one (.c (.v (.int k a))))) none=if (m=n\/cap=0)/\0<=a/\a<=cap then some (.one (.c (.osl n id off a.toNat cap))) else none:=by by_cases b:0<=a<;>simp only[sJ,EA,ZU,b,if_true,if_false,reduceIte,and_true,true_and,and_false,false_and]<;>(repeat' split)<;>first| (exfalso;omega)| (simp;done)| (simp;omega)
theorem arB:sJ n (.one (.c (.osl m id off len cap))) (some (.one (.c (.v (.int k a))))) none none=if (m=n\/cap=0)/\0<=a/\a<=len/\len<=cap then some (.one (.c (.osl n id (off+a.toNat) (len-a.toNat) (cap-a.toNat)))) else none:=by by_cases b:0<=a<;>simp only[sJ,EA,ZU,b,if_true,if_false,reduceIte,and_true,true_and,and_false,false_and]<;>(repeat' split)<;>first| (exfalso;omega)| (simp;done)| (simp;omega)
theorem apA:sJ n (.one (.c (.osl m id off len cap))) (some (.one (.c (.v (.int k a))))) (some (.one (.c (.v (.int k' b))))) none=if (m=n\/cap=0)/\0<=a/\a<=b/\b<=cap then some (.one (.c (.osl n id (off+a.toNat) (b.toNat-a.toNat) (cap-a.toNat)))) else none:=by by_cases d:0<=a<;>by_cases e:0<=b<;>simp only[sJ,EA,ZU,d,e,if_true,if_false,reduceIte,and_true,true_and,and_false,false_and]<;>(repeat' split)<;>first| (exfalso;omega)| (simp;done)| (simp;omega)
theorem aoL:sJ n (.one (.c (.osl m id off len cap))) none (some (.one (.c (.v (.int k a))))) (some (.one (.c (.v (.int k' b)))))=if (m=n\/cap=0)/\0<=a/\a<=b/\b<=cap then some (.one (.c (.osl n id off a.toNat b.toNat))) else none:=by by_cases d:0<=a<;>by_cases e:0<=b<;>simp only[sJ,EA,ZU,d,e,if_true,if_false,reduceIte,and_true,true_and,and_false,false_and]<;>(repeat' split)<;>first| (exfalso;omega)| (simp;done)| (simp;omega)
theorem akE:sJ n (.one (.c (.osl m id off len cap))) (some (.one (.c (.v (.int k a))))) (some (.one (.c (.v (.int k' b))))) (some (.one (.c (.v (.int k'' c)))))=if (m=n\/cap=0)/\0<=a/\a<=b/\b<=c/\c<=cap then some (.one (.c (.osl n id (off+a.toNat) (b.toNat-a.toNat) (c.toNat-a.toNat)))) else none:=by by_cases d:0<=a<;>by_cases e:0<=b<;>by_cases hc:0<=c<;>simp only[sJ,EA,ZU,d,e,hc,if_true,if_false,reduceIte,and_true,true_and,and_false,false_and]<;>(repeat' split)<;>first| (exfalso;omega)| (simp;done)| (simp;omega)
end
attribute [go_sem] arX arK arB apA aoL akE true_or or_true
def en:List (Nat×D)->Env
 | []=>Env.nil
 | (t,d)::l=>(en l).set t d
theorem arY:en []=Env.nil:=rfl
theorem aoG{t:Nat}{d:D}{l:List (Nat×D)}:en ((t,d)::l)=(en l).set t d:=rfl
def hp:List (Nat×bA)->aA
 | []=>aA.nil
 | (i,o)::l=>(hp l).set i o
theorem arI:hp []=aA.nil:=rfl
theorem anY{i:Nat}{o:bA}{l:List (Nat×bA)}:hp ((i,o)::l)=(hp l).set i o:=rfl
def DV.imm:DV->Bool
 | .c d=>d.dQ
 | .agg a=>a.all D1.dQ
def D.imm:D->Bool
 | .one x=>x.imm
 | .tup xs=>xs.all DV.imm
 | .dead=>false
section
variable{P:Program}{H G:aA}{F:Nat -> Prop}{σ:Nat -> Nat}{nx nh:Nat}{e e':Env}
theorem YP{τ:Nat->Nat}{d:D1}(h:d.dQ=true):rn1 τ d=d:=by cases d<;>first|rfl|cases h
theorem af4{τ:Nat->Nat}{d:DV}(h:d.imm=true):rnV τ d=d:=by
 cases d with
 |c d=>simp only[rnV];rw[YP h]
 |agg a=>
  simp only[rnV];congr 1;have b:=w2.1 h;conv=>rhs;rw[<-brT a]
  exact brC fun x e=>YP (b x e)
theorem af7{τ:Nat->Nat}{d:D}(h:d.imm=true):rnD τ d=d:=by
 cases d with
 |one x=>simp only[rnD];rw[af4 h]
 |dead=>rfl
 |tup xs=>
  simp only[rnD];congr 1;have a:=w2.1 h;conv=>rhs;rw[<-brT xs]
  exact brC fun x b=>af4 (a x b)
theorem al1{d:DV}(h:d.imm=true):CvV H F σ nh d d:=by
 cases d with
 |c d=>exact bB h
 |agg b=>exact GW fun x a=>w2.1 h x a
theorem aE{d:D}(h:d.imm=true):CvD H F σ nh d d:=by
 cases d with
 |one x=>exact al1 h
 |dead=>trivial
 |tup xs=>refine⟨rfl,fun i a b c e=> ?_⟩;rw[c] at e;cases e;exact al1 (w2.1 h a (s3 c))
theorem aB.fresh{f:FuncId}{args:List D}{K:bNX}{R:D->Prop}(h:aB P f args .nil 0 fun r _ n=>n=0/\r.imm=true/\R r)(a:args.all D.imm=true)(bPN: ∀r,R r->K r H nx):aB P f args H nx K:=by
 refine aB.lift h id rfl (fun i e d b c=> ?_) PS (fun i hi=>absurd hi (bq2 i)) (fun i j hi=>absurd hi (bq2 i)) fun r H' k _ ⟨b,c,g⟩=> ?_;·rw[b] at c;cases c;exact aE (w2.1 a e (s3 b))
 ·subst b;rw[af7 c];exact bPN r g
theorem V4{Q:AQ}{rs:List aW}{R:D->Prop}(e: ∀ex b H2 a d nh d2 f F σ,ex=AEx.normal\/ex=AEx.ret->yT H2 b rs=some d->CvR 0 d H2 nh d2 f F σ->(nh=0/\d2.imm=true/\R d2)->Q ex b H2 a)
 {b:Env} {H2:aA} {a:Nat} (c d:D) (g:yT H2 b rs=some d) (h:CvD H2 (fun _=>True) id 0 c d) (i:c.imm=true) (k9:R c):Q .ret b H2 a:=
 e _ _ _ _ d 0 c .nil (fun _=>True) id (.inr rfl) g ⟨m5 _,fun _ _=>rfl,h,PS⟩ ⟨rfl,i,k9⟩
def alR(n:Nat)(rows:List (List D1)):Prop:=∀r∈rows,r.length=n/\ ∀x∈r,x.dQ=true
variable{n:Nat}
theorem aG{α:Type}{enc:α->List D1}(h: ∀x,(enc x).length=n/\(enc x).all D1.dQ=true)(l:List α):alR n (l.map enc):=by intro r hr;obtain⟨x,_,rfl⟩:=CF.1 hr;exact⟨(h x).1,w2.1 (h x).2⟩
variable{rows:List (List D1)}{len cap:Nat}
theorem XN{id:Nat}{o:bA}(hi:alR n rows)(hl:len=rows.length)(d:F id)(e:H id=some o)(f:o.n=n)(hr:o.rows.take rows.length=rows)(hc:rows.length<=cap):Cv1 H F σ nh (.isl rows) (.osl n id 0 len cap):=by
 subst hl;have hle:rows.length<=o.rows.length:=by have:=congrArg List.length hr;rw[CG] at this;omega
 have g: ∀i:Nat,∀r',rows[i]?=some r'->o.rows[i]?=some r':=by
  intro i r' h;rw[<-hr,s4] at h;split at h;·exact h
  ·cases h
 refine .frz (.frz rows n id 0 cap o (fun i j=>((rows[i]?.getD [])[j]?).getD .dead) d e f (by omega) hc (fun i r' h=>(hi r' (s3 h)).1) (fun i j r' c a b=>⟨r',by rw[Y4];exact g i r' a,by rw[a];simp[b]⟩) fun i j r' c a b=> ?_);rw[a];simp only[Option.getD_some,b];exact .same c ((hi r' (s3 a)).2 c (s3 b))
theorem xG{n id off:Nat}:Cv1 H F σ nh (.isl []) (.osl n id off 0 0):=.frz (.nil n id off)
theorem aaF{n id d off a len b cap c:Nat}(h:d<nh)(hs:σ d=id)(e:a=off)(f:b=len)(g:c=cap):Cv1 H F σ nh (.osl n d a b c) (.osl n id off len cap):=by subst e;subst f;subst g;exact an2 h hs
theorem DJ{id:Nat}{o:bA}(hi:alR n rows)(hl:len=rows.length)(a:F id)(b:H id=some o)(d:o.n=n)(hr:o.rows.take rows.length=rows)(hc:rows.length<=cap):CvD H F σ nh (dS rows) (.one (.c (.osl n id 0 len cap))):=XN hi hl a b d hr hc
theorem qS{id e off a b d:Nat}(h:e<nh)(hs:σ e=id)(f:a=off)(g:b=len)(i:d=cap):CvD H F σ nh (.one (.c (.osl n e a b d))) (.one (.c (.osl n id off len cap))):=aaF h hs f g i
theorem YY{f:FuncId}{caps:List D1}(h:caps.all D1.dQ=true):Cv1 H F σ nh (.clo f caps) (.clo f caps):=
 .clo f caps caps rfl fun i x y a b=>by rw[a] at b;cases b;have:=w2.1 h x (s3 a);exact .inl ⟨this,.same x this⟩
theorem kC{f:FuncId}{caps:List D1}(h:caps.all D1.dQ=true):CvD H F σ nh (.one (.c (.clo f caps))) (.one (.c (.clo f caps))):=YY h
def amT(H:aA)(F:Nat->Prop):List D1->List D1->Prop
 | [],[]=>True
 |x::xs,y::ys=>(x.dQ=true/\Frz H F x y)/\amT H F xs ys
 |_,_=>False
theorem BZ: ∀{xs ys:List D1},amT H F xs ys->xs.length=ys.length/\ ∀(i:Nat) (x y:D1),xs[i]?=some x->ys[i]?=some y->x.dQ=true/\Frz H F x y
 | [],[],_=>⟨rfl,fun i x y h=>by simp at h⟩
 |a::xs,b::ys,h=>⟨by simp[(BZ h.2).1],fun i x y c d=>by
  match i with
  |0=>simp at c d;subst c;subst d;exact h.1
  |i+1=>exact(BZ h.2).2 i x y (by simpa using c) (by simpa using d)⟩
 | [],_::_,h=>h.elim
 |_::_,[],h=>h.elim
theorem PR{f:FuncId}{a caps:List D1}(h:amT H F a caps):CvD H F σ nh (.one (.c (.clo f a))) (.one (.c (.clo f caps))):=
 .clo f caps a (BZ h).1 fun i x y b d=>.inl ((BZ h).2 i x y b d)
theorem zE{cells:List D1}{id:Nat}{o:bA}(hi:cells.all D1.dQ=true)(b:F id)(c:H id=some o)(d:o.n=n)(hr:o.rows[0]?=some cells):(D1.fQ cells).dQ=true/\Frz H F (.fQ cells) (.ptr n id 0 0):=
 ⟨rfl,.ptr cells n id 0 0 o cells (fun j=>(cells[j]?).getD .dead) b c d hr (fun j a h=>by simp[h]) (fun j a h=>by
  simp only[h,Option.getD_some]
  exact .same a (w2.1 hi a (s3 h)))⟩
theorem aeE{cells:List D1}{n id:Nat}{o:bA}(hi:cells.all D1.dQ=true)(a:F id)(b:H id=some o)(d:o.n=n)(hr:o.rows[0]?=some cells):CvD H F σ nh (.one (.c (.fQ cells))) (.one (.c (.ptr n id 0 0))):=
 .frz (zE hi a b d hr).2
theorem bU(hle:nx<=nh)(h:CvE H (fun _=>True) id nh e' e): ∃F σ,Cv nx e H nh e' .nil F σ:=⟨fun _=>True,id,hle,fun _ _=>rfl,h,PS⟩
def ap5(H:aA):List D->List D->Prop
 | [],[]=>True
 |a::l0,d::l=>CvD H (fun _=>True) id 0 a d/\ap5 H l0 l
 |_,_=>False
theorem aI: ∀{l0 l:List D},ap5 H l0 l->∀(i:Nat) (c d:D),l0[i]?=some c->l[i]?=some d->CvD H (fun _=>True) id 0 c d
 | [],[],_,i,c,d,e,_=>by simp at e
 |a::l0,b::l,h,i,c,d,e,f=>by
  match i with
  |0=>simp at e f;subst e;subst f;exact h.1
  |i+1=>exact aI h.2 i c d (by simpa using e) (by simpa using f)
 | [],_::_,h,_,_,_,_,_=>h.elim
 |_::_,[],h,_,_,_,_,_=>h.elim
theorem yP{α:Type}{enc:α->List D1}{l:List α}{id m:Nat}(he: ∀x,(enc x).length=n/\(enc x).all D1.dQ=true)(a:H id=some ⟨n,m,l.map enc⟩)(hl:len=l.length)(hc:l.length<=cap)(b:F id):CvD H F σ nh (dS (l.map enc)) (.one (.c (.osl n id 0 len cap))):=DJ (aG he l) (by simp[hl]) b a rfl (boL (m5 _)) (by simp;omega)
theorem oF{t:Nat}{d:D}{l:List (Nat×D)}(h:CvE H F σ nh (en l) e)(a:CvD H F σ nh d (e t)):CvE H F σ nh (en ((t,d)::l)) e:=anZ h a
theorem K6:CvE H F σ nh (en []) e:=fun _=>trivial
def sgL(nx:Nat)(s:List Nat)(i:Nat):Nat:=if i<nx then i else (s[i-nx]?).getD i
def OkO(H:aA)(F:Nat->Prop)(σ:Nat->Nat)(nh:Nat):List (Nat×bA)->Prop
 | []=>True
 |p::l=>(p.1<nh/\ ¬F (σ p.1)/\ ∃o,H (σ p.1)=some o/\CvO H F σ nh p.2 o)/\OkO H F σ nh l
theorem XC: ∀{l:List (Nat×bA)} {i:Nat} {o:bA},hp l i=some o->(i,o)∈l
 | [],i,o,h=>by simp[hp,aA.nil] at h
 | (j,p)::l,i,o,h=>by
   simp only[hp,aA.set] at h;split at h;·rename_i hi;cases h;subst hi;simp
   ·exact bq9 _ (XC h)
theorem af2: ∀{l:List (Nat×bA)},OkO H F σ nh l->∀p∈l,p.1<nh/\ ¬F (σ p.1)/\ ∃o,H (σ p.1)=some o/\CvO H F σ nh p.2 o
 | [],_,p,hp=>by simp at hp
 |q::l,h,p,hp=>by
  rcases t3.1 hp with rfl|hp;·exact h.1
  ·exact af2 h.2 p hp
variable{l:List (Nat×bA)}
theorem ahG(h:(l.map fun p=>σ p.1).Nodup){p q:Nat×bA}(c:p∈l)(d:q∈l)(he:σ p.1=σ q.1):p=q:=by
 induction l with
 |nil=>simp at c
 |cons a l e=>
  simp only[n3,bq8] at h;rcases t3.1 c with b|b<;>rcases t3.1 d with k9|k9;·rw[b,k9]
  ·subst b;exact absurd (CF.2 ⟨q,k9,he.symm⟩:σ p.1∈l.map fun p=>σ p.1) h.1
  ·subst k9;exact absurd (CF.2 ⟨p,b,he⟩:σ q.1∈l.map fun p=>σ p.1) h.1
  ·exact e h.2 b k9
theorem QQ(h:OkO H F σ nh l)(b:(l.map fun p=>σ p.1).Nodup):CvH H F σ nh (hp l):=⟨fun id o' a=>af2 h _ (XC a),fun i j o o' hi c he=>congrArg Prod.fst (ahG b (XC hi) (XC c) he)⟩
theorem cR(s:List Nat)(hle:nx<=nh)(bPQ:CvE H (· ∉s) (sgL nx s) nh e' e)(boT:OkO H (· ∉s) (sgL nx s) nh l)(a:(l.map fun p=>sgL nx s p.1).Nodup): ∃F σ,Cv nx e H nh e' (hp l) F σ:=⟨_,_,hle,fun i hi=>by simp[sgL,hi],bPQ,QQ boT a⟩
theorem fU{d a:D}(s:List Nat)(hle:nx<=nh)(b:CvD H (· ∉s) (sgL nx s) nh a d)(boT:OkO H (· ∉s) (sgL nx s) nh l)(c:(l.map fun p=>sgL nx s p.1).Nodup):CvR nx d H nh a (hp l) (· ∉s) (sgL nx s):=⟨hle,fun i hi=>by simp[sgL,hi],b,QQ boT c⟩
theorem bP{m b:Nat}{a:List (List D1)}(hi:alR n a)(h:a=rows)(hm:b=m):CvO H F σ nh ⟨n,b,a⟩ ⟨n,m,rows⟩:=by subst h;subst hm;exact bS fun r hr=>(hi r hr).2
theorem aM.ar4{P:Program}{T:Nat}{e:Env}{H:aA}{nx:Nat}{Q:AQ}{x:AC}{zs:List AC}{α:Type}(m:Nat)(E:Nat->α->Env)(G:Nat->α->aA)(μ:α->Nat)(a:α)(c: ∃F σ,Cv nx e H (nx+m) (E nx a) (G nx a) F σ)
 (h: ∀u,∀K:Env->aA->Nat->Prop,(∀e' H' nx' b,nx+m<=nx'->μ b<μ u->(∃F σ,Cv nx e' H' (nx+m) (E nx b) (G nx b) F σ)->K e' H' nx')->aM P T [x] (E nx u) (G nx u) (nx+m) (AQ.then K Q)):aM P T (.loop x::zs) e H nx Q:=
 aM.loop (E nx) (G nx) (nx+m) μ a c h
end
attribute [go_sem] aq4 alB ahU aeF agY acY agN akW ar3 asJ alO akH ahL amZ arU aoM apQ anS aoQ ai1 ad0 aqT al8 aoY apG W0 W5 t3 bq7 or_false false_or or_self aiG am1 ahX akQ ajN apC boL List.length_range bx0 am5 aqH ag2 abU atA ar6 arM aqK aqZ aqF atF as8 atD atH as6 ao0 ak2 arY aoG arI anY aJ gt_iff_lt ge_iff_le Int.reduceEq Int.reduceNe Int.reduceLT Int.reduceLE Int.reduceAdd Int.reduceSub Int.reduceMul Int.reduceNeg decide_true decide_false Int.toNat_natCast Z1 Bool.not_false not_true_eq_false not_false_eq_true Y2 t2 Nat.reduceMul Nat.reduceSub Nat.reduceLT Int.reduceToNat
section
variable{P:Program}{H G:aA}{F:Nat -> Prop}{σ:Nat -> Nat}{nx nh:Nat}{e e':Env}
def C7(o:bA):Prop:=∀r∈o.rows,∀x∈r,x.dQ=true
theorem rF{τ:Nat->Nat}{o:bA}(h:C7 o):o.rn τ=o:=by
 unfold bA.rn;congr 1;conv=>rhs;rw[<-brT o.rows]
 refine brC fun r hr=> ?_;conv=>rhs;rw[<-brT r]
 exact brC fun x a=>YP (h r hr x a)
theorem aA.arQ{i:Nat}{o:bA}:H.upd i (some o)=H.set i o:=rfl
theorem aB.OU{f:FuncId}{args0 args:List D}{K:bNX}{o:bA}{R:D->bA->Prop}(i:Nat)(h:aB P f args0 (hp [(0,o)]) 1 fun r H' c=>c=1/\ ∃o',H'=hp [(0,o')]/\C7 o'/\R r o')(hlen:args.length=args0.length)
 (a: ∀(j:Nat) (g d:D),args0[j]?=some g->args[j]?=some d->CvD H (fun _=>False) (fun _=>i) 1 g d) (hi:i<nx) (l:H i=some o) (b:C7 o) (bPN: ∀r o',R r o'->K (rnD (tau 1 nx fun _=>i) r) (H.set i o') nx):aB P f args H nx K:=by
 refine aB.lift h (fun _=>i) hlen a (QQ ⟨⟨Nat.zero_lt_one,fun h=>h,o,l,bS b⟩,trivial⟩ (by simp)) (fun j _=>hi) (fun j k q s _=>by omega) fun r H' c hle ⟨m,o',n,p,k9⟩=> ?_
 subst m;subst n
 have e:back (tau 1 nx fun _=>i) (hp [(0,o')]) 1 H=H.set i o':=by
  simp only[back,hp,aA.set,Option.map_some,rF p,aA.arQ,if_true];have:tau 1 nx (fun _=>i) 0=i:=by simp[tau]
  rw[this]
 rw[e]
 exact bPN r o' k9
theorem aB.aUH{f:FuncId}{args0 args:List D}{K:bNX}{m n:bA}{R:D->bA->bA->Prop}(i j:Nat)(h:aB P f args0 (hp [(0,m),(1,n)]) 2 fun r H' s=>s=2/\ ∃c g,H'=hp [(0,c),(1,g)]/\C7 c/\C7 g/\R r c g)(hlen:args.length=args0.length)
 (l: ∀(k:Nat) (t d:D),args0[k]?=some t->args[k]?=some d->CvD H (fun _=>False) (fun k=>if k=0 then i else j) 2 t d) (hi:i<nx) (z:j<nx) (o:i≠j) (p:H i=some m) (q:H j=some n) (u:C7 m) (v:C7 n)
 (bPN: ∀r c g,R r c g->K (rnD (tau 2 nx fun k=>if k=0 then i else j) r) ((H.set i c).set j g) nx):aB P f args H nx K:=by
 refine aB.lift h (fun k=>if k=0 then i else j) hlen l (QQ ⟨⟨by simp,fun h=>h,m,by simpa using p,bS u⟩,⟨by simp,fun h=>h,n,by simpa using q,bS v⟩,trivial⟩ (by simpa using o)) (fun k _=>by split<;>assumption) (fun a b A B he=> ?_) fun r H' s hle ⟨w,c,g,x,bPC,bPD,bPE⟩=> ?_
 ·split at he<;>split at he<;>omega
 subst w;subst x
 have e:back (tau 2 nx fun k=>if k=0 then i else j) (hp [(0,c),(1,g)]) 2 H=(H.set i c).set j g:=by
  have boU:tau 2 nx (fun k=>if k=0 then i else j) 0=i:=by simp[tau]
  have y:tau 2 nx (fun k=>if k=0 then i else j) 1=j:=by simp[tau]
  simp only[back,hp,aA.set,boU,y,Option.map_some,rF bPC,rF bPD,if_true,Y4];simp only[Nat.zero_ne_one,brN,if_false,Option.map_some,rF bPC,rF bPD];rfl
 rw[e]
 exact bPN r c g bPE
theorem lA{Q:AQ}{rs:List aW}{R:D->bA->Prop}(f: ∀ex b H2 a d nh d2 e F σ,ex=AEx.normal\/ex=AEx.ret->yT H2 b rs=some d->CvR 1 d H2 nh d2 e F σ->(nh=1/\ ∃o',e=hp [(0,o')]/\C7 o'/\R d2 o')->Q ex b H2 a)
 {b:Env} {H2:aA} {a:Nat} (c d:D) (o':bA) (g:yT H2 b rs=some d) (j:CvD H2 (fun i=>i≠0) id 1 c d) (k:H2 0=some o') (k9:C7 o') (l1:R c o'):Q .ret b H2 a:=
 f _ _ _ _ d 1 c (hp [(0,o')]) (fun i=>i≠0) id (.inr rfl) g ⟨m5 _,fun _ _=>rfl,j,QQ ⟨⟨Nat.zero_lt_one,fun h=>h rfl,o',k,bS k9⟩,trivial⟩ (by simp)⟩ ⟨rfl,o',rfl,k9,l1⟩
theorem aTE{Q:AQ}{rs:List aW}{R:D->bA->bA->Prop}(k: ∀ex g H2 a d nh d2 j F σ,ex=AEx.normal\/ex=AEx.ret->yT H2 g rs=some d->CvR 2 d H2 nh d2 j F σ->(nh=2/\ ∃b c,j=hp [(0,b),(1,c)]/\C7 b/\C7 c/\R d2 b c)->Q ex g H2 a)
 {g:Env} {H2:aA} {a:Nat} (h d:D) (e f:bA) (l:yT H2 g rs=some d) (m:CvD H2 (fun i=>2<=i) id 2 h d) (n:H2 0=some e) (k9:H2 1=some f) (l1:C7 e) (bOW:C7 f) (bO2:R h e f):Q .ret g H2 a:=
 k _ _ _ _ d 2 h (hp [(0,e),(1,f)]) (fun i=>2<=i) id (.inr rfl) l ⟨m5 _,fun _ _=>rfl,m,QQ ⟨⟨by simp,by simp,e,n,bS l1⟩,⟨by simp,by simp,f,k9,bS bOW⟩,trivial⟩ (by simp)⟩ ⟨rfl,e,f,rfl,l1,bOW,bO2⟩
theorem oB{α:Type}{enc:α->List D1}{n m:Nat}(h: ∀x,(enc x).length=n/\(enc x).all D1.dQ=true)(l:List α):C7 ⟨n,m,l.map enc⟩:=fun r hr=>(aG h l r hr).2
def aqS(H:aA)(τ:Nat->Nat)(n:Nat):List D->List D->Prop
 | [],[]=>True
 |a::l0,d::l=>CvD H (fun _=>False) τ n a d/\aqS H τ n l0 l
 |_,_=>False
theorem gW{τ:Nat->Nat}{n:Nat}: ∀{l0 l:List D},aqS H τ n l0 l->∀(i:Nat) (c d:D),l0[i]?=some c->l[i]?=some d->CvD H (fun _=>False) τ n c d
 | [],[],_,i,c,d,e,_=>by simp at e
 |a::l0,b::l,h,i,c,d,e,f=>by
  match i with
  |0=>simp at e f;subst e;subst f;exact h.1
  |i+1=>exact gW h.2 i c d (by simpa using e) (by simpa using f)
 | [],_::_,h,_,_,_,_,_=>h.elim
 |_::_,[],h,_,_,_,_,_=>h.elim
end
section
variable{P:Program}{T:Nat}{e:Env}{H:aA}{nx:Nat}{Q:AQ}
theorem aM.sG{x:AC}{zs:List AC}{β:Type}(m:Nat)(E:Nat->β->Env)(G:Nat->β->aA)(I:β->Prop)(μ:β->Nat)(v0:β)(c: ∃F σ,Cv nx e H (nx+m) (E nx v0) (G nx v0) F σ)(hi:I v0)
 (h: ∀v,I v->∀K:Env->aA->Nat->Prop,(∀e' H' nx' a,nx+m<=nx'->(∃F σ,Cv nx e' H' (nx+m) (E nx a) (G nx a) F σ)->I a->μ a<μ v->K e' H' nx')->aM P T [x] (E nx v) (G nx v) (nx+m) (AQ.then K Q)):aM P T (.loop x::zs) e H nx Q:=
 aM.ar4 (α:={v:β//I v}) m (fun b u=>E b u.1) (fun b u=>G b u.1) (fun u=>μ u.1) ⟨v0,hi⟩ c fun u K bPN=>h u.1 u.2 K fun e' H' nx' a d f g k9=>bPN e' H' nx' ⟨a,g⟩ d k9 f
theorem arT{H:aA}{F:Nat->Prop}{σ:Nat->Nat}{nh:Nat}{a b:D1}(h:Cv1 H F σ nh a b):Cv1 H F σ nh a b:=h
theorem aqR{H:aA}{F:Nat->Prop}{σ:Nat->Nat}{nh:Nat}{a b:D}(h:CvD H F σ nh a b):CvD H F σ nh a b:=h
theorem asF{H:aA}{F:Nat->Prop}{σ:Nat->Nat}{nh:Nat}{a b:D1}(h:a=b)(hi:a.dQ=true):Cv1 H F σ nh a b:=h▸bB hi
theorem bW{H:aA}{F:Nat->Prop}{σ:Nat->Nat}{nh:Nat}{α:Type}{enc:α->List D1}{l:List α}{n id len cap m:Nat}(he: ∀x,(enc x).length=n/\(enc x).all D1.dQ=true)(a:H id=some ⟨n,m,l.map enc⟩)(hl:len=l.length)(hc:l.length<=cap)(b:F id):Cv1 H F σ nh (.isl (l.map enc)) (.osl n id 0 len cap):=XN (aG he l) (by simp[hl]) b a rfl (boL (m5 _)) (by simp;omega)
def kpm(b:Nat)(l:List Nat)(H:aA):aA:=fun i=>if i∈l.map (b+ ·) then H i else none
variable{b i:Nat}{l:List Nat}{o:bA}{G:aA}
theorem akT:msk b l (H.set i o)=if i∈l.map (b+ ·) then msk b l H else (msk b l H).set i o:=by
 split
 ·rename_i h;funext j;simp only[msk,aA.set];by_cases a:j=i;·subst a;simp only[h,if_true]
  ·simp only[a,if_false]
 ·rename_i h;funext j;simp only[msk,aA.set];by_cases a:j=i;·subst a;simp only[h,if_true,if_false]
  ·simp only[a,if_false]
theorem akY:msk b l aA.nil=aA.nil:=by funext j;simp only[msk,aA.nil];split<;>rfl
theorem an1:msk b l (H.del i)=(msk b l H).del i:=by funext j;simp only[msk,aA.del];split<;>split<;>rfl
theorem aoS:kpm b l (H.set i o)=if i∈l.map (b+ ·) then (kpm b l H).set i o else kpm b l H:=by
 split
 ·rename_i h;funext j;simp only[kpm,aA.set];by_cases a:j=i;·subst a;simp only[h,if_true]
  ·simp only[a,if_false]
 ·rename_i h;funext j;simp only[kpm,aA.set];by_cases a:j=i;·subst a;simp only[h,if_false]
  ·simp only[a,if_false]
theorem al5:kpm b l aA.nil=aA.nil:=by funext j;simp only[kpm,aA.nil];split<;>rfl
theorem abQ:dT b l H aA.nil=kpm b l H:=by funext j;simp only[dT,kpm,aA.nil]
theorem aeC:dT b l H (G.set i o)=if i∈l.map (b+ ·) then dT b l H G else (dT b l H G).set i o:=by
 split
 ·rename_i h;funext j;simp only[dT,aA.set];by_cases a:j=i;·subst a;simp only[h,if_true]
  ·simp only[a,if_false]
 ·rename_i h;funext j;simp only[dT,aA.set];by_cases a:j=i;·subst a;simp only[h,if_true,if_false]
  ·simp only[a,if_false]
theorem ahD:dT b l H (G.del i)=if i∈l.map (b+ ·) then dT b l H G else (dT b l H G).del i:=by
 split
 ·rename_i h;funext j;simp only[dT,aA.del];by_cases a:j=i;·subst a;simp only[h,if_true]
  ·simp only[a,if_false]
 ·rename_i h;funext j;simp only[dT,aA.del];by_cases a:j=i;·subst a;simp only[h,if_true,if_false]
  ·simp only[a,if_false]
variable{a c:bA}
theorem yE{H:aA}{i j:Nat}(h: ¬i=j):(H.set i a).set j c=(H.set j c).set i a:=by
 funext k;simp only[aA.set];by_cases d:k=j;·subst d;rw[if_pos rfl,if_neg (fun b=>h b.symm),if_pos rfl]
 ·rw[if_neg d];by_cases b:k=i;·rw[if_pos b,if_pos b]
  ·rw[if_neg b,if_neg b,if_neg d]
variable{boV:Nat}{boW:bA}
theorem ajH{H:aA}{i:Nat}(b: ¬boV=i):((H.set i a).set boV boW).set i c=((H.set i c).set boV boW):=by rw[yE b,aA.set_set]
variable{bO8:Nat}{b1:bA}
theorem am6{H:aA}{i:Nat}(b: ¬boV=i)(d: ¬bO8=i):(((H.set i a).set boV boW).set bO8 b1).set i c=(((H.set i c).set boV boW).set bO8 b1):=by rw[yE d,ajH b]
variable{bO9:Nat}{b2:bA}
theorem alU{H:aA}{i:Nat}(b: ¬boV=i)(d: ¬bO8=i)(e: ¬bO9=i):((((H.set i a).set boV boW).set bO8 b1).set bO9 b2).set i c=((((H.set i c).set boV boW).set bO8 b1).set bO9 b2):=by rw[yE e,am6 b d]
variable{bPL:Nat}{boX:bA}
theorem alA{H:aA}{i:Nat}(b: ¬boV=i)(d: ¬bO8=i)(e: ¬bO9=i)(f: ¬bPL=i):(((((H.set i a).set boV boW).set bO8 b1).set bO9 b2).set bPL boX).set i c=(((((H.set i c).set boV boW).set bO8 b1).set bO9 b2).set bPL boX):=by rw[yE f,alU b d e]
theorem ajJ{H:aA}{i bPM:Nat}{boY:bA}(b: ¬boV=i)(d: ¬bO8=i)(e: ¬bO9=i)(f: ¬bPL=i)(k9: ¬bPM=i):((((((H.set i a).set boV boW).set bO8 b1).set bO9 b2).set bPL boX).set bPM boY).set i c=((((((H.set i c).set boV boW).set bO8 b1).set bO9 b2).set bPL boX).set bPM boY):=by rw[yE k9,alA b d e f]
theorem akV{H:aA}{i bPM bPR:Nat}{boY boZ:bA}(b: ¬boV=i)(d: ¬bO8=i)(e: ¬bO9=i)(f: ¬bPL=i)(k9: ¬bPM=i)(l1: ¬bPR=i):(((((((H.set i a).set boV boW).set bO8 b1).set bO9 b2).set bPL boX).set bPM boY).set bPR boZ).set i c=(((((((H.set i c).set boV boW).set bO8 b1).set bO9 b2).set bPL boX).set bPM boY).set bPR boZ):=by rw[yE l1,ajJ b d e f k9]
theorem arR{H:aA}{i bPM bPR bPS:Nat}{boY boZ bkQ:bA}(b: ¬boV=i)(d: ¬bO8=i)(e: ¬bO9=i)(f: ¬bPL=i)(k9: ¬bPM=i)(l1: ¬bPR=i)(bOW: ¬bPS=i):((((((((H.set i a).set boV boW).set bO8 b1).set bO9 b2).set bPL boX).set bPM boY).set bPR boZ).set bPS bkQ).set i c=((((((((H.set i c).set boV boW).set bO8 b1).set bO9 b2).set bPL boX).set bPM boY).set bPR boZ).set bPS bkQ):=by rw[yE bOW,akV b d e f k9 l1]
theorem aoB{i:Nat}:aA.nil.del i=aA.nil:=by funext k;simp only[aA.del,aA.nil];split<;>rfl
theorem ae7{H:aA}{i:Nat}:(H.set i a).del i=H.del i:=by funext k;simp only[aA.set,aA.del];split<;>rfl
theorem adA{H:aA}{i j:Nat}(h: ¬i=j):(H.set j a).del i=(H.del i).set j a:=by
 funext k;simp only[aA.set,aA.del];by_cases b:k=i;·subst b;simp[h]
 ·simp[b]
end
attribute [go_sem] ajH am6 alU alA ajJ akV arR aoB ae7 adA Nat.reduceLT akT akY an1 aoS al5 abQ aeC ahD
def nth(s:List Nat)(i:Nat):Nat:=s[i]?.getD 0
section
variable{P:Program}{H:aA}{nx:Nat}{τ:Nat -> Nat}{H0:aA}
theorem aB.AF{f:FuncId}{args0 args:List D}{K:bNX}{l0:List (Nat×bA)}{R:bNX}(s:List Nat)(h:aB P f args0 (hp l0) s.length R)(hlen:args.length=args0.length)
 (a:aqS H (nth s) s.length args0 args) (boT:OkO H (fun _=>False) (nth s) s.length l0) (c:(l0.map fun p=>nth s p.1).Nodup) (hs: ∀x∈s,x<nx) (d:s.Nodup)
 (bPN: ∀r H' b,s.length<=b->R r H' b->K (rnD (tau s.length nx (nth s)) r) (back (tau s.length nx (nth s)) H' b H) (nx+(b-s.length))):aB P f args H nx K:=
 aB.lift h (nth s) hlen (gW a) (QQ boT c) (fun i hi=>by rw[nth,n1 hi];exact hs _ (Z5 hi))
   (fun i j hi e he=>by
    rw[nth,nth,n1 hi,n1 e,Option.getD_some,Option.getD_some] at he
    exact(List.getElem_inj d).1 he) bPN
theorem aB.azZ{f:FuncId}{args0 args:List D}{K:bNX}{R:D->Prop}(h:aB P f args0 .nil 0 fun r _ n=>n=0/\r.imm=true/\R r)(hlen:args.length=args0.length)(a:aqS H (nth []) 0 args0 args)(bPN: ∀r,R r->K r H nx):aB P f args H nx K:=by refine aB.AF (l0:=[]) [] h hlen a trivial (by simp) (by simp) (by simp) fun r H' e _ ⟨b,c,d⟩=> ?_;subst b;rw[af7 c];exact bPN r d
theorem uB{n m:Nat}{l:List Int}:bA.rn τ ⟨n,m,l.map aJ⟩=⟨n,m,l.map aJ⟩:=by refine rF fun r hr x a=> ?_;obtain⟨y,_,rfl⟩:=CF.1 hr;simp only[aJ,CJ] at a;subst a;rfl
theorem ayY{F:Nat->Prop}{σ:Nat->Nat}{nh:Nat}{xs ys:List D1}(h:CvL H F σ nh xs ys):CvV H F σ nh (.agg xs) (.agg ys):=h
theorem ay7{F:Nat->Prop}{σ:Nat->Nat}{nh:Nat}{a b x y:DV}(d:CvV H F σ nh a x)(e:CvV H F σ nh b y):CvD H F σ nh (.tup [a,b]) (.tup [x,y]):=
 ⟨rfl,fun i u v hu c=>by
  match i with
  |0=>simp at hu c;subst hu;subst c;exact d
  |1=>simp at hu c;subst hu;subst c;exact e
  |i+2=>simp at hu⟩
theorem yI{i:Nat}:H.upd i none=H.del i:=rfl
end
section
variable{P:Program}{H:aA}{nx:Nat}
theorem uO{F:Nat->Prop}{σ:Nat->Nat}{nh n m c:Nat}{R a rows:List (List D1)}{r' r:List D1}(e':a=R++[r'])(e:rows=R++[r])(f: ∀r∈R,∀x∈r,x.dQ=true)(hm:c=m)(h:CvL H F σ nh r' r):CvO H F σ nh ⟨n,c,a⟩ ⟨n,m,rows⟩:=by
 subst e';subst e;subst hm;refine⟨rfl,rfl,by simp,fun _ h=>by simp at h,fun i d b=> ?_⟩;simp only[o5] at b ⊢;by_cases hi:i<R.length;·rw[if_pos hi] at b ⊢;exact⟨d,b,GW fun x g=>f d (s3 b) x g⟩
 ·rw[if_neg hi] at b ⊢;rw[List.getElem?_singleton] at b ⊢;split at b;·rename_i j;cases b;exact⟨r,if_pos j,h⟩
  ·cases b
variable{b ix:Nat}{live m s:List Nat}{L:List aY}{dst:Option Nat}{e:Env}{S:dJ}{xs:List aT}{lk:Bool}
theorem alH{K:Env->aA->Nat->Prop}{neg:Bool}:wv P b live K (⟨ix,dst,.xop (.qJ neg) xs,none,m,s,lk⟩::L) e H nx S=xl P (b+ix) (msk b m H) nx (DQ P b live K L dst m s e H S) (.qJ neg) (xs.map (·.ev e)):=aaO rfl
theorem anL{K:Env->aA->Nat->Prop}{n:Nat}:wv P b live K (⟨ix,dst,.xop (.copy n) xs,none,m,s,lk⟩::L) e H nx S=xl P (b+ix) (msk b m H) nx (DQ P b live K L dst m s e H S) (.copy n) (xs.map (·.ev e)):=aaO rfl
theorem amC{K:Env->aA->Nat->Prop}{n:Nat}{z:List D1}:wv P b live K (⟨ix,dst,.xop (.clear n z) xs,none,m,s,lk⟩::L) e H nx S=xl P (b+ix) (msk b m H) nx (DQ P b live K L dst m s e H S) (.clear n z) (xs.map (·.ev e)):=aaO rfl
theorem amI{K:Env->aA->Nat->Prop}{kn:Nat}{bl:Bool}:wv P b live K (⟨ix,dst,.xop (.DS kn bl) xs,none,m,s,lk⟩::L) e H nx S=xl P (b+ix) (msk b m H) nx (DQ P b live K L dst m s e H S) (.DS kn bl) (xs.map (·.ev e)):=aaO rfl
theorem agK{K:Env->aA->Nat->Prop}:wv P b live K (⟨ix,dst,.xop .sS xs,none,m,s,lk⟩::L) e H nx S=xl P (b+ix) (msk b m H) nx (DQ P b live K L dst m s e H S) .sS (xs.map (·.ev e)):=aaO rfl
theorem ag8{K:Env->aA->Nat->Prop}{kn:Nat}{bl ok:Bool}:wv P b live K (⟨ix,dst,.xop (.rA kn bl ok) xs,none,m,s,lk⟩::L) e H nx S=xl P (b+ix) (msk b m H) nx (DQ P b live K L dst m s e H S) (.rA kn bl ok) (xs.map (·.ev e)):=aaO rfl
theorem ag3{K:Env->aA->Nat->Prop}{kn:Nat}{bl:Bool}:wv P b live K (⟨ix,dst,.xop (.vM kn bl) xs,none,m,s,lk⟩::L) e H nx S=xl P (b+ix) (msk b m H) nx (DQ P b live K L dst m s e H S) (.vM kn bl) (xs.map (·.ev e)):=aaO rfl
theorem ak7{F:Nat->Prop}{σ:Nat->Nat}{nh n m d:Nat}{R a rows:List (List D1)}{r' r:List D1}{i:Nat}(e':a=R)(e:rows=R.set i r)(hi:R[i]?=some r')(k: ∀r∈R,∀x∈r,x.dQ=true)(hm:d=m)(h:CvL H F σ nh r' r):CvO H F σ nh ⟨n,d,a⟩ ⟨n,m,rows⟩:=by
 subst e';subst e;subst hm;refine⟨rfl,rfl,by simp,fun _ h=>by dsimp only at h ⊢;rw[h];rfl,fun j f b=> ?_⟩;simp only[D0];by_cases g:i=j;·subst g;have c:i<a.length:=(m3.1 b).1;rw[if_pos rfl,if_pos c];rw[hi] at b;cases b;exact⟨r,rfl,h⟩
 ·rw[if_neg g];exact⟨f,b,GW fun x l=>k f (s3 b) x l⟩
theorem atN{α:Type}[Inhabited α]{enc:α->List D1}{l:List α}{k:Nat}(h:k<l.length):(l.map enc)[k]?=some (enc (l.getD k default)):=by simp[List.getD,h]
theorem atL{c:Prop}[Decidable c]{A B:Prop}(a:c->A)(b: ¬c->B):if c then A else B:=by
 split;·exact a ‹_›
 ·exact b ‹_›
attribute [go_sem] alH anL amC amI agK ag8 ag3
end
theorem anJ{H:aA}{F:Nat->Prop}{σ:Nat->Nat}{nh n m d:Nat}{a rows junk:List (List D1)}(hi: ∀r∈a,∀x∈r,x.dQ=true)(h:rows=a++junk)(hm:d=m)(b:n≠0):CvO H F σ nh ⟨n,d,a⟩ ⟨n,m,rows⟩:=by subst h;subst hm;refine⟨rfl,rfl,by simp,fun e _=>absurd e b,fun i r c=> ?_⟩;refine⟨r,?_,GW fun x f=>hi r (s3 c) x f⟩;rw[brO (m3.1 c).1];exact c
end Go.AM
namespace Go.AM
@[reducible,go_sem] def rq (t:Nat) (o:AOp) (i:Nat):aY:=⟨i,some t,o,none,[],[],false⟩
@[reducible,go_sem] def rn (o:AOp) (i:Nat):aY:=⟨i,none,o,none,[],[],false⟩
@[reducible,go_sem] def ki (n:Int):aT:=.kv (.int .i64 n)
@[reducible,go_sem] def RM (t a i:Nat):aY:=rq t (.move (.tm a)) i
@[reducible,go_sem] def RF (t k a i:Nat):aY:=rq t (.fld k (.tm a)) i
@[reducible,go_sem] def RL (t a i:Nat):aY:=rq t (.load 1 false (.tm a)) i
@[reducible,go_sem] def RK (t a i:Nat):aY:=rq t (.tF (.tm a)) i
@[reducible,go_sem] def GQ (t:Nat) (o:AOp) (g:Nat) (b:Bool) (i:Nat):aY:=⟨i,some t,o,some (g,b),[],[],false⟩
@[reducible,go_sem] def VZ:D1:=.v (.int .i64 0)
@[reducible,go_sem] def OZ:D1:=.osl 0 0 0 0 0
def aN(P:Program)(f:FuncId)(fn:Func)(ac:AC)(rs:List aW):Prop:=
 ∀{args:List D} {H:aA} {nx:Nat} {b:bNX} (_hl:Nat.ble args.length fn.ntmps=true)
  (_h: ∀Q:AQ,(∀ex c H2 a d nh d2 e F σ,ex= .normal\/ex= .ret->yT H2 c rs=some d->CvR nx d H2 nh d2 e F σ->b d2 e nh->Q ex c H2 a)->aM P fn.ntmps [ac] (Env.args 0 args) H nx Q),aB P f args H nx b
theorem aN.mk{P:Program}{f:FuncId}{fn:Func}{ac:AC}{rs:List aW}{cs:List Cert}
 (b:P.funcs[f]?=some fn) (a:qY P f=true) (hc:aO P fn cs=some (ac,rs)):aN P f fn ac rs:=
 fun hl h=>aB.body b a hc (boM hl) h
theorem dbT{p:Prop}[Decidable p](h:p):D1.v (.bool (decide p))= .v (.bool true):=by rw[decide_eq_true h]
theorem dbE{p q:Prop}[Decidable p][Decidable q](h:p↔q):D1.v (.bool (decide p))= .v (.bool (decide q)):=by rw[decide_eq_decide.2 h]
theorem diE{a b:Int}(h:a=b):D1.v (.int .i64 a)= .v (.int .i64 b):=by rw[h]
abbrev bo0:=@arT
abbrev bo1:=@aqR
abbrev bo2:=@K6
abbrev bo3:=@oF
abbrev bo4:=@eP
abbrev bo5:=@aH
abbrev aUP:=@ay7
abbrev aUQ:=@ayY
abbrev bo6:=@lY
abbrev bo7:=@apS
abbrev bo8:=@aE
abbrev bo9:=@bB
abbrev bpA:=@afQ
abbrev bpB:=@aaF
abbrev bpC:=@afZ
abbrev bpD:=@aa6
abbrev bpE:=@xG
abbrev bpF:=@asF
abbrev bpG:=@YY
abbrev bpH:=@aeE
abbrev btD:=@aM.seq
abbrev bpI:=@atL
abbrev btI:=@aM.reg
abbrev bpJ:=@aqG
abbrev bpK:=@arS
abbrev bpL:=@asQ
abbrev bpM:=@ap6
abbrev btK:=@aM.ret
abbrev Iw:=@IntWalk.i64_in
end Go.AM
namespace Go.AM
open Go.RowKit
inductive Tg(zs:List AC)(Q:AQ):Type where
 |mk
@[reducible] def bnG (P:Program) (T:Nat) (zs:List AC) (Q:AQ) (_:Tg zs Q):Env->aA->Nat->Prop:=fun e H nx=>aM P T zs e H nx Q
def vd(P:Program)(T:Nat)(x y:AC)(zs:List AC)(e:Env)(H:aA)(nx:Nat)(Q:AQ)(_:Tg (x::y::zs) Q)(d:D):Prop:=cK (aM P T (x::zs) e H nx Q) (aM P T (y::zs) e H nx Q) d
def vc(P:Program)(T:Nat):List AC->Env->aA->Nat->AQ->Prop
 | [],e,H,nx,Q=>Q .normal e H nx
 | .skip::zs,e,H,nx,Q=>aM P T zs e H nx Q
 | .region ops n live::zs,e,H,nx,Q=>wv P nx live (bnG P T zs Q .mk) ops e H (nx+n) []
 | .seq x y::zs,e,H,nx,Q=>aM P T (x::y::zs) e H nx Q
 | .cond c x y::zs,e,H,nx,Q=>vd P T x y zs e H nx Q .mk (c.ev e)
 | .block id x::zs,e,H,nx,Q=>aM P T [x] e H nx (AQ.blk id (bnG P T zs Q .mk) Q)
 | .loop x::zs,e,H,nx,Q=>aM P T (.loop x::zs) e H nx Q
 | .exit id::_,e,H,nx,Q=>Q (.exit id) e H nx
 | .ret::_,e,H,nx,Q=>Q .ret e H nx
section
variable{P:Program}{T:Nat}{live:List Nat}{ops:List aY}{n id:Nat}{c:aT}{e:Env}{H:aA}{nx:Nat}{Q:AQ}{x y:AC}{zs:List AC}{K:Env -> aA -> Nat -> Prop}
theorem bn0(h:aM P T zs e H nx Q):bnG P T zs Q .mk e H nx:=h
theorem bn1(h:vc P T zs e H nx Q):aM P T zs e H nx Q:=by
 cases zs with
 |nil=>exact h
 |cons x zs=>
  cases x with
  |skip=>exact aM.skip h
  |region ops n live=>exact AWP.region h
  |seq x y=>exact aM.seq h
  |cond c x y=>
   refine aM.ar8 fun A B d hB=> ?_;have h:cK (aM P T (x::zs) e H nx Q) (aM P T (y::zs) e H nx Q) (c.ev e):=h;unfold cK at h;unfold cK;split at h;·rename_i t f;exact⟨fun b=>d (h.1 b),fun b=>hB (h.2 b)⟩
   ·exact h.elim
  |block id x=>
   refine aM.block fun K bPN=>AWP.mono h fun ex e' H' nx' _ a=> ?_
   cases ex with
   |normal=>exact bPN _ _ _ a
   |exit i=>
    simp only[AQ.then,AQ.blk] at a ⊢;split;·rename_i hi;rw[if_pos hi] at a;exact bPN _ _ _ a
    ·rename_i hi;rw[if_neg hi] at a;exact a
   |ret=>exact a
  |loop x=>exact h
  |exit id=>exact aM.exit h
  |ret=>exact aM.ret h
theorem bnP:vc P T [] e H nx Q=Q .normal e H nx:=rfl
theorem bnI:vc P T (.skip::zs) e H nx Q=aM P T zs e H nx Q:=rfl
theorem bnO:vc P T (.region ops n live::zs) e H nx Q=wv P nx live (bnG P T zs Q .mk) ops e H (nx+n) []:=rfl
theorem bnM:vc P T (.seq x y::zs) e H nx Q=aM P T (x::y::zs) e H nx Q:=rfl
theorem bnK:vc P T (.cond c x y::zs) e H nx Q=vd P T x y zs e H nx Q .mk (c.ev e):=rfl
theorem bnH:vc P T (.block id x::zs) e H nx Q=aM P T [x] e H nx (AQ.blk id (bnG P T zs Q .mk) Q):=rfl
theorem bnJ:vc P T (.exit id::zs) e H nx Q=Q (.exit id) e H nx:=rfl
theorem bnQ:vc P T (.ret::zs) e H nx Q=Q .ret e H nx:=rfl
theorem bnZ{g:Tg (x::y::zs) Q}:vd P T x y zs e H nx Q g (.one (.c (.v (.bool true))))=aM P T (x::zs) e H nx Q:=atF
theorem bnX{g:Tg (x::y::zs) Q}:vd P T x y zs e H nx Q g (.one (.c (.v (.bool false))))=aM P T (y::zs) e H nx Q:=as8
theorem bnT{g:Tg (x::y::zs) Q}{p:Prop}[Decidable p](h:p):vd P T x y zs e H nx Q g (.one (.c (.v (.bool (decide p)))))=aM P T (x::zs) e H nx Q:=by rw[decide_eq_true h];exact atF
theorem bnU{g:Tg (x::y::zs) Q}{p:Prop}[Decidable p](h: ¬p):vd P T x y zs e H nx Q g (.one (.c (.v (.bool (decide p)))))=aM P T (y::zs) e H nx Q:=by rw[decide_eq_false h];exact as8
theorem bnE{g:Tg (x::y::zs) Q}{p:Prop}[Decidable p](a:p->aM P T (x::zs) e H nx Q)(b: ¬p->aM P T (y::zs) e H nx Q):vd P T x y zs e H nx Q g (.one (.c (.v (.bool (decide p))))):=atE a b
theorem bnF{g:Tg (x::y::zs) Q}{t:Bool}(a:t=true->aM P T (x::zs) e H nx Q)(b:t=false->aM P T (y::zs) e H nx Q):vd P T x y zs e H nx Q g (.one (.c (.v (.bool t)))):=atC a b
theorem bnN:AQ.then K Q .normal=K:=rfl
theorem bnL:AQ.then K Q .ret=Q .ret:=rfl
theorem bnS:AQ.then K Q (.exit id)=Q (.exit id):=rfl
theorem bnV{i:Nat}:AQ.blk i K Q .normal=K:=rfl
theorem bnW{i:Nat}:AQ.blk i K Q .ret=Q .ret:=rfl
theorem bw7{i j:Nat}(h: ¬j=i):AQ.blk i K Q (.exit j)=Q (.exit j):=by simp[AQ.blk,h]
attribute [go_sem] bnZ bnX bnN bnL bnS bnV bnW
attribute [go_sem ↓] bnP bnI bnO bnM bnK bnH bnJ bnQ
end
def bnY(o:aY):Nat×List Nat×List Nat×Bool:=(o.ix,o.mask,o.amN,o.look)
def bnD:AC->List Cert
 | .region ops _ live=>[⟨ops.map bnY,live⟩]
 | .seq x y=>bnD x++bnD y
 | .cond _ x y=>bnD x++bnD y
 | .block _ x=>bnD x
 | .loop x=>bnD x
 |_=>[]
instance {n:Nat}:OfNat aT n:=⟨.tm n⟩
theorem bnR{n:Nat}:(OfNat.ofNat n:aT)= .tm n:=rfl
attribute [go_sem] bnR
section
variable{P:Program}{T:Nat}{e:Env}{H:aA}{nx:Nat}{Q:AQ}{x y:AC}{zs:List AC}{K:Env -> aA -> Nat -> Prop}
theorem bn2{g:Tg (x::y::zs) Q}{p:Prop}[Decidable p](h:p)(a:aM P T (x::zs) e H nx Q):vd P T x y zs e H nx Q g (.one (.c (.v (.bool (decide p))))):=by rw[bnT h];exact a
theorem bn3{g:Tg (x::y::zs) Q}{p:Prop}[Decidable p](h: ¬p)(a:aM P T (y::zs) e H nx Q):vd P T x y zs e H nx Q g (.one (.c (.v (.bool (decide p))))):=by rw[bnU h];exact a
theorem bw9{i j:Nat}(h:Nat.beq j i=false)(a:Q (.exit j) e H nx):AQ.blk i K Q (.exit j) e H nx:=by rw[bw7 (fun he=>by rw[he] at h;simp at h)];exact a
end
section
variable {H : aA} {F : Nat -> Prop} {σ : Nat -> Nat} {nh t : Nat} {e : Env} {l : List (Nat × D)}
theorem xqI{d:D}(a:d.imm=true)(he:e t=d)(h:CvE H F σ nh (en l) e):CvE H F σ nh (en ((t,d)::l)) e:=oF h (by rw[he];exact aE a)
theorem xqP{n a id row b:Nat}(hl:a<nh)(hs:σ a=id)(he:e t= .one (.c (.ptr n id row b)))(h:CvE H F σ nh (en l) e):CvE H F σ nh (en ((t,.one (.c (.ptr n a row b)))::l)) e:=oF h (by rw[he];exact apS (afZ hl hs))
theorem xqO{n b id off len a cap:Nat}(hl:b<nh)(hs:σ b=id)(he:e t= .one (.c (.osl n id off len cap)))(d:a=len)(h:CvE H F σ nh (en l) e):CvE H F σ nh (en ((t,.one (.c (.osl n b off a cap)))::l)) e:=oF h (by rw[he];exact apS (aaF hl hs rfl d rfl))
theorem xqV{a b:Int}(he:e t= .one (.c (.v (.int .i64 b))))(d:a=b)(h:CvE H F σ nh (en l) e):CvE H F σ nh (en ((t,.one (.c (.v (.int .i64 a))))::l)) e:=oF h (by rw[he,d];exact aE rfl)
end
def vcR(P:Program)(T:Nat):List AC->Env->aA->Nat->AQ->Prop
 | .seq (.region ops n live) y::zs,e,H,nx,Q=>wv P nx live (bnG P T (y::zs) Q .mk) ops e H (nx+n) []
 |zs,e,H,nx,Q=>vc P T zs e H nx Q
section
variable{P:Program}{T:Nat}{live:List Nat}{ops:List aY}{n id:Nat}{c:aT}{e:Env}{H:aA}{nx:Nat}{Q:AQ}{x y:AC}{zs:List AC}
theorem boA:vcR P T (.seq (.region ops n live) y::zs) e H nx Q=wv P nx live (bnG P T (y::zs) Q .mk) ops e H (nx+n) []:=rfl
theorem bn9:vcR P T [] e H nx Q=vc P T [] e H nx Q:=rfl
theorem bn5:vcR P T (.skip::zs) e H nx Q=vc P T (.skip::zs) e H nx Q:=rfl
theorem bn8:vcR P T (.region ops n live::zs) e H nx Q=vc P T (.region ops n live::zs) e H nx Q:=rfl
theorem bn6:vcR P T (.cond c x y::zs) e H nx Q=vc P T (.cond c x y::zs) e H nx Q:=rfl
theorem Z8:vcR P T (.block id x::zs) e H nx Q=vc P T (.block id x::zs) e H nx Q:=rfl
theorem bn4:vcR P T (.exit id::zs) e H nx Q=vc P T (.exit id::zs) e H nx Q:=rfl
theorem bn7:vcR P T (.ret::zs) e H nx Q=vc P T (.ret::zs) e H nx Q:=rfl
attribute [go_sem ↓] boA bn9 bn5 bn8 bn6 Z8 bn4 bn7
end
theorem boC:(∀a b c:Nat,a+b+c=a+(b+c))/\(∀{a b:Nat},a=a+b↔b=0)/\ ∀{a b:Nat},a+b=a↔b=0:=⟨t1,bqT,bqV⟩
@[reducible,go_sem] def boD:aT:=.kv (.bool false)
@[reducible,go_sem] def boE:aT:=.kv (.bool true)
@[reducible,go_sem] def boF (t:Nat) (o:AOp) (m s:List Nat) (k:Bool) (i:Nat):aY:=⟨i,some t,o,none,m,s,k⟩
@[reducible,go_sem] def dA (t:Option Nat) (o:AOp) (g:Option (Nat×Bool)) (m s:List Nat) (k:Bool) (i:Nat):aY:=⟨i,t,o,g,m,s,k⟩
@[reducible,go_sem] def dI (t:Nat) (b:BinOp) (x y:aT) (i:Nat):aY:=rq t (.bin b x y) i
@[reducible,go_sem] def dO (t:Nat) (x:aT) (i:Nat):aY:=rq t (.move x) i
@[reducible,go_sem] def e0 (t n:Nat) (x y:aT) (i:Nat):aY:=rq t (.idx n x y) i
@[reducible,go_sem] def f1 (t:Nat) (x:aT) (i:Nat):aY:=rq t (.len false x) i
@[reducible,go_sem] def f3 (t:Nat) (c x y:aT) (i:Nat):aY:=rq t (.pick c x y) i
@[reducible,go_sem] def f4 (t:Nat) (x:aT) (i:Nat):aY:=rq t (.un .not x) i
@[reducible,go_sem] def f5 (t:Nat) (x:aT) (i:Nat):aY:=rq t (.box true x) i
@[reducible,go_sem] def f6 (t:Nat) (f:FuncId) (l:List aT) (i:Nat):aY:=rq t (.call f l) i
@[reducible,go_sem] def f7 (t:Nat) (l:List D1) (i:Nat):aY:=rq t (.alloc l) i
@[reducible,go_sem] def f8 (t n:Nat) (x:aT) (i:Nat):aY:=rq t (.load n true x) i
@[reducible,go_sem] def g0 (n:Nat) (b:Bool) (x y:aT) (i:Nat):aY:=rn (.store n b x y) i
@[reducible,go_sem] def g8 (t:Nat) (x:aT) (m s:List Nat) (k:Bool) (i:Nat):aY:=boF t (.load 1 false x) m s k i
@[reducible,go_sem] def g9 (t k:Nat) (x:aT) (g:Nat) (b:Bool) (i:Nat):aY:=GQ t (.fld k x) g b i
@[reducible,go_sem] def hD (t:Nat) (x:aT) (g:Nat) (b:Bool) (i:Nat):aY:=GQ t (.load 1 false x) g b i
@[reducible,go_sem] def hG (t:Nat) (x:aT) (g:Nat) (b:Bool) (i:Nat):aY:=GQ t (.move x) g b i
@[reducible,go_sem] def hO (t:Nat) (o:BinOp) (x y:aT) (g:Nat) (b:Bool) (i:Nat):aY:=GQ t (.bin o x y) g b i
@[reducible,go_sem] def hP (t:Nat) (x:aT) (g:Nat) (b:Bool) (i:Nat):aY:=GQ t (.un .not x) g b i
@[reducible,go_sem] def j0 (t n:Nat) (x y:aT) (g:Nat) (b:Bool) (i:Nat):aY:=GQ t (.idx n x y) g b i
def nb:Nat->List (Nat->aY)->List aY
 |_,[]=>[]
 |i,f::l=>f i::nb (i+1) l
def ln:List (Nat->aY)->Nat
 | []=>0
 |_::l=>ln l+1
theorem b5{i:Nat}:nb i []=[]:=rfl
theorem b3{i:Nat}{f:Nat->aY}{l:List (Nat->aY)}:nb i (f::l)=f i::nb (i+1) l:=rfl
theorem b4:ln []=0:=rfl
theorem b0{f:Nat->aY}{l:List (Nat->aY)}:ln (f::l)=ln l+1:=rfl
attribute [go_sem] b5 b3 b4 b0
@[reducible] def m2 (ops:List (Nat->aY)) (live:List Nat):AC:=.region (nb 0 ops) (ln ops) live
@[reducible] def boG (ops:List (Nat->aY)) (live:List Nat) (y:AC):AC:=.seq (m2 ops live) y
end Go.AM
namespace Go.Proofs.YtlncecohbakleaaGreat
open Go Go.AM
def bOL:Nat:=8
def bJX:Nat:=9
def bOM:Nat:=11
def a1J:Nat:=13
def bN9:Nat:=14
def aZL:Nat:=16
def bN2:Nat:=17
def a1B:Nat:=20
def bN3:Nat:=21
def bAD:Nat:=22
def bN5:Nat:=23
def tV:Nat:=27
def bOQ:Nat:=30
def FO:Nat:=35
def aI5:Nat:=48
def bl1:Nat:=49
def zX:Nat:=51
def a0E:Nat:=53
def bJU:Nat:=54
def B7:Nat:=55
def bIS:Nat:=56
def a0D:Nat:=58
def bJT:Nat:=59
def bI0:Nat:=60
def bJY:Nat:=61
def bsS:Nat:=64
def xN:Nat:=65
def bIQ:Nat:=66
def bl7:Nat:=67
def aZ5:Nat:=70
def g7:Nat:=71
def a0C:Nat:=72
def aIV:Nat:=73
def bOR:Nat:=74
def bgZ:Nat:=77
def aZ4:Nat:=78
def p8:Nat:=79
def a0G:Nat:=80
def zH:Nat:=81
def o6:Nat:=83
def aZ8:Nat:=84
def a0O:Nat:=85
def bzT:Nat:=86
def byU:Nat:=87
def bz0:Nat:=88
def bI4:Nat:=89
def by5:Nat:=90
def CS:Nat:=95
def cV:Nat:=96
def jF:Nat:=97
def bg9:Nat:=103
def nI:Nat:=104
def mW:Nat:=105
def uJ:Nat:=106
def cQ:Nat:=112
def aA3:Nat:=114
def bgR:Nat:=120
def bg8:Nat:=121
def bgN:Nat:=122
def bg7:Nat:=123
def bhG:Nat:=124
def bgM:Nat:=125
def aIU:Nat:=126
def aIY:Nat:=127
def aIT:Nat:=128
def aI6:Nat:=129
def aIZ:Nat:=130
def iG:Nat:=132
def cG:Nat:=135
def bJ:Nat:=136
def a0M:Nat:=137
def a0H:Nat:=138
def aZ6:Nat:=139
def aZS:Nat:=140
def bI3:Nat:=141
def a0K:Nat:=142
def a0J:Nat:=143
def aZ2:Nat:=144
def aZR:Nat:=145
def bJG:Nat:=146
def a0N:Nat:=148
def a0L:Nat:=149
def aZ3:Nat:=150
def aZX:Nat:=151
def bI5:Nat:=152
def bz1:Nat:=153
def bJI:Nat:=154
def bJE:Nat:=155
def by3:Nat:=156
def eT:Nat:=157
def DB:Nat:=158
def bz2:Nat:=159
def bJJ:Nat:=160
def bJF:Nat:=161
def by2:Nat:=162
def a0U:Nat:=163
def aBG:Nat:=164
def aI2:Nat:=165
def y3:Nat:=167
def a0B:Nat:=169
def a0S:Nat:=170
def cW:Nat:=171
def tQ:Nat:=172
def rN:Nat:=173
def a0A:Nat:=174
def a0W:Nat:=175
def bz8:Nat:=176
def fL:Nat:=181
def fY:Nat:=182
def fM:Nat:=183
def eO:Nat:=184
def eX:Nat:=185
def eK:Nat:=186
def mG:Nat:=187
def mM:Nat:=188
def n6:Nat:=189
def nX:Nat:=190
def aIR:Nat:=192
def aIM:Nat:=193
def wF:Nat:=194
def rG:Nat:=195
def jK:Nat:=196
def iX:Nat:=197
def j9:Nat:=198
def bN:Nat:=201
def y2:Nat:=203
def bhB:Nat:=208
def aN2:Nat:=209
def bgQ:Nat:=210
def aI7:Nat:=211
def aJX:Nat:=212
def aIP:Nat:=213
def aIQ:Nat:=214
def aIX:Nat:=215
def aIN:Nat:=216
def aJS:Nat:=217
def aI0:Nat:=218
def pL:Nat:=224
def gL:Nat:=225
def wC:Nat:=226
def jC:Nat:=227
def a09:Nat:=228
def a0T:Nat:=229
def a0P:Nat:=230
def a1A:Nat:=231
def a1G:Nat:=232
def a0X:Nat:=233
def a0F:Nat:=234
def a1H:Nat:=235
def a07:Nat:=236
def a0V:Nat:=237
def a0I:Nat:=238
def a1I:Nat:=239
def bAB:Nat:=240
def bI7:Nat:=241
def cE:Nat:=242
def dN:Nat:=243
def bAF:Nat:=244
def bI8:Nat:=245
def a06:Nat:=246
def aBF:Nat:=247
def aA4:Nat:=249
def aAY:Nat:=250
def a1D:Nat:=251
def dK:Nat:=252
def mZ:Nat:=253
def a1K:Nat:=254
def dV:Nat:=256
def dL:Nat:=257
def dE:Nat:=258
def cZ:Nat:=259
def gG:Nat:=260
def iD:Nat:=261
def gO:Nat:=262
def eQ:Nat:=263
def eE:Nat:=264
def kV:Nat:=265
def eA:Nat:=266
def eC:Nat:=267
def j8:Nat:=268
def aIW:Nat:=269
def aI8:Nat:=270
def wR:Nat:=271
def qK:Nat:=272
def cF:Nat:=273
def rR:Nat:=274
def cN:Nat:=275
def nH:Nat:=276
def wD:Nat:=277
def wP:Nat:=278
def rC:Nat:=279
def fB:Nat:=280
def jA:Nat:=281
def cO:Nat:=282
def m6:Nat:=283
def oI:Nat:=284
def iT:Nat:=285
def fF:Nat:=286
def aAZ:Nat:=288
def W3:Nat:=289
def H5:Nat:=290
def v9:Nat:=291
def aKL:Nat:=292
def eY:Nat:=299
def fP:Nat:=300
def DA:Nat:=301
def fK:Nat:=302
def cL:Nat:=303
def jW:Nat:=304
def lG:Nat:=305
def aZZ:Nat:=306
def a1F:Nat:=307
def aZY:Nat:=308
def a05:Nat:=309
def aZQ:Nat:=310
def a1E:Nat:=311
def J2:Nat:=312
def eF:Nat:=313
def aA6:Nat:=314
def aAX:Nat:=315
def qX:Nat:=316
def eS:Nat:=317
def eG:Nat:=318
def bZ:Nat:=319
def rQ:Nat:=320
def cM:Nat:=321
def iW:Nat:=322
def bX:Nat:=323
def rE:Nat:=324
def cT:Nat:=325
def dC:Nat:=326
def jB:Nat:=327
def rT:Nat:=328
def aNH:Nat:=329
def oS:Nat:=332
def gN:Nat:=333
def a08:Nat:=335
def a1C:Nat:=336
def bR:Nat:=337
def nJ:Nat:=338
def lX:Nat:=339
def tR:Nat:=340
def fX:AC:= (boG [dO 4 boD] [0,1] (boG [RM 5 0,RM 6 1,f6 7 fF [5,6],dI 8 .geq 7 (ki 0),RM 4 8] [4] .ret))
def jY:List aW:=[.tm 4]
theorem rV:aO bNV Tryz.f201 (bnD fX)=some (fX,jY):=by kernel_rfl
def aBW:AC:= (boG [dO 6 boD] [0,1,2] (boG [RM 7 0,RM 8 1,dI 9 .geq 7 8,RM 10 9,hG 11 0 10 true,hG 12 2 10 true,hO 13 .leq 11 12 10 true,f3 14 10 13 boD,RM 6 14] [6] .ret))
def aCD:List aW:=[.tm 6]
theorem aD3:aO bNV Tryz.f203 (bnD aBW)=some (aBW,aCD):=by kernel_rfl
def aOF:AC:= (boG [f5 5 1,f5 7 3,f7 8 [OZ,OZ],f7 9 [VZ,VZ,OZ]] [0,2,5,7,8,9] (boG [RF 14 2 7,RL 15 14,RF 16 3 7,RL 17 16,RF 18 4 7,RL 19 18,f6 20 aAY [15,17,19],RM 10 20] [0,2,5,7,8,9,10] (boG [RM 21 0,RM 22 10,f6 23 aA4 [21,22],RM 11 23] [0,2,5,7,8,9,10,11] (boG [RF 24 0 7,RL 25 24,rq 26 (.build [VZ,VZ,OZ] [(0,1,25),(1,1,(ki 1))]),f7 12 [VZ,VZ,OZ],g0 3 true 12 26] [0,2,5,7,8,9,10,11,12] (.seq (boG [RM 27 11,dI 28 .lss 27 (ki 0)] [0,2,5,7,8,9,10,11,12,28] (.cond 28 (boG [RF 29 1 12,g0 1 false 29 (ki 4)] [5,8,9,12] (boG [f8 30 2 5,boF 31 (.load 3 true 12) [] [] true,dA none (.store 2 true 8 30) none [] [1] false,g0 3 true 9 31] [8,9] .ret)) .skip)) (.seq (boG [f8 32 7 7,f6 33 aAZ [32],RM 34 33,hG 35 0 34 true,hG 36 11 34 true,j0 37 4 35 36 34 true,g9 38 3 37 34 true,hD 39 38 34 true,f3 40 34 39 boD] [2,5,7,8,9,10,12,40] (.cond 40 (boG [RF 41 1 12,g0 1 false 41 (ki 3)] [5,8,9,12] (boG [f8 42 2 5,boF 43 (.load 3 true 12) [] [] true,dA none (.store 2 true 8 42) none [] [1] false,g0 3 true 9 43] [8,9] .ret)) .skip)) (boG [RM 44 2,dI 45 .mul 44 (ki 2),RF 46 0 7,RL 47 46,dI 48 .add 45 47,RM 13 48] [5,7,8,9,10,12,13] (.seq (boG [RF 49 1 7,RL 50 49] [5,7,8,9,10,12,13,50] (.block 0 (boG [dI 64 .eql 50 (ki 1),RM 63 64] [5,7,8,9,10,12,13,50,63] (.cond 63 (m2 [RF 65 0 5,f8 66 1 65,RM 67 10,f6 68 W3 [66,67],RF 69 2 12,g0 1 false 69 68] [5,8,9,12]) (boG [dI 71 .eql 50 (ki 3),RM 70 71] [5,7,8,9,10,12,13,50,70] (.cond 70 (boG [RF 72 0 5,f8 73 1 72,RM 74 10,f6 75 W3 [73,74],RF 76 2 12,g0 1 false 76 75] [5,7,8,9,12,13] (boG [RF 77 1 12,g0 1 false 77 (ki 2)] [5,7,8,9,12,13] (m2 [RF 78 1 5,RL 79 78,RM 80 13,RF 81 2 7,RL 82 81,e0 83 1 79 80,g0 1 false 83 82] [5,8,9,12]))) (boG [dI 85 .eql 50 (ki 4),RM 84 85] [5,7,8,9,10,12,13,84] (.cond 84 (.seq (boG [RF 86 1 5,RL 87 86,RM 88 13,e0 89 1 87 88,RL 90 89,RF 91 2 7,RL 92 91,dI 93 .neq 90 92] [5,7,8,9,10,12,93] (.cond 93 (boG [f8 94 2 5,boF 95 (.load 3 true 12) [] [] true,dA none (.store 2 true 8 94) none [] [1] false,g0 3 true 9 95] [8,9] .ret) .skip)) (boG [RF 96 1 12,g0 1 false 96 (ki 2)] [5,7,8,9,10,12] (boG [RF 97 0 5,f8 98 1 97,RM 99 10,RF 100 5 7,RL 101 100,RF 102 6 7,RL 103 102,f6 104 H5 [98,99,101,103],RF 105 0 5,g0 1 true 105 104] [5,8,9,10,12] (m2 [f8 106 2 5,RM 107 10,f6 108 v9 [106,107],g0 2 true 5 108] [5,8,9,12])))) (boG [RF 51 0 5,f8 52 1 51,RM 53 10,RF 54 5 7,RL 55 54,RF 56 6 7,RL 57 56,f6 58 H5 [52,53,55,57],RF 59 0 5,g0 1 true 59 58] [5,8,9,10,12] (m2 [f8 60 2 5,RM 61 10,f6 62 v9 [60,61],g0 2 true 5 62] [5,8,9,12])))))))))) (boG [f8 109 2 5,boF 110 (.load 3 true 12) [] [] true,dA none (.store 2 true 8 109) none [] [1] false,g0 3 true 9 110] [8,9] .ret)))))))))
def aPI:List aW:=[.cell 8 2 true,.cell 9 3 true]
theorem aS3:aO bNV Tryz.f209 (bnD aOF)=some (aOF,aPI):=by kernel_rfl
def aJR:AC:= (boG [dO 6 (ki 0)] [0,1,2] (.seq (boG [dO 7 (ki 0)] [0,1,2,7] (.block 0 (.loop (.seq (boG [RM 8 7,RM 9 0,f1 10 9,dI 11 .lss 8 10] [0,1,2,7,11] (.cond 11 .skip (.exit 0))) (.seq (.block 1 (boG [RM 14 0,RM 15 7,e0 16 5 14 15,RF 17 0 16,RL 18 17,RM 19 1,dI 20 .eql 18 19,RM 21 20,hG 22 0 21 true,hG 23 7 21 true,j0 24 5 22 23 21 true,g9 25 1 24 21 true,hD 26 25 21 true,hG 27 2 21 true,hO 28 .eql 26 27 21 true,f3 29 21 28 boD] [0,1,2,7,29] (.cond 29 (boG [RM 30 7,RM 6 30] [6] .ret) .skip))) (m2 [RM 12 7,dI 13 .add 12 (ki 1),RM 7 13] [0,1,2,7])))))) (boG [rq 6 (.move (.kv (.int .i64 (-1))))] [6] .ret)))
def aKI:List aW:=[.tm 6]
theorem aMV:aO bNV Tryz.f216 (bnD aJR)=some (aJR,aKI):=by kernel_rfl
def aN3:AC:= (boG [f5 3 1,dO 4 (.kv (.slice none 0 0))] [0,3] (boG [rq 8 (.bC 5 0 [VZ,VZ,VZ,VZ,OZ] []),RM 5 8] [0,3,5] (boG [dO 6 boD] [0,3,5,6] (.seq (boG [dO 7 (ki 0)] [0,3,5,6,7] (.block 0 (.loop (.seq (boG [RM 9 7,RM 10 0,f1 11 10,dI 12 .lss 9 11] [0,3,5,6,7,12] (.cond 12 .skip (.exit 0))) (.seq (.block 1 (.seq (boG [RM 15 6,f4 16 15,RM 17 16,GQ 18 (.load 5 true 3) 17 true,hG 19 0 17 true,hG 20 7 17 true,j0 21 5 19 20 17 true,GQ 22 (.load 5 true 21) 17 true,GQ 23 (.call aKL [18,22]) 17 true,f3 24 17 23 boD] [0,3,5,6,7,24] (.cond 24 (boG [RM 25 5,f8 26 5 3,rq 27 (.bC 5 1 [VZ,VZ,VZ,VZ,OZ] [(0,5,26)]),rq 28 (.append 5 25 27),RM 5 28] [0,3,5,7] (m2 [dO 6 boE] [0,3,5,6,7])) .skip)) (m2 [RM 29 5,RM 30 0,RM 31 7,e0 32 5 30 31,f8 33 5 32,rq 34 (.bC 5 1 [VZ,VZ,VZ,VZ,OZ] [(0,5,33)]),rq 35 (.append 5 29 34),RM 5 35] [0,3,5,6,7]))) (m2 [RM 13 7,dI 14 .add 13 (ki 1),RM 7 14] [0,3,5,6,7])))))) (.seq (boG [RM 36 6,f4 37 36] [3,5,37] (.cond 37 (m2 [RM 38 5,f8 39 5 3,rq 40 (.bC 5 1 [VZ,VZ,VZ,VZ,OZ] [(0,5,39)]),rq 41 (.append 5 38 40),RM 5 41] [5]) .skip)) (boG [RM 42 5,RM 4 42] [4] .ret))))))
def aO7:List aW:=[.tm 4]
theorem aSI:aO bNV Tryz.f217 (bnD aN3)=some (aN3,aO7):=by kernel_rfl
def aJB:AC:= (boG [f5 1 0,f7 2 [OZ,OZ,OZ,OZ,OZ,OZ]] [1,2] (.seq (.region [RF 3 0 1 0,boF 4 (.load 2 true 3) [3] [] false 1,rq 6 (.bC 1 0 [VZ] []) 3,RF 7 2 1 4,g8 8 7 [3] [] true 5,RF 10 3 1 7,g8 11 10 [3] [] true 8,RF 13 4 1 10,g8 14 13 [3] [] true 11,RF 16 5 1 13,g8 17 16 [3] [] true 14,boF 5 (.call aIR [4]) [3] [5,8,11,14] false 2,boF 9 (.append 1 6 8) [] [8,11,14] false 6,boF 12 (.call aIM [11]) [] [11,14] false 9,boF 15 (.call aIM [14]) [] [14] false 12,f6 18 aIM [17] 15,rq 19 (.build [OZ,OZ,OZ,OZ,OZ,OZ] [(0,2,5),(2,1,9),(3,1,12),(4,1,15),(5,1,18)]) 16,g0 6 true 2 19 17] 18 [2]) .ret))
def aJW:List aW:=[.cell 2 6 true]
theorem aLD:aO bNV Tryz.f218 (bnD aJB)=some (aJB,aJW):=by kernel_rfl
def nS:AC:= (boG [f5 7 3,f7 8 [VZ,VZ,OZ]] [0,1,2,7,8] (boG [RM 19 1,f8 20 7 7,f6 21 mZ [19,20],RM 9 21] [0,1,2,7,8,9] (boG [RF 22 0 7,RL 23 22,rq 24 (.build [VZ,VZ,OZ] [(0,1,23),(1,1,(ki 1))]),f7 10 [VZ,VZ,OZ],g0 3 true 10 24] [0,1,2,7,8,9,10] (boG [RM 25 0,RK 26 25,RF 27 1 26,RL 28 27,RM 29 2,dI 30 .mul 29 (ki 2),RF 31 0 7,RL 32 31,dI 33 .add 30 32,e0 34 1 28 33,RM 11 34] [0,1,7,8,9,10,11] (.seq (.block 0 (boG [RM 36 9,dI 37 .lss 36 (ki 0),RM 35 37] [0,1,7,8,9,10,11,35] (.cond 35 (boG [RF 38 1 10,g0 1 false 38 (ki 4)] [8,10] (boG [f8 39 3 10,g0 3 true 8 39] [8] .ret)) (boG [f8 41 7 7,f6 42 eY [41],RM 43 42,hG 44 1 43 true,hG 45 9 43 true,j0 46 4 44 45 43 true,g9 47 3 46 43 true,hD 48 47 43 true,f3 49 43 48 boD,RM 40 49] [0,7,8,10,11,40] (.cond 40 (boG [RF 50 1 10,g0 1 false 50 (ki 3)] [8,10] (boG [f8 51 3 10,g0 3 true 8 51] [8] .ret)) (boG [RF 53 1 7,RL 54 53,dI 55 .eql 54 (ki 4),RM 56 55,hG 57 11 56 true,GQ 58 (.tF 57) 56 true,hD 59 58 56 true,g9 60 2 7 56 true,hD 61 60 56 true,hO 62 .neq 59 61 56 true,f3 63 56 62 boD,RM 52 63] [0,7,8,10,11,52] (.cond 52 (boG [f8 64 3 10,g0 3 true 8 64] [8] .ret) .skip))))))) (boG [f8 65 7 7,f6 66 fP [65],RM 12 66] [0,7,8,10,11,12] (.seq (boG [f8 67 7 7,f6 68 eY [67],f4 69 68] [0,7,8,10,11,12,69] (.cond 69 (boG [RM 70 12,f1 71 70,rq 72 (.kY 1 [VZ] 71 71),RF 73 2 10,g0 1 false 73 72] [0,7,8,10,11,12] (.seq (boG [RM 74 12,f1 75 74,dO 76 (ki 0)] [0,7,8,10,11,74,75,76] (.block 1 (.loop (boG [dI 77 .lss 76 75] [0,7,8,10,11,74,75,76,77] (.seq (.cond 77 .skip (.exit 1)) (.seq (.block 2 (boG [RM 78 76,e0 79 1 74 76,RL 80 79,RM 13 78,RM 14 80] [0,7,8,10,11,13,14,74,75,76] (m2 [RF 81 2 10,RL 82 81,RM 83 13,RM 84 0,RK 85 84,RF 86 0 85,RF 87 0 86,RL 88 87,RM 89 14,e0 90 1 88 89,RL 91 90,e0 92 1 82 83,g0 1 false 92 91] [0,7,8,10,11,74,75,76]))) (m2 [dI 93 .add 76 (ki 1),RM 76 93] [0,7,8,10,11,74,75,76]))))))) (.seq (boG [RF 94 1 7,RL 95 94,dI 96 .eql 95 (ki 3)] [7,8,10,11,96] (.cond 96 (boG [RF 97 1 10,g0 1 false 97 (ki 2)] [7,8,10,11] (m2 [RM 98 11,RF 99 2 7,RL 100 99,RK 101 98,g0 1 false 101 100] [8,10])) .skip)) (boG [f8 102 3 10,g0 3 true 8 102] [8] .ret)))) .skip)) (.seq (boG [RF 103 1 7,RL 104 103,dI 105 .eql 104 (ki 4)] [0,7,8,10,12,105] (.cond 105 (m2 [RF 106 1 10,g0 1 false 106 (ki 2)] [0,7,8,10,12]) .skip)) (.seq (boG [RM 107 12,f1 108 107,dO 109 (ki 0)] [0,7,8,10,12,107,108,109] (.block 3 (.loop (boG [dI 110 .lss 109 108] [0,7,8,10,12,107,108,109,110] (.seq (.cond 110 .skip (.exit 3)) (.seq (.block 4 (boG [RM 111 109,e0 112 1 107 109,RL 113 112,RM 15 111,RM 16 113] [0,7,8,10,12,15,16,107,108,109] (m2 [RM 114 0,RK 115 114,RF 116 0 115,RF 117 0 116,g8 118 117 [] [] true,RM 119 16,RM 120 0,RK 121 120,RF 122 0 121,RF 123 0 122,RL 124 123,RM 125 16,e0 126 1 124 125,RL 127 126,RF 128 5 7,RL 129 128,RM 130 15,e0 131 1 129 130,RL 132 131,RF 133 6 7,RL 134 133,RM 135 15,e0 136 1 134 135,RL 137 136,boF 138 (.call DA [127,132,137]) [] [4] false,e0 139 1 118 119,g0 1 false 139 138] [0,7,8,10,12,107,108,109]))) (m2 [dI 140 .add 109 (ki 1),RM 109 140] [0,7,8,10,12,107,108,109]))))))) (.seq (boG [RM 141 0,RK 142 141,RF 143 1 142,RL 144 143,f1 145 144,dO 146 (ki 0)] [0,8,10,12,144,145,146] (.block 5 (.loop (boG [dI 147 .lss 146 145] [0,8,10,12,144,145,146,147] (.seq (.cond 147 .skip (.exit 5)) (.seq (.block 6 (boG [RM 148 146,e0 149 1 144 146,RL 150 149,RM 17 148,RM 18 150] [0,8,10,12,17,18,144,145,146] (boG [RM 151 12,RM 152 18,f6 153 fK [151,152]] [0,8,10,12,17,144,145,146,153] (.cond 153 (m2 [RM 154 0,RK 155 154,RF 156 1 155,RL 157 156,RM 158 17,e0 159 1 157 158,rn (.store 1 false 159 (.kv (.int .i64 (-1))))] [0,8,10,12,144,145,146]) .skip)))) (m2 [dI 160 .add 146 (ki 1),RM 146 160] [0,8,10,12,144,145,146]))))))) (boG [f8 161 3 10,g0 3 true 8 161] [8] .ret)))))))))))
def vR:List aW:=[.cell 8 3 true]
theorem HL:aO bNV Tryz.f224 (bnD nS)=some (nS,vR):=by kernel_rfl
def z6:AC:= (boG [dO 2 (ki 0)] [0] (boG [dO 3 (ki 0)] [0,3] (.seq (boG [RM 6 0,f1 7 6,dO 8 (ki 0)] [3,6,7,8] (.block 0 (.loop (boG [dI 9 .lss 8 7] [3,6,7,8,9] (.seq (.cond 9 .skip (.exit 0)) (.seq (.block 1 (boG [e0 10 1 6 8,RL 11 10,RM 5 11] [3,5,6,7,8] (boG [RM 12 5,RM 13 3,dI 14 .neq 12 13] [3,5,6,7,8,14] (.cond 14 (boG [RM 15 5,RM 2 15] [2] .ret) .skip)))) (m2 [dI 16 .add 8 (ki 1),RM 8 16] [3,6,7,8]))))))) (boG [RM 17 3,RM 2 17] [2] .ret))))
def IP:List aW:=[.tm 2]
theorem UR:aO bNV Tryz.f226 (bnD z6)=some (z6,IP):=by kernel_rfl
def pI:AC:= (boG [dO 4 (ki 0)] [0,1] (boG [RM 7 0,f6 8 lG [7],RM 5 8] [0,1,5] (boG [RM 9 1,f6 10 lG [9],RM 6 10] [0,1,5,6] (.seq (boG [RM 11 5] [0,1,6,11] (.cond 11 (.seq (boG [RM 12 6] [12] (.cond 12 (boG [dO 4 (ki 0)] [4] .ret) .skip)) (boG [rq 4 (.move (.kv (.int .i64 (-1))))] [4] .ret)) .skip)) (.seq (boG [RM 13 6] [0,1,13] (.cond 13 (boG [dO 4 (ki 1)] [4] .ret) .skip)) (.seq (boG [RM 14 0,RM 15 1,dI 16 .lss 14 15] [0,1,16] (.cond 16 (boG [rq 4 (.move (.kv (.int .i64 (-1))))] [4] .ret) .skip)) (.seq (boG [RM 17 0,RM 18 1,dI 19 .gtr 17 18] [19] (.cond 19 (boG [dO 4 (ki 1)] [4] .ret) .skip)) (boG [dO 4 (ki 0)] [4] .ret))))))))
def x5:List aW:=[.tm 4]
theorem JD:aO bNV Tryz.f227 (bnD pI)=some (pI,x5):=by kernel_rfl
def kO:AC:= (boG [dO 4 (.kv (.int .u64 0)),dO 5 (.kv (.int .u64 0))] [0,1] (.seq (.cond boD (boG [RM 11 0,rq 12 (.conv .u32 11),RM 13 1,rq 14 (.conv .u32 13),f6 15 J2 [12,14],RM 10 15,rq 16 (.ext 10 0),rq 17 (.ext 10 1),RM 6 16,RM 7 17] [6,7] (boG [RM 18 6,rq 19 (.conv .u64 18),RM 20 7,rq 21 (.conv .u64 20),RM 4 19,RM 5 21] [4,5] .ret)) .skip) (boG [RM 23 0,RM 24 1,f6 25 eF [23,24],RM 22 25,rq 26 (.ext 22 0),rq 27 (.ext 22 1),RM 8 26,RM 9 27] [8,9] (boG [RM 28 8,RM 29 9,RM 4 28,RM 5 29] [4,5] .ret))))
def BR:List aW:=[.tm 4,.tm 5]
theorem M4:aO bNV Tryz.f242 (bnD kO)=some (kO,BR):=by kernel_rfl
theorem tM:aN bNV cE Tryz.f242 kO BR:=aN.mk Tryz.func242 (by kernel_rfl) M4
def aBD:AC:= (boG [dO 4 (ki 0)] [0,1] (.seq (boG [RM 7 1,f1 8 7,dI 9 .eql 8 (ki 0)] [0,1,9] (.cond 9 (boG [rq 4 (.move (.kv (.int .i64 (-1))))] [4] .ret) .skip)) (boG [RM 10 0,RM 11 1,e0 12 1 11 (ki 0),RL 13 12,f6 14 aAX [10,13],RM 5 14] [0,1,5] (.seq (boG [dO 6 (ki 1)] [0,1,5,6] (.block 0 (.loop (.seq (boG [RM 15 6,RM 16 1,f1 17 16,dI 18 .lss 15 17] [0,1,5,6,18] (.cond 18 .skip (.exit 0))) (.seq (.block 1 (boG [RM 21 0,RM 22 1,RM 23 6,e0 24 1 22 23,RL 25 24,f6 26 aAX [21,25],RM 27 5,dI 28 .neq 26 27] [0,1,5,6,28] (.cond 28 (boG [rq 4 (.move (.kv (.int .i64 (-1))))] [4] .ret) .skip))) (m2 [RM 19 6,dI 20 .add 19 (ki 1),RM 6 20] [0,1,5,6])))))) (boG [RM 29 5,RM 4 29] [4] .ret)))))
def aBX:List aW:=[.tm 4]
theorem aDB:aO bNV Tryz.f249 (bnD aBD)=some (aBD,aBX):=by kernel_rfl
def aBA:AC:= (boG [dO 6 (.kv (.slice none 0 0))] [0,1,2] (boG [rq 10 (.bC 1 0 [VZ] []),RM 7 10] [0,1,2,7] (.seq (boG [RM 11 0,RM 12 1,RM 13 2,f6 14 aA6 [11,12,13],f4 15 14] [0,1,2,7,15] (.cond 15 (boG [RM 16 7,RM 6 16] [6] .ret) .skip)) (boG [RM 17 0,RM 18 0,RM 19 1,dI 20 .rem 18 19,dI 21 .sub 17 20,RM 8 21] [0,1,2,7,8] (.seq (boG [dO 9 (ki 0)] [0,1,2,7,8,9] (.block 0 (.loop (.seq (boG [RM 22 9,RM 23 1,dI 24 .lss 22 23] [0,1,2,7,8,9,24] (.cond 24 .skip (.exit 0))) (.seq (.block 1 (boG [RM 27 2] [0,1,2,7,8,9,27] (.cond 27 (m2 [RM 28 7,RM 29 8,RM 30 0,RM 31 8,dI 32 .sub 30 31,RM 33 9,dI 34 .add 32 33,RM 35 1,dI 36 .rem 34 35,dI 37 .add 29 36,rq 38 (.bC 1 1 [VZ] [(0,1,37)]),rq 39 (.append 1 28 38),RM 7 39] [0,1,2,7,8,9]) (m2 [RM 40 7,RM 41 0,RM 42 9,dI 43 .add 41 42,rq 44 (.bC 1 1 [VZ] [(0,1,43)]),rq 45 (.append 1 40 44),RM 7 45] [0,1,2,7,8,9])))) (m2 [RM 25 9,dI 26 .add 25 (ki 1),RM 9 26] [0,1,2,7,8,9])))))) (boG [RM 46 7,RM 6 46] [6] .ret))))))
def aBS:List aW:=[.tm 6]
theorem aCP:aO bNV Tryz.f250 (bnD aBA)=some (aBA,aBS):=by kernel_rfl
def zZ:AC:= (boG [f5 3 1,dO 4 (ki 0)] [0,3] (boG [rq 5 (.move (.kv (.int .i64 (-1))))] [0,3,5] (.seq (boG [f8 9 7 3,f6 10 fP [9],f1 11 10,dO 12 (ki 0)] [0,5,10,11,12] (.block 0 (.loop (boG [dI 13 .lss 12 11] [0,5,10,11,12,13] (.seq (.cond 13 .skip (.exit 0)) (.seq (.block 1 (boG [RM 14 12,e0 15 1 10 12,RL 16 15,RM 6 14,RM 7 16] [0,5,6,7,10,11,12] (boG [RM 17 0,RM 18 7,f6 19 qX [17,18],RM 8 19] [0,5,6,8,10,11,12] (.seq (boG [RM 20 8,dI 21 .lss 20 (ki 0),RM 22 21,hG 23 6 22 false,hO 24 .gtr 23 (ki 0) 22 false,hG 25 24 22 false,hG 26 8 25 true,hG 27 5 25 true,hO 28 .neq 26 27 25 true,GQ 29 (.pick 25 28 boD) 22 false,f3 30 22 boE 29] [0,8,10,11,12,30] (.cond 30 (boG [rq 4 (.move (.kv (.int .i64 (-1))))] [4] .ret) .skip)) (m2 [RM 31 8,RM 5 31] [0,5,10,11,12]))))) (m2 [dI 32 .add 12 (ki 1),RM 12 32] [0,5,10,11,12]))))))) (boG [RM 33 5,RM 4 33] [4] .ret))))
def IE:List aW:=[.tm 4]
theorem VF:aO bNV Tryz.f253 (bnD zZ)=some (zZ,IE):=by kernel_rfl
def i6:AC:= (boG [dO 2 (.kv (.slice none 0 0))] [0] (boG [RM 3 0,f6 4 eG [3],f6 5 eS [4],RM 2 5] [2] .ret))
def nL:List aW:=[.tm 2]
theorem yR:aO bNV Tryz.f260 (bnD i6)=some (i6,nL):=by kernel_rfl
def kB:AC:= (boG [dO 2 (.kv (.slice none 0 0))] [0] (boG [RM 3 0,RM 4 0,f1 5 4,RM 6 0,f1 7 6,rq 8 (.slc 1 3 none (some 5) (some 7)),RM 2 8] [2] .ret))
def pX:List aW:=[.tm 2]
theorem A6:aO bNV Tryz.f261 (bnD kB)=some (kB,pX):=by kernel_rfl
def jL:AC:= (boG [dO 2 (.kv (.slice none 0 0))] [0] (.seq (boG [RM 3 0,rq 4 (.xop (.qJ false) [3])] [0,4] (.cond 4 (boG [dO 2 (.kv (.slice none 0 0))] [2] .ret) .skip)) (boG [rq 5 (.bC 1 0 [VZ] []),RM 6 0,rq 7 (.append 1 5 6),RM 2 7] [2] .ret)))
def n7:List aW:=[.tm 2]
theorem AB:aO bNV Tryz.f262 (bnD jL)=some (jL,n7):=by kernel_rfl
def aJE:AC:= (boG [f5 1 0,f7 2 [OZ]] [1,2] (boG [rq 3 (.bC 1 0 [VZ] []),RF 4 0 1,RL 5 4,rq 6 (.append 1 3 5),rq 7 (.build [OZ] [(0,1,6)]),g0 1 true 2 7] [2] .ret))
def aJ3:List aW:=[.cell 2 1 true]
theorem aK8:aO bNV Tryz.f269 (bnD aJE)=some (aJE,aJ3):=by kernel_rfl
def aJN:AC:= (boG [f5 1 0,f7 2 [VZ,VZ,OZ]] [1,2] (boG [RF 3 0 1,g8 4 3 [4] [] true,RF 5 1 1,g8 6 5 [4] [] true,rq 7 (.bC 1 0 [VZ] []),RF 8 2 1,g8 9 8 [4] [] false,boF 10 (.append 1 7 9) [] [1,3] false,rq 11 (.build [VZ,VZ,OZ] [(0,1,4),(1,1,6),(2,1,10)]),g0 3 true 2 11] [2] .ret))
def aJ5:List aW:=[.cell 2 3 true]
theorem aL4:aO bNV Tryz.f270 (bnD aJN)=some (aJN,aJ5):=by kernel_rfl
def zQ:AC:= (boG [dO 2 boD] [0] (.seq (boG [RM 5 0,f1 6 5,dO 7 (ki 0)] [0,5,6,7] (.block 0 (.loop (boG [dI 8 .lss 7 6] [0,5,6,7,8] (.seq (.cond 8 .skip (.exit 0)) (.seq (.block 1 (boG [RM 9 7,e0 10 4 5 7,f8 11 4 10,f7 4 [VZ,VZ,VZ,(.v (.bool false))],RM 3 9,g0 4 true 4 11] [0,3,4,5,6,7] (boG [RF 12 0 4,RL 13 12,f6 14 cQ [13,(ki 0),(ki 63)],f4 15 14,RM 16 15,g9 17 1 4 16 false,hD 18 17 16 false,g9 19 0 4 16 false,hD 20 19 16 false,GQ 21 (.call cQ [18,20,(ki 63)]) 16 false,hP 22 21 16 false,f3 23 16 boE 22,RM 24 23,g9 25 2 4 24 false,hD 26 25 24 false,GQ 27 (.call cQ [26,(ki 0),(ki 2)]) 24 false,hP 28 27 24 false,f3 29 24 boE 28,RM 30 29,hG 31 0 30 false,hG 32 3 30 false,GQ 33 (.slc 4 31 none (some 32) none) 30 false,GQ 34 (.xop (.zI rE) [4]) 30 false,GQ 35 (.call bX [33,34]) 30 false,f3 36 30 boE 35] [0,5,6,7,36] (.cond 36 (boG [dO 2 boD] [2] .ret) .skip)))) (m2 [dI 37 .add 7 (ki 1),RM 7 37] [0,5,6,7]))))))) (boG [RM 38 0,f1 39 38,dI 40 .leq 39 (ki 4),RM 2 40] [2] .ret)))
def I5:List aW:=[.tm 2]
theorem VT:aO bNV Tryz.f271 (bnD zQ)=some (zQ,I5):=by kernel_rfl
def vK:AC:= (boG [dO 2 boD] [0] (boG [RM 3 0,f6 4 cQ [3,(ki 0),(ki 3)],f4 5 4,RM 2 5] [2] .ret))
def DT:List aW:=[.tm 2]
theorem OL:aO bNV Tryz.f272 (bnD vK)=some (vK,DT):=by kernel_rfl
def dG:AC:= (boG [dO 4 boD] [0,1] (boG [RM 5 0,RM 6 1,f6 7 cT [5,6],dI 8 .geq 7 (ki 0),RM 4 8] [4] .ret))
def gE:List aW:=[.tm 4]
theorem l6:aO bNV Tryz.f273 (bnD dG)=some (dG,gE):=by kernel_rfl
def u6:AC:= (boG [dO 2 boD] [0] (boG [RM 3 0,f1 4 3,dI 5 .gtr 4 (ki 12),RM 6 5,hG 7 0 6 false,GQ 8 (.call cN [7,(.fn nH)]) 6 false,f3 9 6 boE 8,RM 2 9] [2] .ret))
def DW:List aW:=[.tm 2]
theorem OD:aO bNV Tryz.f274 (bnD u6)=some (u6,DW):=by kernel_rfl
def dX:AC:= (boG [dO 4 boD] [0,1] (boG [RM 5 0,RM 6 1,f6 7 dC [5,6],dI 8 .geq 7 (ki 0),RM 4 8] [4] .ret))
def gQ:List aW:=[.tm 4]
theorem nA:aO bNV Tryz.f275 (bnD dX)=some (dX,gQ):=by kernel_rfl
def rM:AC:= (boG [f5 1 0,dO 2 boD] [1] (boG [f8 3 7 1,f6 4 wD [3],f4 5 4,RM 2 5] [2] .ret))
def y9:List aW:=[.tm 2]
theorem J8:aO bNV Tryz.f276 (bnD rM)=some (rM,y9):=by kernel_rfl
def zP:AC:= (boG [f5 1 0,dO 2 boD] [1] (boG [dO 3 (ki 0)] [1,3] (.seq (boG [f8 4 7 1,f6 5 eY [4]] [1,3,5] (.cond 5 (m2 [RF 6 3 1,RL 7 6,RM 3 7] [1,3]) .skip)) (boG [RF 8 0 1,RL 9 8,f6 10 cQ [9,(ki 0),(ki 1)],RM 11 10,g9 12 1 1 11 true,hD 13 12 11 true,GQ 14 (.call cQ [13,(ki 1),(ki 4)]) 11 true,f3 15 11 14 boD,RM 16 15,g9 17 2 1 16 true,hD 18 17 16 true,g9 19 3 1 16 true,hD 20 19 16 true,g9 21 4 1 16 true,hD 22 21 16 true,GQ 23 (.call nI [18,20,22]) 16 true,f3 24 16 23 boD,RM 25 24,g9 26 5 1 25 true,hD 27 26 25 true,GQ 28 (.len false 27) 25 true,hG 29 3 25 true,hO 30 .eql 28 29 25 true,f3 31 25 30 boD,RM 32 31,g9 33 6 1 32 true,hD 34 33 32 true,GQ 35 (.len false 34) 32 true,hG 36 3 32 true,hO 37 .eql 35 36 32 true,f3 38 32 37 boD,RM 39 38,g9 40 5 1 39 true,hD 41 40 39 true,GQ 42 (.call jB [41]) 39 true,f3 43 39 42 boD,RM 44 43,g9 45 6 1 44 true,hD 46 45 44 true,GQ 47 (.call bN [46,(.fn rT)]) 44 true,hP 48 47 44 true,f3 49 44 48 boD,RM 50 49,g9 51 1 1 50 true,hD 52 51 50 true,hO 53 .eql 52 (ki 1) 50 true,hG 54 53 50 true,g9 55 1 1 54 false,hD 56 55 54 false,hO 57 .eql 56 (ki 2) 54 false,GQ 58 (.pick 54 boE 57) 50 true,hG 59 58 50 true,g9 60 3 1 59 false,hD 61 60 59 false,hO 62 .eql 61 (ki 1) 59 false,GQ 63 (.pick 59 boE 62) 50 true,f3 64 50 63 boD,RM 2 64] [2] .ret))))
def I9:List aW:=[.tm 2]
theorem UO:aO bNV Tryz.f277 (bnD zP)=some (zP,I9):=by kernel_rfl
def AK:AC:= (boG [f5 1 0,dO 2 boD] [1] (boG [RF 3 0 1,RL 4 3,f1 5 4,dI 6 .eql 5 (ki 64),RM 7 6,g9 8 0 1 7 true,hD 9 8 7 true,GQ 10 (.call jB [9]) 7 true,f3 11 7 10 boD,RM 2 11] [2] .ret))
def H8:List aW:=[.tm 2]
theorem T7:aO bNV Tryz.f278 (bnD AK)=some (AK,H8):=by kernel_rfl
def vO:AC:= (boG [dO 2 boD] [0] (boG [RM 3 0,f6 4 cQ [3,(.kv (.int .i64 (-1))),(ki 63)],f4 5 4,RM 2 5] [2] .ret))
def DZ:List aW:=[.tm 2]
theorem OJ:aO bNV Tryz.f279 (bnD vO)=some (vO,DZ):=by kernel_rfl
def rD:AC:= (boG [f5 3 0,dO 6 (ki 0)] [1,2,3] (boG [RF 7 2 3,RL 8 7,RM 9 1,e0 10 1 8 9,RL 11 10,RM 12 2,e0 13 7 11 12,RF 14 0 13,RL 15 14,RM 6 15] [6] .ret))
def zC:List aW:=[.tm 6]
theorem KU:aO bNV Tryz.f280 (bnD rD)=some (rD,zC):=by kernel_rfl
def sZ:AC:= (boG [dO 2 boD] [0] (boG [RM 3 0,f6 4 cQ [3,(ki 0),(ki 2)],RM 2 4] [2] .ret))
def A0:List aW:=[.tm 2]
theorem MB:aO bNV Tryz.f281 (bnD sZ)=some (sZ,A0):=by kernel_rfl
def z8:AC:= (boG [f5 1 0,dO 2 boD] [1] (boG [RF 3 0 1,RL 4 3,f6 5 cQ [4,(ki 0),(ki 1)],RM 6 5,g9 7 1 1 6 true,hD 8 7 6 true,GQ 9 (.call cQ [8,(ki 1),(ki 4)]) 6 true,f3 10 6 9 boD,RM 11 10,g9 12 2 1 11 true,hD 13 12 11 true,GQ 14 (.len false 13) 11 true,hO 15 .leq 14 (ki 4) 11 true,f3 16 11 15 boD,RM 17 16,g9 18 2 1 17 true,hD 19 18 17 true,GQ 20 (.call jB [19]) 17 true,f3 21 17 20 boD,RM 2 21] [2] .ret))
def I0:List aW:=[.tm 2]
theorem VO:aO bNV Tryz.f283 (bnD z8)=some (z8,I0):=by kernel_rfl
def x7:AC:= (boG [dO 2 boD] [0] (.seq (boG [dO 3 (ki 1)] [0,3] (.block 0 (.loop (.seq (boG [RM 4 3,RM 5 0,f1 6 5,dI 7 .lss 4 6] [0,3,7] (.cond 7 .skip (.exit 0))) (.seq (.block 1 (boG [RM 10 0,RM 11 3,dI 12 .sub 11 (ki 1),e0 13 5 10 12,f8 14 5 13,RM 15 0,RM 16 3,e0 17 5 15 16,f8 18 5 17,f6 19 bJ [14,18],dI 20 .geq 19 (ki 0)] [0,3,20] (.cond 20 (boG [dO 2 boD] [2] .ret) .skip))) (m2 [RM 8 3,dI 9 .add 8 (ki 1),RM 3 9] [0,3])))))) (boG [dO 2 boE] [2] .ret)))
def FX:List aW:=[.tm 2]
theorem P5:aO bNV Tryz.f284 (bnD x7)=some (x7,FX):=by kernel_rfl
def nO:AC:= (boG [f5 1 0,dO 2 boD] [1] (boG [RF 3 0 1,RL 4 3,dI 5 .eql 4 (ki 0),RM 6 5,g9 7 1 1 6 true,hD 8 7 6 true,hO 9 .eql 8 (ki 0) 6 true,f3 10 6 9 boD,RM 11 10,g9 12 2 1 11 true,hD 13 12 11 true,GQ 14 (.len false 13) 11 true,hO 15 .eql 14 (ki 0) 11 true,f3 16 11 15 boD,RM 2 16] [2] .ret))
def vS:List aW:=[.tm 2]
theorem HW:aO bNV Tryz.f285 (bnD nO)=some (nO,vS):=by kernel_rfl
def gX:AC:= (boG [dO 4 (ki 0)] [0,1] (.seq (boG [RM 6 0,f1 7 6,dO 8 (ki 0)] [0,1,7,8] (.block 0 (.loop (boG [dI 9 .lss 8 7] [0,1,7,8,9] (.seq (.cond 9 .skip (.exit 0)) (.seq (.block 1 (boG [RM 10 8,RM 5 10] [0,1,5,7,8] (boG [RM 11 1,RM 12 0,RM 13 5,e0 14 1 12 13,RL 15 14,rq 16 (.t5 11 [15])] [0,1,5,7,8,16] (.cond 16 (boG [RM 17 5,RM 4 17] [4] .ret) .skip)))) (m2 [dI 18 .add 8 (ki 1),RM 8 18] [0,1,7,8]))))))) (boG [rq 4 (.move (.kv (.int .i64 (-1))))] [4] .ret)))
def lE:List aW:=[.tm 4]
theorem vL:aO bNV Tryz.f286 (bnD gX)=some (gX,lE):=by kernel_rfl
def aBB:AC:= (boG [f5 1 0,dO 2 boD] [1] (boG [RF 3 1 1,RL 4 3,dI 5 .eql 4 (ki 2),RM 6 5,g9 7 1 1 6 false,hD 8 7 6 false,hO 9 .eql 8 (ki 4) 6 false,f3 10 6 boE 9,RM 2 10] [2] .ret))
def aBR:List aW:=[.tm 2]
theorem aCS:aO bNV Tryz.f288 (bnD aBB)=some (aBB,aBR):=by kernel_rfl
def aN4:AC:= (boG [f5 2 0,dO 4 (.kv (.slice none 0 0))] [1,2] (boG [rq 7 (.bC 1 0 [VZ] []),RM 5 7] [1,2,5] (.seq (boG [dO 6 (ki 0)] [1,2,5,6] (.block 0 (.loop (.seq (boG [RM 8 6,RM 9 1,f1 10 9,dI 11 .lss 8 10] [1,2,5,6,11] (.cond 11 .skip (.exit 0))) (.seq (.block 1 (m2 [RM 14 5,RF 15 0 2,RL 16 15,RM 17 1,RM 18 6,e0 19 1 17 18,RL 20 19,e0 21 1 16 20,RL 22 21,rq 23 (.bC 1 1 [VZ] [(0,1,22)]),rq 24 (.append 1 14 23),RM 5 24] [1,2,5,6])) (m2 [RM 12 6,dI 13 .add 12 (ki 1),RM 6 13] [1,2,5,6])))))) (boG [RM 25 5,RM 4 25] [4] .ret))))
def aO3:List aW:=[.tm 4]
theorem aR6:aO bNV Tryz.f289 (bnD aN4)=some (aN4,aO3):=by kernel_rfl
def aN6:AC:= (boG [f5 4 0,f7 8 [OZ]] [1,2,3,4,8] (.seq (boG [dO 9 (ki 0)] [1,2,3,4,8,9] (.block 0 (.loop (.seq (boG [RM 10 9,RM 11 1,f1 12 11,dI 13 .lss 10 12] [1,2,3,4,8,9,13] (.cond 13 .skip (.exit 0))) (.seq (.block 1 (m2 [RF 16 0 4,g8 17 16 [] [] true,RM 18 1,RM 19 9,e0 20 1 18 19,g8 21 20 [] [] true,RF 22 0 4,RL 23 22,RM 24 1,RM 25 9,e0 26 1 24 25,RL 27 26,e0 28 1 23 27,RL 29 28,RM 30 2,RM 31 9,e0 32 1 30 31,RL 33 32,RM 34 3,RM 35 9,e0 36 1 34 35,RL 37 36,boF 38 (.call aNH [29,33,37]) [] [1,5] false,e0 39 1 17 21,g0 1 false 39 38] [1,2,3,4,8,9])) (m2 [RM 14 9,dI 15 .add 14 (ki 1),RM 9 15] [1,2,3,4,8,9])))))) (boG [f8 40 1 4,g0 1 true 8 40] [8] .ret)))
def aO6:List aW:=[.cell 8 1 true]
theorem aSE:aO bNV Tryz.f290 (bnD aN6)=some (aN6,aO6):=by kernel_rfl
def aNU:AC:= (boG [f5 2 0,f7 4 [OZ,OZ]] [1,2,4] (.seq (boG [dO 5 (ki 0)] [1,2,4,5] (.block 0 (.loop (.seq (boG [RM 7 5,RF 8 1 2,RL 9 8,f1 10 9,dI 11 .lss 7 10] [1,2,4,5,11] (.cond 11 .skip (.exit 0))) (.seq (.block 1 (boG [dO 6 (ki 0)] [1,2,4,5,6] (.block 2 (.loop (.seq (boG [RM 14 6,RM 15 1,f1 16 15,dI 17 .lss 14 16] [1,2,4,5,6,17] (.cond 17 .skip (.exit 2))) (.seq (.block 3 (boG [RF 20 1 2,RL 21 20,RM 22 5,e0 23 1 21 22,RL 24 23,RM 25 1,RM 26 6,e0 27 1 25 26,RL 28 27,dI 29 .eql 24 28] [1,2,4,5,6,29] (.cond 29 (m2 [RF 30 1 2,RL 31 30,RM 32 5,e0 33 1 31 32,rn (.store 1 false 33 (.kv (.int .i64 (-1))))] [1,2,4,5,6]) .skip))) (m2 [RM 18 6,dI 19 .add 18 (ki 1),RM 6 19] [1,2,4,5,6]))))))) (m2 [RM 12 5,dI 13 .add 12 (ki 1),RM 5 13] [1,2,4,5])))))) (boG [f8 34 2 2,g0 2 true 4 34] [4] .ret)))
def aOK:List aW:=[.cell 4 2 true]
theorem aRS:aO bNV Tryz.f291 (bnD aNU)=some (aNU,aOK):=by kernel_rfl
def ap2:AC:= (boG [f5 2 0,f5 3 1,dO 4 boD] [2,3] (boG [RF 5 0 2,RL 6 5,RF 7 0 3,RL 8 7,dI 9 .lss 6 8,RM 10 9,g9 11 0 2 10 false,hD 12 11 10 false,g9 13 0 3 10 false,hD 14 13 10 false,hO 15 .eql 12 14 10 false,hG 16 15 10 false,g9 17 1 2 16 true,hD 18 17 16 true,g9 19 1 3 16 true,hD 20 19 16 true,hO 21 .lss 18 20 16 true,GQ 22 (.pick 16 21 boD) 10 false,f3 23 10 boE 22,RM 4 23] [4] .ret))
def aOC:List aW:=[.tm 4]
theorem aPW:aO bNV Tryz.f292 (bnD ap2)=some (ap2,aOC):=by kernel_rfl
def aA7:AC:= (boG [f5 3 1,dO 4 (ki 0)] [0,3] (.seq (boG [RM 6 0,f6 7 aBG [6],f4 8 7,RM 9 8,GQ 10 (.load 7 true 3) 9 false,GQ 11 (.call aBF [10]) 9 false,hP 12 11 9 false,f3 13 9 boE 12] [0,3,13] (.cond 13 (boG [rq 4 (.move (.kv (.int .i64 (-1))))] [4] .ret) .skip)) (boG [RM 14 0,RF 15 2 3,RL 16 15,RF 17 3 3,RL 18 17,RF 19 4 3,RL 20 19,f6 21 aAY [16,18,20],f6 22 aA4 [14,21],RM 5 22] [0,5] (.seq (boG [RM 23 5,dI 24 .lss 23 (ki 0)] [0,5,24] (.cond 24 (boG [dO 4 (ki 3)] [4] .ret) .skip)) (boG [RM 25 0,RM 26 5,e0 27 4 25 26,RF 28 2 27,RL 29 28,RM 4 29] [4] .ret)))))
def aBU:List aW:=[.tm 4]
theorem aCT:aO bNV Tryz.f167 (bnD aA7)=some (aA7,aBU):=by kernel_rfl
def zW:AC:= (boG [f7 0 [OZ,OZ,OZ]] [0] (boG [rq 1 (.bC 1 3 [(.v (.bool false))] [(0,1,boE),(1,1,boE),(2,1,boE)]),rq 2 (.bC 1 4 [(.v (.bool false))] [(0,1,boD),(1,1,boD),(2,1,boD),(3,1,boD)]),rq 3 (.bC 1 3 [(.v (.bool false))] [(0,1,boE),(1,1,boE),(2,1,boE)]),rq 4 (.build [OZ,OZ,OZ] [(0,1,1),(1,1,2),(2,1,3)]),g0 3 true 0 4] [0] .ret))
def IZ:List aW:=[.cell 0 3 true]
theorem UW:aO bNV Tryz.f95 (bnD zW)=some (zW,IZ):=by kernel_rfl
end Go.Proofs.YtlncecohbakleaaGreat
