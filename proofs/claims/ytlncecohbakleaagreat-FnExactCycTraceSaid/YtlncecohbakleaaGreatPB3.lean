/- Texts laid together by a program: rules, contracts and the walk that leads to the law. -/
import Derived.Test.YtlncecohbakleaaGreatPB2
import Derived.Lib.Overlaps
import Derived.Test.YtlncecohbakleaaGreatProg
set_option linter.unusedVariables false
set_option linter.unusedSimpArgs false
set_option linter.unusedSectionVars false
set_option maxRecDepth 100000
set_option maxHeartbeats 8000000
noncomputable abbrev an2:=Go.Proofs.Tryz.prog
abbrev an3:=Go.AM.aC an2
abbrev an4:=Go.AM.D->Go.AM.aA->Nat->Prop
namespace Go.AM
open Go.RowKit
def cK(A B:Prop):D->Prop
 | .one (.c (.v (.bool t)))=>(t=true->A)/\(t=false->B)
 |_=>False
section
variable{P:Program}{T:Nat}{b:Nat}{live:List Nat}{K:Env -> aA -> Nat -> Prop}{L:List bB}{dst:Option Nat}{e:Env}{H:aA}{nx:Nat}{S:fG}{Q:AQ}{x y z:AC}{zs:List AC}
theorem aH.ah4{c:bC}(h: ∀A B:Prop,(aH P T (x::zs) e H nx Q->A)->(aH P T (y::zs) e H nx Q->B)->cK A B (c.ev e)):aH P T (.cond c x y::zs) e H nx Q:=by
 have h:=h _ _ id id;unfold cK at h;split at h;·rename_i t a;exact aH.cond a h.1 h.2
 ·exact h.elim
theorem agG{A B:Prop}:cK A B (.one (.c (.v (.bool true))))=A:=by simp[cK]
theorem ag1{A B:Prop}:cK A B (.one (.c (.v (.bool false))))=B:=by simp[cK]
theorem ajH{A B:Prop}{t:Bool}(a:t=true->A)(b:t=false->B):cK A B (.one (.c (.v (.bool t)))):=⟨a,b⟩
theorem ajP{A B:Prop}{p:Prop}[Decidable p](a:p->A)(b: ¬p->B):cK A B (.one (.c (.v (.bool (decide p))))):=⟨fun h=>a (by simpa using h),fun h=>b (by simpa using h)⟩
def wvH(P:Program)(b:Nat)(live:List Nat)(K:Env->aA->Nat->Prop)(o:bB)(L:List bB)(t:Nat)(w:Bool)(e:Env)(H:aA)(nx:Nat)(S:fG):D->Prop
 | .one (.c (.v (.bool x)))=>if x=w then wv P b live K (o::L) (e.set t (.one (.c (.v (.bool x))))) H nx S else wv P b live K L ((e.set t (.one (.c (.v (.bool x))))).put o.dst (.tup [])) H nx S
 | .tup []=>wv P b live K L (e.put o.dst (.tup [])) H nx S
 |_=>False
variable{t:Nat}
theorem Env.Wv{e:Env}{d:D}(h:e t=d):e.set t d=e:=by
 funext i;simp only[Env.set];split;·rename_i hi;rw[hi,h]
 ·rfl
variable{ix:Nat}{m s:List Nat}{k:Bool}
theorem ajV{w:Bool}{op:AOp}:wv P b live K (⟨ix,dst,op,some (t,w),m,s,k⟩::L) e H nx S=wvH P b live K ⟨ix,dst,op,none,m,s,k⟩ L t w e H nx S (e t):=by
 rw[ajK];generalize he:e t=d;by_cases a: ∃x,d= .one (.c (.v (.bool x)));·obtain⟨x,rfl⟩:=a;simp only[wvG,wvH];rw[Env.Wv he]
 ·by_cases hu:d= .tup [];·subst hu;rfl
  ·unfold wvG wvH;split;·exact absurd ⟨_,rfl⟩ a
   ·exact absurd rfl hu
   ·split;·exact absurd ⟨_,rfl⟩ a
    ·exact absurd rfl hu
    ·rfl
theorem ah8{o:bB}{w:Bool}:wvH P b live K o L t w e H nx S (.tup [])=wv P b live K L (e.put o.dst (.tup [])) H nx S:=rfl
theorem agE{o:bB}:wvH P b live K o L t true e H nx S (.one (.c (.v (.bool true))))=wv P b live K (o::L) (e.set t (.one (.c (.v (.bool true))))) H nx S:=rfl
theorem af5{o:bB}:wvH P b live K o L t true e H nx S (.one (.c (.v (.bool false))))=wv P b live K L ((e.set t (.one (.c (.v (.bool false))))).put o.dst (.tup [])) H nx S:=rfl
theorem agT{o:bB}:wvH P b live K o L t false e H nx S (.one (.c (.v (.bool true))))=wv P b live K L ((e.set t (.one (.c (.v (.bool true))))).put o.dst (.tup [])) H nx S:=rfl
theorem agM{o:bB}:wvH P b live K o L t false e H nx S (.one (.c (.v (.bool false))))=wv P b live K (o::L) (e.set t (.one (.c (.v (.bool false))))) H nx S:=rfl
theorem ae0{o:bB}{t:Nat}{w u:Bool}(a:u=true->wvH P b live K o L t w e H nx S (.one (.c (.v (.bool true)))))(d:u=false->wvH P b live K o L t w e H nx S (.one (.c (.v (.bool false))))):
 wvH P b live K o L t w e H nx S (.one (.c (.v (.bool u)))):=by
 cases u with
 |true=>exact a rfl
 |false=>exact d rfl
theorem afP{o:bB}{t:Nat}{w:Bool}{p:Prop}[Decidable p](h:p)(a:wvH P b live K o L t w e H nx S (.one (.c (.v (.bool true))))):wvH P b live K o L t w e H nx S (.one (.c (.v (.bool (decide p))))):=by rw[decide_eq_true h];exact a
theorem agU{o:bB}{t:Nat}{w:Bool}{p:Prop}[Decidable p](h: ¬p)(a:wvH P b live K o L t w e H nx S (.one (.c (.v (.bool false))))):wvH P b live K o L t w e H nx S (.one (.c (.v (.bool (decide p))))):=by rw[decide_eq_false h];exact a
theorem ahV{o:bB}{t:Nat}{w:Bool}{p:Prop}[Decidable p](a:p->wvH P b live K o L t w e H nx S (.one (.c (.v (.bool true)))))(d: ¬p->wvH P b live K o L t w e H nx S (.one (.c (.v (.bool false))))):
 wvH P b live K o L t w e H nx S (.one (.c (.v (.bool (decide p))))):=
 ae0 (fun h=>a (by simpa using h)) (fun h=>d (by simpa using h))
theorem Yy{z:List D1}:wv P b live K (⟨ix,dst,.alloc z,none,m,s,k⟩::L) e H nx S=wvA P b live K L dst (b+ix) e H nx S (qO (b+ix) e (.alloc z)):=abG rfl
theorem afL{g:Bool}{x:bC}:wv P b live K (⟨ix,dst,.box g x,none,m,s,k⟩::L) e H nx S=wvA P b live K L dst (b+ix) e H nx S (qO (b+ix) e (.box g x)):=abG rfl
theorem Um{n len:Nat}{z:List D1}{a:List (Nat×Nat×bC)}:wv P b live K (⟨ix,dst,.bY n len z a,none,m,s,k⟩::L) e H nx S=wvA P b live K L dst (b+ix) e H nx S (qO (b+ix) e (.bY n len z a)):=abG rfl
theorem Lq{n:Nat}{z:List D1}{x y:bC}:wv P b live K (⟨ix,dst,.iX n z x y,none,m,s,k⟩::L) e H nx S=wvA P b live K L dst (b+ix) e H nx S (qO (b+ix) e (.iX n z x y)):=abG rfl
theorem acL{id:Nat}{st:List Nat}{c:Prop}[Decidable c]{a:Nat}{x:Option (Option Nat×Nat×Nat×List (List D1))}:wvP P b live K L dst id m st e H nx S a (if c then x else none)=(c/\wvP P b live K L dst id m st e H nx S a x):=by split<;>rename_i h<;>simp[h,wvP]
theorem afO{n i off len cap:Nat}:Wj (.one (.c (.osl n i off len cap)))=cap:=rfl
theorem Fo{st:List Nat}:qK [] st H=True:=by simp[qK]
theorem Ex{p:Nat}{g:aA->Prop}{st:List Nat}:qK ((p,g)::S) st H=((p∈st->g H)/\qK S st H):=by simp[qK]
theorem Sl{k:XK}{l:List bC}:bJ H e (.xop k l)=xq k (l.map (·.ev e)):=rfl
def Wn(P:Program)(args:List D)(H:aA)(nx:Nat)(R:an4):D->Prop
 | .one (.c (.clo f caps))=>aC P f (args++caps.map fun d=>.one (.c d)) H nx R
 |_=>False
theorem aaT{f:bC}{xs:List bC}:wv P b live K (⟨ix,dst,.D4 f xs,none,m,s,k⟩::L) e H nx S=Wn P (xs.map (·.ev e)) (msk b m H) nx (U8 P b live K L dst m s e H S) (f.ev e):=by
 unfold wv;simp only[avc,qX,E3,aop,AOp.kind,UW];generalize f.ev e=d;unfold Wn;split;·simp only[D.one.injEq,DV.c.injEq,D1.clo.injEq,eq_iff_iff];exact⟨by rintro⟨_,_,⟨rfl,rfl⟩,h⟩;exact h,fun h=>⟨_,_,⟨rfl,rfl⟩,h⟩⟩
 ·rename_i a;simp only[eq_iff_iff,iff_false];rintro⟨f,caps,rfl,_⟩;exact a f caps rfl
section
variable{id i kn:Nat}{bl ok:Bool}{R:an4}{m:rB}{l:List Int}{n:Int}{k v:D}
theorem Xl:xl P id H nx R (.PG kn bl) []=R (.one (.c (.omap id))) (H.set id (EX ⟨kn,bl,[]⟩)) nx:=rfl
theorem Sa:xl P id H nx R .BL [.one (.c (.omap i))]=xlL H nx R (U5 H i):=rfl
theorem Ke:xl P id H nx R .BL [.one (.c (.XS m))]=xlL H nx R (some m):=rfl
theorem Nd:xl P id H nx R (.xW kn bl ok) [.one (.c (.XS m)),k]=xlG H nx R kn bl ok (some m) (pt kn k):=rfl
theorem Vi:xl P id H nx R (.xW kn bl ok) [.one (.c (.omap i)),k]=xlG H nx R kn bl ok (U5 H i) (pt kn k):=rfl
theorem Rr:xl P id H nx R (.EV kn bl) [.one (.c (.omap i)),k,v]=xlS H nx R kn bl i (U5 H i) (pt kn k) (vg bl v):=rfl
theorem Zq:xlL H nx R (some m)=R (.one (.c (.v (.int .i64 m.m.length)))) H nx:=rfl
theorem aiL:xlG H nx R kn bl true (some m) (some l)=((m.kn=kn/\m.bl=bl/\l.length=LH kn)/\R (.tup [.c (.v (elemV bl ((kC m.m l).getD 0))),.c (.v (.bool (kC m.m l).isSome))]) H nx):=rfl
theorem ahT:xlG H nx R kn bl false (some m) (some l)=((m.kn=kn/\m.bl=bl/\l.length=LH kn)/\R (.one (.c (.v (elemV bl ((kC m.m l).getD 0))))) H nx):=rfl
theorem Xy:xlS H nx R kn bl i (some m) (some l) (some n)=((m.kn=kn/\m.bl=bl/\l.length=LH kn)/\R .dead (H.set i (EX ⟨kn,bl,DY m.m l n⟩)) nx):=rfl
theorem aa9:U5 H i=(H i).bind Wo:=rfl
theorem aaD{cs:List D1}:pt kn (.one (.agg cs))=if kn=0 then none else LS cs:=rfl
theorem ahD:pt kn (.one (.c (.v (.int .i64 n))))=if kn=0 then some [n] else none:=rfl
theorem ad0{b:Bool}:vg bl (.one (.c (.v (.bool b))))=if bl then some (if b then 1 else 0) else none:=rfl
theorem abW:vg bl (.one (.c (.v (.int .i64 n))))=if bl then none else some n:=rfl
theorem acN:elemV true n= .bool (decide (n≠0)):=rfl
theorem acZ:elemV false n= .int .i64 n:=rfl
theorem Uf:LS []=some []:=rfl
theorem Nj{r:List D1}:LS (.v (.int .i64 n)::r)=(LS r).map (n:: ·):=rfl
theorem ag9{xs ys:List D1}{g:Bool}{q:Nat}:xq (.aeq g q) [.one (.agg xs),.one (.agg ys)]=eqD g q xs ys (LS xs) (LS ys):=rfl
theorem aaA{xs ys:List D1}{q:Nat}{a b:List Int}:eqD false q xs ys (some a) (some b)=if xs.length=q/\ys.length=q then some (.one (.c (.v (.bool (decide (a=b)))))) else none:=rfl
theorem adS{xs ys:List D1}{q:Nat}{a b:List Int}:eqD true q xs ys (some a) (some b)=if xs.length=q/\ys.length=q then some (.one (.c (.v (.bool (decide (¬a=b)))))) else none:=rfl
theorem ab3:LH kn=if kn=0 then 1 else kn:=rfl
end
theorem Q4{F:Nat->Prop}{σ:Nat->Nat}{nh:Nat}{x a:rB}(h:a=x):CvO H F σ nh (EX a) (EX x):=by subst h;exact J1 fun r hr=>by cases hr
theorem Rl{f:FuncId}{caps:List D1}{args:List D}{R:an4}:Wn P args H nx R (.one (.c (.clo f caps)))=aC P f (args++caps.map fun d=>.one (.c d)) H nx R:=rfl
theorem aj2{a b:Int}:(a==b)=decide (a=b):=by by_cases h:a=b<;>simp[h]
theorem aj3{a b:Int}:(a != b)=decide (¬a=b):=by by_cases h:a=b<;>simp[h]
theorem ajT{p:Prop}[Decidable p]:(!decide p)=decide (¬p):=by by_cases h:p<;>simp[h]
theorem acM{α:Type}{enc:α->List D1}{l:List α}{i:Nat}{x:α}:(l.map enc).set i (enc x)=(l.set i x).map enc:=(al8).symm
theorem Xd{α:Type}{enc:α->List D1}{l:List α}{x:α}:l.map enc++[enc x]=(l++[x]).map enc:=by simp
theorem aaJ{α:Type}{enc:α->List D1}{l:List α}{k:Nat}:(l.map enc).take k=(l.take k).map enc:=(List.map_take).symm
theorem Zf{α:Type}{enc:α->List D1}{l:List α}{k:Nat}:(l.map enc).drop k=(l.drop k).map enc:=(amD).symm
end
abbrev dI(n:Int):D:=.one (.c (.v (.int .i64 n)))
abbrev dB(b:Bool):D:=.one (.c (.v (.bool b)))
abbrev dS(rows:List (List D1)):D:=.one (.c (.isl rows))
abbrev dO(n id len cap:Nat):D:=.one (.c (.osl n id 0 len cap))
abbrev dP(n id:Nat):D:=.one (.c (.ptr n id 0 0))
abbrev dA(cs:List D1):D:=.one (.agg cs)
abbrev cI(n:Int):D1:=.v (.int .i64 n)
abbrev cB(b:Bool):D1:=.v (.bool b)
def aG(x:Int):List D1:=[.v (.int .i64 x)]
theorem uE{p:Prop}[Decidable p](h:p):dB true=dB (decide p):=by rw[decide_eq_true h]
theorem j9{p:Prop}[Decidable p](h: ¬p):dB false=dB (decide p):=by rw[decide_eq_false h]
theorem rL{p q:Prop}[Decidable p][Decidable q](h:p↔q):dB (decide p)=dB (decide q):=by rw[decide_eq_decide.2 h]
theorem jC{a b:Int}(h:a=b):dI a=dI b:=by rw[h]
theorem Yv{l:List Int}{x:Int}:l.map aG++[[.v (.int .i64 x)]]=(l++[x]).map aG:=by simp[aG]
theorem adD{l:List Int}{i:Nat}{x:Int}:(l.map aG).set i [.v (.int .i64 x)]=(l.set i x).map aG:=by rw[al8];rfl
attribute [go_sem] Yv adD
section
variable {rows : List (List D1)} {k k' k'' : IntKind} {a b c : Int} {n m id off len cap : Nat}
theorem ahH:IJ n (.one (.c (.isl rows))) none (some (.one (.c (.v (.int k a))))) none=if (0<=a/\a<=rows.length)/\(∀r∈rows,r.length=n) then some (.one (.c (.isl (rows.take a.toNat)))) else none:=by
 by_cases d: ∀r∈rows,r.length=n;·by_cases b:0<=a<;>simp only[IJ,TX,b,eq_true d,if_true,if_false,reduceIte,and_true,and_false,true_and,false_and]<;>(repeat' split)<;>first|rfl| (exfalso;omega)| (simp only[alK,Nat.sub_zero,Option.some.injEq,D.one.injEq,DV.c.injEq,D1.isl.injEq];first|rfl|exact akM (by simp)|exact akM (akA _))
 ·by_cases b:0<=a<;>simp only[IJ,TX,b,eq_false d,if_true,if_false,reduceIte,and_true,and_false,true_and,false_and]<;>(repeat' split)<;>first|rfl| (exfalso;omega)| (simp only[alK,Nat.sub_zero,Option.some.injEq,D.one.injEq,DV.c.injEq,D1.isl.injEq];first|rfl|exact akM (by simp)|exact akM (akA _))
theorem agO:IJ n (.one (.c (.osl m id off len cap))) none (some (.one (.c (.v (.int k a))))) none=if (m=n\/cap=0)/\0<=a/\a<=cap then some (.one (.c (.osl n id off a.toNat cap))) else none:=by by_cases b:0<=a<;>simp only[IJ,TX,Jx,b,if_true,if_false,reduceIte,and_true,true_and,and_false,false_and]<;>(repeat' split)<;>first| (exfalso;omega)| (simp;done)| (simp;omega)
theorem agY:IJ n (.one (.c (.osl m id off len cap))) (some (.one (.c (.v (.int k a))))) none none=if (m=n\/cap=0)/\0<=a/\a<=len/\len<=cap then some (.one (.c (.osl n id (off+a.toNat) (len-a.toNat) (cap-a.toNat)))) else none:=by by_cases b:0<=a<;>simp only[IJ,TX,Jx,b,if_true,if_false,reduceIte,and_true,true_and,and_false,false_and]<;>(repeat' split)<;>first| (exfalso;omega)| (simp;done)| (simp;omega)
theorem acW:IJ n (.one (.c (.osl m id off len cap))) (some (.one (.c (.v (.int k a))))) (some (.one (.c (.v (.int k' b))))) none=if (m=n\/cap=0)/\0<=a/\a<=b/\b<=cap then some (.one (.c (.osl n id (off+a.toNat) (b.toNat-a.toNat) (cap-a.toNat)))) else none:=by by_cases d:0<=a<;>by_cases e:0<=b<;>simp only[IJ,TX,Jx,d,e,if_true,if_false,reduceIte,and_true,true_and,and_false,false_and]<;>(repeat' split)<;>first| (exfalso;omega)| (simp;done)| (simp;omega)
theorem aeC:IJ n (.one (.c (.osl m id off len cap))) none (some (.one (.c (.v (.int k a))))) (some (.one (.c (.v (.int k' b)))))=if (m=n\/cap=0)/\0<=a/\a<=b/\b<=cap then some (.one (.c (.osl n id off a.toNat b.toNat))) else none:=by by_cases d:0<=a<;>by_cases e:0<=b<;>simp only[IJ,TX,Jx,d,e,if_true,if_false,reduceIte,and_true,true_and,and_false,false_and]<;>(repeat' split)<;>first| (exfalso;omega)| (simp;done)| (simp;omega)
theorem Zj:IJ n (.one (.c (.osl m id off len cap))) (some (.one (.c (.v (.int k a))))) (some (.one (.c (.v (.int k' b))))) (some (.one (.c (.v (.int k'' c)))))=if (m=n\/cap=0)/\0<=a/\a<=b/\b<=c/\c<=cap then some (.one (.c (.osl n id (off+a.toNat) (b.toNat-a.toNat) (c.toNat-a.toNat)))) else none:=by by_cases d:0<=a<;>by_cases e:0<=b<;>by_cases hc:0<=c<;>simp only[IJ,TX,Jx,d,e,hc,if_true,if_false,reduceIte,and_true,true_and,and_false,false_and]<;>(repeat' split)<;>first| (exfalso;omega)| (simp;done)| (simp;omega)
end
attribute [go_sem] ahH agO agY acW aeC Zj true_or or_true
def en:List (Nat×D)->Env
 | []=>Env.nil
 | (t,d)::l=>(en l).set t d
theorem afH:en []=Env.nil:=rfl
theorem adT{t:Nat}{d:D}{l:List (Nat×D)}:en ((t,d)::l)=(en l).set t d:=rfl
def hp:List (Nat×bQ)->aA
 | []=>aA.nil
 | (i,o)::l=>(hp l).set i o
theorem ahF:hp []=aA.nil:=rfl
theorem ab5{i:Nat}{o:bQ}{l:List (Nat×bQ)}:hp ((i,o)::l)=(hp l).set i o:=rfl
def DV.imm:DV->Bool
 | .c d=>d.fV
 | .agg a=>a.all D1.fV
def D.imm:D->Bool
 | .one x=>x.imm
 | .tup xs=>xs.all DV.imm
 | .dead=>false
section
variable{P:Program}{H G:aA}{F:Nat -> Prop}{σ:Nat -> Nat}{nx nh:Nat}{e e':Env}
theorem Fi{τ:Nat->Nat}{d:D1}(h:d.fV=true):rn1 τ d=d:=by cases d<;>first|rfl|cases h
theorem Pg{τ:Nat->Nat}{d:DV}(h:d.imm=true):rnV τ d=d:=by
 cases d with
 |c d=>simp only[rnV];rw[Fi h]
 |agg a=>
  simp only[rnV];congr 1;have b:=akR.1 h;conv=>rhs;rw[<-amM a]
  exact alH fun x e=>Fi (b x e)
theorem Qw{τ:Nat->Nat}{d:D}(h:d.imm=true):rnD τ d=d:=by
 cases d with
 |one x=>simp only[rnD];rw[Pg h]
 |dead=>rfl
 |tup xs=>
  simp only[rnD];congr 1;have a:=akR.1 h;conv=>rhs;rw[<-amM xs]
  exact alH fun x b=>Pg (a x b)
theorem Xe{d:DV}(h:d.imm=true):CvV H F σ nh d d:=by
 cases d with
 |c d=>exact bZ h
 |agg b=>exact TO fun x a=>akR.1 h x a
theorem aD{d:D}(h:d.imm=true):CvD H F σ nh d d:=by
 cases d with
 |one x=>exact Xe h
 |dead=>trivial
 |tup xs=>refine⟨rfl,fun i a b c e=> ?_⟩;rw[c] at e;cases e;exact Xe (akR.1 h a (akF c))
theorem aC.fresh{f:FuncId}{args:List D}{K:an4}{R:D->Prop}(h:aC P f args .nil 0 fun r _ n=>n=0/\r.imm=true/\R r)(a:args.all D.imm=true)(e: ∀r,R r->K r H nx):aC P f args H nx K:=by
 refine aC.lift h id rfl (fun i g d b c=> ?_) sc (fun i hi=>absurd hi (alA i)) (fun i j hi=>absurd hi (alA i)) fun r H' l _ ⟨b,c,k⟩=> ?_;·rw[b] at c;cases c;exact aD (akR.1 a g (akF b))
 ·subst b;rw[Qw c];exact e r k
theorem JX{Q:AQ}{rs:List aR}{R:D->Prop}(e: ∀ex b H2 a d nh d2 f F σ,ex=AEx.normal\/ex=AEx.ret->AJ H2 b rs=some d->CvR 0 d H2 nh d2 f F σ->(nh=0/\d2.imm=true/\R d2)->Q ex b H2 a)
 {b:Env} {H2:aA} {a:Nat} (c d:D) (g:AJ H2 b rs=some d) (h:CvD H2 (fun _=>True) id 0 c d) (i:c.imm=true) (j:R c):Q .ret b H2 a:=
 e _ _ _ _ d 0 c .nil (fun _=>True) id (.inr rfl) g ⟨akA _,fun _ _=>rfl,h,sc⟩ ⟨rfl,i,j⟩
def Gs(n:Nat)(rows:List (List D1)):Prop:=∀r∈rows,r.length=n/\ ∀x∈r,x.fV=true
variable{n:Nat}
theorem aW{α:Type}{enc:α->List D1}(h: ∀x,(enc x).length=n/\(enc x).all D1.fV=true)(l:List α):Gs n (l.map enc):=by intro r hr;obtain⟨x,_,rfl⟩:=akJ.1 hr;exact⟨(h x).1,akR.1 (h x).2⟩
variable{rows:List (List D1)}{len cap:Nat}
theorem Qc{id:Nat}{o:bQ}(hi:Gs n rows)(hl:len=rows.length)(d:F id)(e:H id=some o)(f:o.n=n)(hr:o.rows.take rows.length=rows)(hc:rows.length<=cap):Cv1 H F σ nh (.isl rows) (.osl n id 0 len cap):=by
 subst hl;have hle:rows.length<=o.rows.length:=by have:=congrArg List.length hr;rw[ak1] at this;omega
 have g: ∀i:Nat,∀r',rows[i]?=some r'->o.rows[i]?=some r':=by
  intro i r' h;rw[<-hr,alB] at h;split at h;·exact h
  ·cases h
 refine .frz (.frz rows n id 0 cap o (fun i j=>((rows[i]?.getD [])[j]?).getD .dead) d e f (by omega) hc (fun i r' h=>(hi r' (akF h)).1) (fun i j r' c a b=>⟨r',by rw[al4];exact g i r' a,by rw[a];simp[b]⟩) fun i j r' c a b=> ?_);rw[a];simp only[Option.getD_some,b];exact .same c ((hi r' (akF a)).2 c (akF b))
theorem L7{n id off:Nat}:Cv1 H F σ nh (.isl []) (.osl n id off 0 0):=.frz (.nil n id off)
theorem uZ{n id d off a len b cap c:Nat}(h:d<nh)(hs:σ d=id)(e:a=off)(f:b=len)(g:c=cap):Cv1 H F σ nh (.osl n d a b c) (.osl n id off len cap):=by subst e;subst f;subst g;exact Py h hs
theorem ru{id:Nat}{o:bQ}(hi:Gs n rows)(hl:len=rows.length)(a:F id)(b:H id=some o)(d:o.n=n)(hr:o.rows.take rows.length=rows)(hc:rows.length<=cap):CvD H F σ nh (dS rows) (.one (.c (.osl n id 0 len cap))):=Qc hi hl a b d hr hc
theorem I2{id e off a b d:Nat}(h:e<nh)(hs:σ e=id)(f:a=off)(g:b=len)(i:d=cap):CvD H F σ nh (.one (.c (.osl n e a b d))) (.one (.c (.osl n id off len cap))):=uZ h hs f g i
theorem Gx{f:FuncId}{caps:List D1}(h:caps.all D1.fV=true):Cv1 H F σ nh (.clo f caps) (.clo f caps):=
 .clo f caps caps rfl fun i x y a b=>by rw[a] at b;cases b;have:=akR.1 h x (akF a);exact .inl ⟨this,.same x this⟩
theorem pO{f:FuncId}{caps:List D1}(h:caps.all D1.fV=true):CvD H F σ nh (.one (.c (.clo f caps))) (.one (.c (.clo f caps))):=Gx h
def Wp(H:aA)(F:Nat->Prop):List D1->List D1->Prop
 | [],[]=>True
 |x::xs,y::ys=>(x.fV=true/\Frz H F x y)/\Wp H F xs ys
 |_,_=>False
theorem OO: ∀{xs ys:List D1},Wp H F xs ys->xs.length=ys.length/\ ∀(i:Nat) (x y:D1),xs[i]?=some x->ys[i]?=some y->x.fV=true/\Frz H F x y
 | [],[],_=>⟨rfl,fun i x y h=>by simp at h⟩
 |a::xs,b::ys,h=>⟨by simp[(OO h.2).1],fun i x y c d=>by
  match i with
  |0=>simp at c d;subst c;subst d;exact h.1
  |i+1=>exact(OO h.2).2 i x y (by simpa using c) (by simpa using d)⟩
 | [],_::_,h=>h.elim
 |_::_,[],h=>h.elim
theorem ri{f:FuncId}{a caps:List D1}(h:Wp H F a caps):CvD H F σ nh (.one (.c (.clo f a))) (.one (.c (.clo f caps))):=
 .clo f caps a (OO h).1 fun i x y b d=>.inl ((OO h).2 i x y b d)
theorem JU{cells:List D1}{id:Nat}{o:bQ}(hi:cells.all D1.fV=true)(b:F id)(c:H id=some o)(d:o.n=n)(hr:o.rows[0]?=some cells):(D1.eT cells).fV=true/\Frz H F (.eT cells) (.ptr n id 0 0):=
 ⟨rfl,.ptr cells n id 0 0 o cells (fun j=>(cells[j]?).getD .dead) b c d hr (fun j a h=>by simp[h]) (fun j a h=>by
  simp only[h,Option.getD_some]
  exact .same a (akR.1 hi a (akF h)))⟩
theorem Ns{cells:List D1}{n id:Nat}{o:bQ}(hi:cells.all D1.fV=true)(a:F id)(b:H id=some o)(d:o.n=n)(hr:o.rows[0]?=some cells):CvD H F σ nh (.one (.c (.eT cells))) (.one (.c (.ptr n id 0 0))):=
 .frz (JU hi a b d hr).2
theorem aS(hle:nx<=nh)(h:CvE H (fun _=>True) id nh e' e): ∃F σ,Cv nx e H nh e' .nil F σ:=⟨fun _=>True,id,hle,fun _ _=>rfl,h,sc⟩
def Jj(H:aA):List D->List D->Prop
 | [],[]=>True
 |a::l0,d::l=>CvD H (fun _=>True) id 0 a d/\Jj H l0 l
 |_,_=>False
theorem aE: ∀{l0 l:List D},Jj H l0 l->∀(i:Nat) (c d:D),l0[i]?=some c->l[i]?=some d->CvD H (fun _=>True) id 0 c d
 | [],[],_,i,c,d,e,_=>by simp at e
 |a::l0,b::l,h,i,c,d,e,f=>by
  match i with
  |0=>simp at e f;subst e;subst f;exact h.1
  |i+1=>exact aE h.2 i c d (by simpa using e) (by simpa using f)
 | [],_::_,h,_,_,_,_,_=>h.elim
 |_::_,[],h,_,_,_,_,_=>h.elim
theorem SW{α:Type}{enc:α->List D1}{l:List α}{id m:Nat}(he: ∀x,(enc x).length=n/\(enc x).all D1.fV=true)(a:H id=some ⟨n,m,l.map enc⟩)(hl:len=l.length)(hc:l.length<=cap)(b:F id):CvD H F σ nh (dS (l.map enc)) (.one (.c (.osl n id 0 len cap))):=ru (aW he l) (by simp[hl]) b a rfl (akM (akA _)) (by simp;omega)
theorem aT{t:Nat}{d:D}{l:List (Nat×D)}(h:CvE H F σ nh (en l) e)(a:CvD H F σ nh d (e t)):CvE H F σ nh (en ((t,d)::l)) e:=ab7 h a
theorem eR:CvE H F σ nh (en []) e:=fun _=>trivial
def sgL(nx:Nat)(s:List Nat)(i:Nat):Nat:=if i<nx then i else (s[i-nx]?).getD i
def OkO(H:aA)(F:Nat->Prop)(σ:Nat->Nat)(nh:Nat):List (Nat×bQ)->Prop
 | []=>True
 |p::l=>(p.1<nh/\ ¬F (σ p.1)/\ ∃o,H (σ p.1)=some o/\CvO H F σ nh p.2 o)/\OkO H F σ nh l
theorem Ds: ∀{l:List (Nat×bQ)} {i:Nat} {o:bQ},hp l i=some o->(i,o)∈l
 | [],i,o,h=>by simp[hp,aA.nil] at h
 | (j,p)::l,i,o,h=>by
   simp only[hp,aA.set] at h;split at h;·rename_i hi;cases h;subst hi;simp
   ·exact alL _ (Ds h)
theorem Pt: ∀{l:List (Nat×bQ)},OkO H F σ nh l->∀p∈l,p.1<nh/\ ¬F (σ p.1)/\ ∃o,H (σ p.1)=some o/\CvO H F σ nh p.2 o
 | [],_,p,hp=>by simp at hp
 |q::l,h,p,hp=>by
  rcases akK.1 hp with rfl|hp;·exact h.1
  ·exact Pt h.2 p hp
variable{l:List (Nat×bQ)}
theorem Vn(h:(l.map fun p=>σ p.1).Nodup){p q:Nat×bQ}(d:p∈l)(e:q∈l)(he:σ p.1=σ q.1):p=q:=by
 induction l with
 |nil=>simp at d
 |cons a l f=>
  simp only[akP,alG] at h;rcases akK.1 d with b|b<;>rcases akK.1 e with c|c;·rw[b,c]
  ·subst b;exact absurd (akJ.2 ⟨q,c,he.symm⟩:σ p.1∈l.map fun p=>σ p.1) h.1
  ·subst c;exact absurd (akJ.2 ⟨p,b,he⟩:σ q.1∈l.map fun p=>σ p.1) h.1
  ·exact f h.2 b c
theorem YP(h:OkO H F σ nh l)(b:(l.map fun p=>σ p.1).Nodup):CvH H F σ nh (hp l):=⟨fun id o' a=>Pt h _ (Ds a),fun i j o o' hi c he=>congrArg Prod.fst (Vn b (Ds hi) (Ds c) he)⟩
theorem mZ(s:List Nat)(hle:nx<=nh)(a:CvE H (· ∉s) (sgL nx s) nh e' e)(b:OkO H (· ∉s) (sgL nx s) nh l)(c:(l.map fun p=>sgL nx s p.1).Nodup): ∃F σ,Cv nx e H nh e' (hp l) F σ:=⟨_,_,hle,fun i hi=>by simp[sgL,hi],a,YP b c⟩
theorem oE{d a:D}(s:List Nat)(hle:nx<=nh)(b:CvD H (· ∉s) (sgL nx s) nh a d)(c:OkO H (· ∉s) (sgL nx s) nh l)(e:(l.map fun p=>sgL nx s p.1).Nodup):CvR nx d H nh a (hp l) (· ∉s) (sgL nx s):=⟨hle,fun i hi=>by simp[sgL,hi],b,YP c e⟩
theorem dX{m b:Nat}{a:List (List D1)}(hi:Gs n a)(h:a=rows)(hm:b=m):CvO H F σ nh ⟨n,b,a⟩ ⟨n,m,rows⟩:=by subst h;subst hm;exact J1 fun r hr=>(hi r hr).2
theorem aH.aaX{P:Program}{T:Nat}{e:Env}{H:aA}{nx:Nat}{Q:AQ}{x:AC}{zs:List AC}{α:Type}(m:Nat)(E:Nat->α->Env)(G:Nat->α->aA)(μ:α->Nat)(a:α)(c: ∃F σ,Cv nx e H (nx+m) (E nx a) (G nx a) F σ)
 (h: ∀u,∀K:Env->aA->Nat->Prop,(∀e' H' nx' b,nx+m<=nx'->μ b<μ u->(∃F σ,Cv nx e' H' (nx+m) (E nx b) (G nx b) F σ)->K e' H' nx')->aH P T [x] (E nx u) (G nx u) (nx+m) (AQ.then K Q)):aH P T (.loop x::zs) e H nx Q:=
 aH.loop (E nx) (G nx) (nx+m) μ a c h
end
attribute [go_sem] afO Xl Sa Ke Vi Nd Rr Zq aiL ahT Xy aa9 Vd aaD ahD ad0 abW acN acZ Uf Nj ag9 aaA adS ab3 Fo Ex akK alM or_false false_or or_self Sl aaT Rl aaJ Zf acL akM List.length_range anT Yy afL Um Lq ajV ah8 agE af5 agT agM agG ag1 aj2 aj3 ajT acM Xd afH adT ahF ab5 aG gt_iff_lt ge_iff_le Int.reduceEq Int.reduceNe Int.reduceLT Int.reduceLE Int.reduceAdd Int.reduceSub Int.reduceMul Int.reduceNeg decide_true decide_false Int.toNat_natCast am7 Bool.not_false not_true_eq_false not_false_eq_true alX akG Nat.reduceMul Nat.reduceSub Nat.reduceLT Int.reduceToNat
section
variable{P:Program}{H G:aA}{F:Nat -> Prop}{σ:Nat -> Nat}{nx nh:Nat}{e e':Env}
def DZ(o:bQ):Prop:=∀r∈o.rows,∀x∈r,x.fV=true
theorem CS{τ:Nat->Nat}{o:bQ}(h:DZ o):o.rn τ=o:=by
 unfold bQ.rn;congr 1;conv=>rhs;rw[<-amM o.rows]
 refine alH fun r hr=> ?_;conv=>rhs;rw[<-amM r]
 exact alH fun x a=>Fi (h r hr x a)
theorem aA.ahI{i:Nat}{o:bQ}:H.upd i (some o)=H.set i o:=rfl
theorem aC.Iq{f:FuncId}{args0 args:List D}{K:an4}{o:bQ}{R:D->bQ->Prop}(i:Nat)(h:aC P f args0 (hp [(0,o)]) 1 fun r H' c=>c=1/\ ∃o',H'=hp [(0,o')]/\DZ o'/\R r o')(hlen:args.length=args0.length)
 (a: ∀(j:Nat) (g d:D),args0[j]?=some g->args[j]?=some d->CvD H (fun _=>False) (fun _=>i) 1 g d) (hi:i<nx) (l:H i=some o) (b:DZ o) (m: ∀r o',R r o'->K (rnD (tau 1 nx fun _=>i) r) (H.set i o') nx):aC P f args H nx K:=by
 refine aC.lift h (fun _=>i) hlen a (YP ⟨⟨Nat.zero_lt_one,fun h=>h,o,l,J1 b⟩,trivial⟩ (by simp)) (fun j _=>hi) (fun j k t u _=>by omega) fun r H' c hle ⟨n,o',p,q,s⟩=> ?_
 subst n;subst p
 have e:back (tau 1 nx fun _=>i) (hp [(0,o')]) 1 H=H.set i o':=by
  simp only[back,hp,aA.set,Option.map_some,CS q,aA.ahI,if_true];have:tau 1 nx (fun _=>i) 0=i:=by simp[tau]
  rw[this]
 rw[e]
 exact m r o' s
theorem aC.ahU{f:FuncId}{args0 args:List D}{K:an4}{m n:bQ}{R:D->bQ->bQ->Prop}(i j:Nat)(h:aC P f args0 (hp [(0,m),(1,n)]) 2 fun r H' s=>s=2/\ ∃c g,H'=hp [(0,c),(1,g)]/\DZ c/\DZ g/\R r c g)(hlen:args.length=args0.length)
 (l: ∀(k:Nat) (t d:D),args0[k]?=some t->args[k]?=some d->CvD H (fun _=>False) (fun k=>if k=0 then i else j) 2 t d) (hi:i<nx) (F:j<nx) (o:i≠j) (p:H i=some m) (q:H j=some n) (w:DZ m) (x:DZ n)
 (y: ∀r c g,R r c g->K (rnD (tau 2 nx fun k=>if k=0 then i else j) r) ((H.set i c).set j g) nx):aC P f args H nx K:=by
 refine aC.lift h (fun k=>if k=0 then i else j) hlen l (YP ⟨⟨by simp,fun h=>h,m,by simpa using p,J1 w⟩,⟨by simp,fun h=>h,n,by simpa using q,J1 x⟩,trivial⟩ (by simpa using o)) (fun k _=>by split<;>assumption) (fun a b G I he=> ?_) fun r H' s hle ⟨z,c,g,A,u,v,B⟩=> ?_
 ·split at he<;>split at he<;>omega
 subst z;subst A
 have e:back (tau 2 nx fun k=>if k=0 then i else j) (hp [(0,c),(1,g)]) 2 H=(H.set i c).set j g:=by
  have C:tau 2 nx (fun k=>if k=0 then i else j) 0=i:=by simp[tau]
  have E:tau 2 nx (fun k=>if k=0 then i else j) 1=j:=by simp[tau]
  simp only[back,hp,aA.set,C,E,Option.map_some,CS u,CS v,if_true,al4];simp only[Nat.zero_ne_one,anD,if_false,Option.map_some,CS u,CS v];rfl
 rw[e]
 exact y r c g B
theorem Q6{Q:AQ}{rs:List aR}{R:D->bQ->Prop}(g: ∀ex b H2 a d nh d2 e F σ,ex=AEx.normal\/ex=AEx.ret->AJ H2 b rs=some d->CvR 1 d H2 nh d2 e F σ->(nh=1/\ ∃o',e=hp [(0,o')]/\DZ o'/\R d2 o')->Q ex b H2 a)
 {b:Env} {H2:aA} {a:Nat} (c d:D) (o':bQ) (j:AJ H2 b rs=some d) (k:CvD H2 (fun i=>i≠0) id 1 c d) (l:H2 0=some o') (f:DZ o') (m:R c o'):Q .ret b H2 a:=
 g _ _ _ _ d 1 c (hp [(0,o')]) (fun i=>i≠0) id (.inr rfl) j ⟨akA _,fun _ _=>rfl,k,YP ⟨⟨Nat.zero_lt_one,fun h=>h rfl,o',l,J1 f⟩,trivial⟩ (by simp)⟩ ⟨rfl,o',rfl,f,m⟩
theorem Zn{Q:AQ}{rs:List aR}{R:D->bQ->bQ->Prop}(m: ∀ex g H2 a d nh d2 j F σ,ex=AEx.normal\/ex=AEx.ret->AJ H2 g rs=some d->CvR 2 d H2 nh d2 j F σ->(nh=2/\ ∃b c,j=hp [(0,b),(1,c)]/\DZ b/\DZ c/\R d2 b c)->Q ex g H2 a)
 {g:Env} {H2:aA} {a:Nat} (h d:D) (e f:bQ) (n:AJ H2 g rs=some d) (o:CvD H2 (fun i=>2<=i) id 2 h d) (p:H2 0=some e) (q:H2 1=some f) (k:DZ e) (l:DZ f) (r:R h e f):Q .ret g H2 a:=
 m _ _ _ _ d 2 h (hp [(0,e),(1,f)]) (fun i=>2<=i) id (.inr rfl) n ⟨akA _,fun _ _=>rfl,o,YP ⟨⟨by simp,by simp,e,p,J1 k⟩,⟨by simp,by simp,f,q,J1 l⟩,trivial⟩ (by simp)⟩ ⟨rfl,e,f,rfl,k,l,r⟩
theorem eS{α:Type}{enc:α->List D1}{n m:Nat}(h: ∀x,(enc x).length=n/\(enc x).all D1.fV=true)(l:List α):DZ ⟨n,m,l.map enc⟩:=fun r hr=>(aW h l r hr).2
def ac3(H:aA)(τ:Nat->Nat)(n:Nat):List D->List D->Prop
 | [],[]=>True
 |a::l0,d::l=>CvD H (fun _=>False) τ n a d/\ac3 H τ n l0 l
 |_,_=>False
theorem lY{τ:Nat->Nat}{n:Nat}: ∀{l0 l:List D},ac3 H τ n l0 l->∀(i:Nat) (c d:D),l0[i]?=some c->l[i]?=some d->CvD H (fun _=>False) τ n c d
 | [],[],_,i,c,d,e,_=>by simp at e
 |a::l0,b::l,h,i,c,d,e,f=>by
  match i with
  |0=>simp at e f;subst e;subst f;exact h.1
  |i+1=>exact lY h.2 i c d (by simpa using e) (by simpa using f)
 | [],_::_,h,_,_,_,_,_=>h.elim
 |_::_,[],h,_,_,_,_,_=>h.elim
end
section
variable{P:Program}{T:Nat}{e:Env}{H:aA}{nx:Nat}{Q:AQ}
theorem aH.SJ{x:AC}{zs:List AC}{β:Type}(m:Nat)(E:Nat->β->Env)(G:Nat->β->aA)(I:β->Prop)(μ:β->Nat)(v0:β)(c: ∃F σ,Cv nx e H (nx+m) (E nx v0) (G nx v0) F σ)(hi:I v0)
 (h: ∀v,I v->∀K:Env->aA->Nat->Prop,(∀e' H' nx' a,nx+m<=nx'->(∃F σ,Cv nx e' H' (nx+m) (E nx a) (G nx a) F σ)->I a->μ a<μ v->K e' H' nx')->aH P T [x] (E nx v) (G nx v) (nx+m) (AQ.then K Q)):aH P T (.loop x::zs) e H nx Q:=
 aH.aaX (α:={v:β//I v}) m (fun b u=>E b u.1) (fun b u=>G b u.1) (fun u=>μ u.1) ⟨v0,hi⟩ c fun u K d=>h u.1 u.2 K fun e' H' nx' a f g i j=>d e' H' nx' ⟨a,i⟩ f j g
theorem agS{H:aA}{F:Nat->Prop}{σ:Nat->Nat}{nh:Nat}{a b:D1}(h:Cv1 H F σ nh a b):Cv1 H F σ nh a b:=h
theorem agI{H:aA}{F:Nat->Prop}{σ:Nat->Nat}{nh:Nat}{a b:D}(h:CvD H F σ nh a b):CvD H F σ nh a b:=h
theorem aiW{H:aA}{F:Nat->Prop}{σ:Nat->Nat}{nh:Nat}{a b:D1}(h:a=b)(hi:a.fV=true):Cv1 H F σ nh a b:=h▸bZ hi
theorem iN{H:aA}{F:Nat->Prop}{σ:Nat->Nat}{nh:Nat}{α:Type}{enc:α->List D1}{l:List α}{n id len cap m:Nat}(he: ∀x,(enc x).length=n/\(enc x).all D1.fV=true)(a:H id=some ⟨n,m,l.map enc⟩)(hl:len=l.length)(hc:l.length<=cap)(b:F id):Cv1 H F σ nh (.isl (l.map enc)) (.osl n id 0 len cap):=Qc (aW he l) (by simp[hl]) b a rfl (akM (akA _)) (by simp;omega)
def kpm(b:Nat)(l:List Nat)(H:aA):aA:=fun i=>if i∈l.map (b+ ·) then H i else none
variable{b i:Nat}{l:List Nat}{o:bQ}{G:aA}
theorem abM:msk b l (H.set i o)=if i∈l.map (b+ ·) then msk b l H else (msk b l H).set i o:=by
 split
 ·rename_i h;funext j;simp only[msk,aA.set];by_cases a:j=i;·subst a;simp only[h,if_true]
  ·simp only[a,if_false]
 ·rename_i h;funext j;simp only[msk,aA.set];by_cases a:j=i;·subst a;simp only[h,if_true,if_false]
  ·simp only[a,if_false]
theorem abJ:msk b l aA.nil=aA.nil:=by funext j;simp only[msk,aA.nil];split<;>rfl
theorem acB:msk b l (H.del i)=(msk b l H).del i:=by funext j;simp only[msk,aA.del];split<;>split<;>rfl
theorem ac6:kpm b l (H.set i o)=if i∈l.map (b+ ·) then (kpm b l H).set i o else kpm b l H:=by
 split
 ·rename_i h;funext j;simp only[kpm,aA.set];by_cases a:j=i;·subst a;simp only[h,if_true]
  ·simp only[a,if_false]
 ·rename_i h;funext j;simp only[kpm,aA.set];by_cases a:j=i;·subst a;simp only[h,if_false]
  ·simp only[a,if_false]
theorem aaC:kpm b l aA.nil=aA.nil:=by funext j;simp only[kpm,aA.nil];split<;>rfl
theorem Lx:dU b l H aA.nil=kpm b l H:=by funext j;simp only[dU,kpm,aA.nil]
theorem Mz:dU b l H (G.set i o)=if i∈l.map (b+ ·) then dU b l H G else (dU b l H G).set i o:=by
 split
 ·rename_i h;funext j;simp only[dU,aA.set];by_cases a:j=i;·subst a;simp only[h,if_true]
  ·simp only[a,if_false]
 ·rename_i h;funext j;simp only[dU,aA.set];by_cases a:j=i;·subst a;simp only[h,if_true,if_false]
  ·simp only[a,if_false]
theorem Uq:dU b l H (G.del i)=if i∈l.map (b+ ·) then dU b l H G else (dU b l H G).del i:=by
 split
 ·rename_i h;funext j;simp only[dU,aA.del];by_cases a:j=i;·subst a;simp only[h,if_true]
  ·simp only[a,if_false]
 ·rename_i h;funext j;simp only[dU,aA.del];by_cases a:j=i;·subst a;simp only[h,if_true,if_false]
  ·simp only[a,if_false]
variable{a c:bQ}
theorem I0{H:aA}{i j:Nat}(h: ¬i=j):(H.set i a).set j c=(H.set j c).set i a:=by
 funext k;simp only[aA.set];by_cases d:k=j;·subst d;rw[if_pos rfl,if_neg (fun b=>h b.symm),if_pos rfl]
 ·rw[if_neg d];by_cases b:k=i;·rw[if_pos b,if_pos b]
  ·rw[if_neg b,if_neg b,if_neg d]
variable{j0:Nat}{b0:bQ}
theorem Xw{H:aA}{i:Nat}(b: ¬j0=i):((H.set i a).set j0 b0).set i c=((H.set i c).set j0 b0):=by rw[I0 b,aA.set_set]
variable{j1:Nat}{b1:bQ}
theorem aaQ{H:aA}{i:Nat}(b: ¬j0=i)(d: ¬j1=i):(((H.set i a).set j0 b0).set j1 b1).set i c=(((H.set i c).set j0 b0).set j1 b1):=by rw[I0 d,Xw b]
variable{j2:Nat}{b2:bQ}
theorem aaO{H:aA}{i:Nat}(b: ¬j0=i)(d: ¬j1=i)(e: ¬j2=i):((((H.set i a).set j0 b0).set j1 b1).set j2 b2).set i c=((((H.set i c).set j0 b0).set j1 b1).set j2 b2):=by rw[I0 e,aaQ b d]
theorem Zp{H:aA}{i b:Nat}{d:bQ}(e: ¬j0=i)(f: ¬j1=i)(g: ¬j2=i)(h: ¬b=i):(((((H.set i a).set j0 b0).set j1 b1).set j2 b2).set b d).set i c=(((((H.set i c).set j0 b0).set j1 b1).set j2 b2).set b d):=by rw[I0 h,aaO e f g]
theorem aa1{H:aA}{i b d:Nat}{e f:bQ}(g: ¬j0=i)(h: ¬j1=i)(j: ¬j2=i)(k: ¬b=i)(l: ¬d=i):((((((H.set i a).set j0 b0).set j1 b1).set j2 b2).set b e).set d f).set i c=((((((H.set i c).set j0 b0).set j1 b1).set j2 b2).set b e).set d f):=by rw[I0 l,Zp g h j k]
theorem Yj{H:aA}{i b d e:Nat}{f g h:bQ}(j: ¬j0=i)(k: ¬j1=i)(l: ¬j2=i)(m: ¬b=i)(n: ¬d=i)(o: ¬e=i):(((((((H.set i a).set j0 b0).set j1 b1).set j2 b2).set b f).set d g).set e h).set i c=(((((((H.set i c).set j0 b0).set j1 b1).set j2 b2).set b f).set d g).set e h):=by rw[I0 o,aa1 j k l m n]
theorem ag3{H:aA}{i b d e f:Nat}{g h j k:bQ}(l: ¬j0=i)(m: ¬j1=i)(n: ¬j2=i)(o: ¬b=i)(p: ¬d=i)(q: ¬e=i)(r: ¬f=i):((((((((H.set i a).set j0 b0).set j1 b1).set j2 b2).set b g).set d h).set e j).set f k).set i c=((((((((H.set i c).set j0 b0).set j1 b1).set j2 b2).set b g).set d h).set e j).set f k):=by rw[I0 r,Yj l m n o p q]
theorem acO{i:Nat}:aA.nil.del i=aA.nil:=by funext k;simp only[aA.del,aA.nil];split<;>rfl
theorem Jz{H:aA}{i:Nat}:(H.set i a).del i=H.del i:=by funext k;simp only[aA.set,aA.del];split<;>rfl
theorem Of{H:aA}{i j:Nat}(h: ¬i=j):(H.set j a).del i=(H.del i).set j a:=by
 funext k;simp only[aA.set,aA.del];by_cases b:k=i;·subst b;simp[h]
 ·simp[b]
end
attribute [go_sem] Xw aaQ aaO Zp aa1 Yj ag3 acO Jz Of Nat.reduceLT abM abJ acB ac6 aaC Lx Mz Uq
def nth(s:List Nat)(i:Nat):Nat:=s[i]?.getD 0
section
variable{P:Program}{H:aA}{nx:Nat}{τ:Nat -> Nat}{H0:aA}
theorem aC.YD{f:FuncId}{args0 args:List D}{K:an4}{l0:List (Nat×bQ)}{R:an4}(s:List Nat)(h:aC P f args0 (hp l0) s.length R)(hlen:args.length=args0.length)
 (a:ac3 H (nth s) s.length args0 args) (c:OkO H (fun _=>False) (nth s) s.length l0) (d:(l0.map fun p=>nth s p.1).Nodup) (hs: ∀x∈s,x<nx) (e:s.Nodup)
 (g: ∀r H' b,s.length<=b->R r H' b->K (rnD (tau s.length nx (nth s)) r) (back (tau s.length nx (nth s)) H' b H) (nx+(b-s.length))):aC P f args H nx K:=
 aC.lift h (nth s) hlen (lY a) (YP c d) (fun i hi=>by rw[nth,akD hi];exact hs _ (amN hi))
   (fun i j hi k he=>by
    rw[nth,nth,akD hi,akD k,Option.getD_some,Option.getD_some] at he
    exact(List.getElem_inj e).1 he) g
theorem aC.agJ{f:FuncId}{args0 args:List D}{K:an4}{R:D->Prop}(h:aC P f args0 .nil 0 fun r _ n=>n=0/\r.imm=true/\R r)(hlen:args.length=args0.length)(a:ac3 H (nth []) 0 args0 args)(b: ∀r,R r->K r H nx):aC P f args H nx K:=by refine aC.YD (l0:=[]) [] h hlen a trivial (by simp) (by simp) (by simp) fun r H' g _ ⟨c,d,e⟩=> ?_;subst c;rw[Qw d];exact b r e
theorem P9{n m:Nat}{l:List Int}:bQ.rn τ ⟨n,m,l.map aG⟩=⟨n,m,l.map aG⟩:=by refine CS fun r hr x a=> ?_;obtain⟨y,_,rfl⟩:=akJ.1 hr;simp only[aG,akT] at a;subst a;rfl
theorem ab4{F:Nat->Prop}{σ:Nat->Nat}{nh:Nat}{xs ys:List D1}(h:CvL H F σ nh xs ys):CvV H F σ nh (.agg xs) (.agg ys):=h
theorem afR{F:Nat->Prop}{σ:Nat->Nat}{nh:Nat}{a b x y:DV}(d:CvV H F σ nh a x)(e:CvV H F σ nh b y):CvD H F σ nh (.tup [a,b]) (.tup [x,y]):=
 ⟨rfl,fun i u v hu c=>by
  match i with
  |0=>simp at hu c;subst hu;subst c;exact d
  |1=>simp at hu c;subst hu;subst c;exact e
  |i+2=>simp at hu⟩
theorem dp{i:Nat}:H.upd i none=H.del i:=rfl
end
section
variable{P:Program}{H:aA}{nx:Nat}
theorem Iv{F:Nat->Prop}{σ:Nat->Nat}{nh n m c:Nat}{R a rows:List (List D1)}{r' r:List D1}(e':a=R++[r'])(e:rows=R++[r])(f: ∀r∈R,∀x∈r,x.fV=true)(hm:c=m)(h:CvL H F σ nh r' r):CvO H F σ nh ⟨n,c,a⟩ ⟨n,m,rows⟩:=by
 subst e';subst e;subst hm;refine⟨rfl,rfl,by simp,fun _ h=>by simp at h,fun i d b=> ?_⟩;simp only[ak0] at b ⊢;by_cases hi:i<R.length;·rw[if_pos hi] at b ⊢;exact⟨d,b,TO fun x g=>f d (akF b) x g⟩
 ·rw[if_neg hi] at b ⊢;rw[List.getElem?_singleton] at b ⊢;split at b;·rename_i j;cases b;exact⟨r,if_pos j,h⟩
  ·cases b
variable{b ix:Nat}{live m s:List Nat}{L:List bB}{dst:Option Nat}{e:Env}{S:fG}{xs:List bC}{lk:Bool}
theorem Wx{K:Env->aA->Nat->Prop}{neg:Bool}:wv P b live K (⟨ix,dst,.xop (.yL neg) xs,none,m,s,lk⟩::L) e H nx S=xl P (b+ix) (msk b m H) nx (U8 P b live K L dst m s e H S) (.yL neg) (xs.map (·.ev e)):=Kx rfl
theorem Ze{K:Env->aA->Nat->Prop}{n:Nat}{z:List D1}:wv P b live K (⟨ix,dst,.xop (.clear n z) xs,none,m,s,lk⟩::L) e H nx S=xl P (b+ix) (msk b m H) nx (U8 P b live K L dst m s e H S) (.clear n z) (xs.map (·.ev e)):=Kx rfl
theorem Xv{K:Env->aA->Nat->Prop}{kn:Nat}{bl:Bool}:wv P b live K (⟨ix,dst,.xop (.PG kn bl) xs,none,m,s,lk⟩::L) e H nx S=xl P (b+ix) (msk b m H) nx (U8 P b live K L dst m s e H S) (.PG kn bl) (xs.map (·.ev e)):=Kx rfl
theorem Uc{K:Env->aA->Nat->Prop}:wv P b live K (⟨ix,dst,.xop .BL xs,none,m,s,lk⟩::L) e H nx S=xl P (b+ix) (msk b m H) nx (U8 P b live K L dst m s e H S) .BL (xs.map (·.ev e)):=Kx rfl
theorem Te{K:Env->aA->Nat->Prop}{kn:Nat}{bl ok:Bool}:wv P b live K (⟨ix,dst,.xop (.xW kn bl ok) xs,none,m,s,lk⟩::L) e H nx S=xl P (b+ix) (msk b m H) nx (U8 P b live K L dst m s e H S) (.xW kn bl ok) (xs.map (·.ev e)):=Kx rfl
theorem Rx{K:Env->aA->Nat->Prop}{kn:Nat}{bl:Bool}:wv P b live K (⟨ix,dst,.xop (.EV kn bl) xs,none,m,s,lk⟩::L) e H nx S=xl P (b+ix) (msk b m H) nx (U8 P b live K L dst m s e H S) (.EV kn bl) (xs.map (·.ev e)):=Kx rfl
theorem aa8{F:Nat->Prop}{σ:Nat->Nat}{nh n m d:Nat}{R a rows:List (List D1)}{r' r:List D1}{i:Nat}(e':a=R)(e:rows=R.set i r)(hi:R[i]?=some r')(k: ∀r∈R,∀x∈r,x.fV=true)(hm:d=m)(h:CvL H F σ nh r' r):CvO H F σ nh ⟨n,d,a⟩ ⟨n,m,rows⟩:=by
 subst e';subst e;subst hm;refine⟨rfl,rfl,by simp,fun _ h=>by dsimp only at h ⊢;rw[h];rfl,fun j f b=> ?_⟩;simp only[al5];by_cases g:i=j;·subst g;have c:i<a.length:=(akE.1 b).1;rw[if_pos rfl,if_pos c];rw[hi] at b;cases b;exact⟨r,rfl,h⟩
 ·rw[if_neg g];exact⟨f,b,TO fun x l=>k f (akF b) x l⟩
theorem ajS{α:Type}[Inhabited α]{enc:α->List D1}{l:List α}{k:Nat}(h:k<l.length):(l.map enc)[k]?=some (enc (l.getD k default)):=by simp[List.getD,h]
theorem ajI{c:Prop}[Decidable c]{A B:Prop}(a:c->A)(b: ¬c->B):if c then A else B:=by
 split;·exact a ‹_›
 ·exact b ‹_›
attribute [go_sem] Wx Ze Xv Uc Te Rx
end
theorem adK{H:aA}{F:Nat->Prop}{σ:Nat->Nat}{nh n m d:Nat}{a rows junk:List (List D1)}(hi: ∀r∈a,∀x∈r,x.fV=true)(h:rows=a++junk)(hm:d=m)(b:n≠0):CvO H F σ nh ⟨n,d,a⟩ ⟨n,m,rows⟩:=by subst h;subst hm;refine⟨rfl,rfl,by simp,fun e _=>absurd e b,fun i r c=> ?_⟩;refine⟨r,?_,TO fun x f=>hi r (akF c) x f⟩;rw[amE (akE.1 c).1];exact c
end Go.AM
namespace Go.AM
@[reducible,go_sem] def rq (t:Nat) (o:AOp) (i:Nat):bB:=⟨i,some t,o,none,[],[],false⟩
@[reducible,go_sem] def rn (o:AOp) (i:Nat):bB:=⟨i,none,o,none,[],[],false⟩
@[reducible,go_sem] def ki (n:Int):bC:=.kv (.int .i64 n)
@[reducible,go_sem] def RM (t a i:Nat):bB:=rq t (.move (.tm a)) i
@[reducible,go_sem] def RF (t k a i:Nat):bB:=rq t (.fld k (.tm a)) i
@[reducible,go_sem] def RL (t a i:Nat):bB:=rq t (.load 1 false (.tm a)) i
@[reducible,go_sem] def RK (t a i:Nat):bB:=rq t (.EU (.tm a)) i
@[reducible,go_sem] def GQ (t:Nat) (o:AOp) (g:Nat) (b:Bool) (i:Nat):bB:=⟨i,some t,o,some (g,b),[],[],false⟩
@[reducible,go_sem] def VZ:D1:=.v (.int .i64 0)
@[reducible,go_sem] def OZ:D1:=.osl 0 0 0 0 0
def aM(P:Program)(f:FuncId)(fn:Func)(ac:AC)(rs:List aR):Prop:=
 ∀{args:List D} {H:aA} {nx:Nat} {b:an4} (_hl:Nat.ble args.length fn.ntmps=true)
  (_h: ∀Q:AQ,(∀ex c H2 a d nh d2 e F σ,ex= .normal\/ex= .ret->AJ H2 c rs=some d->CvR nx d H2 nh d2 e F σ->b d2 e nh->Q ex c H2 a)->aH P fn.ntmps [ac] (Env.args 0 args) H nx Q),aC P f args H nx b
theorem aM.mk{P:Program}{f:FuncId}{fn:Func}{ac:AC}{rs:List aR}{cs:List Cert}
 (b:P.funcs[f]?=some fn) (a:xT P f=true) (hc:aK P fn cs=some (ac,rs)):aM P f fn ac rs:=
 fun hl h=>aC.body b a hc (anU hl) h
theorem dbT{p:Prop}[Decidable p](h:p):D1.v (.bool (decide p))= .v (.bool true):=by rw[decide_eq_true h]
theorem dbE{p q:Prop}[Decidable p][Decidable q](h:p↔q):D1.v (.bool (decide p))= .v (.bool (decide q)):=by rw[decide_eq_decide.2 h]
theorem diE{a b:Int}(h:a=b):D1.v (.int .i64 a)= .v (.int .i64 b):=by rw[h]
abbrev C0:=@agS
abbrev D0:=@agI
abbrev C1:=@eR
abbrev C2:=@aT
abbrev C3:=@iA
abbrev C4:=@aQ
abbrev C5:=@afR
abbrev C7:=@ab4
abbrev C9:=@sR
abbrev CJ:=@lM
abbrev CA:=@aD
abbrev CB:=@bZ
abbrev CC:=@ac7
abbrev CQ:=@uZ
abbrev CR:=@Hu
abbrev CF:=@L7
abbrev CG:=@aiW
abbrev CH:=@Gx
abbrev CI:=@Ns
abbrev Z1:=@aH.seq
abbrev Z7:=@ajI
abbrev Y2:=@aH.reg
abbrev Y4:=@afP
abbrev Y5:=@agU
abbrev Y6:=@ahV
abbrev Y7:=@ae0
abbrev Y8:=@aH.ret
abbrev Iw:=@IntWalk.i64_in
end Go.AM
namespace Go.AM
open Go.RowKit
inductive Tg(zs:List AC)(Q:AQ):Type where
 |mk
@[reducible] def Lo (P:Program) (T:Nat) (zs:List AC) (Q:AQ) (_:Tg zs Q):Env->aA->Nat->Prop:=fun e H nx=>aH P T zs e H nx Q
def vd(P:Program)(T:Nat)(x y:AC)(zs:List AC)(e:Env)(H:aA)(nx:Nat)(Q:AQ)(_:Tg (x::y::zs) Q)(d:D):Prop:=cK (aH P T (x::zs) e H nx Q) (aH P T (y::zs) e H nx Q) d
def vc(P:Program)(T:Nat):List AC->Env->aA->Nat->AQ->Prop
 | [],e,H,nx,Q=>Q .normal e H nx
 | .skip::zs,e,H,nx,Q=>aH P T zs e H nx Q
 | .region ops n live::zs,e,H,nx,Q=>wv P nx live (Lo P T zs Q .mk) ops e H (nx+n) []
 | .seq x y::zs,e,H,nx,Q=>aH P T (x::y::zs) e H nx Q
 | .cond c x y::zs,e,H,nx,Q=>vd P T x y zs e H nx Q .mk (c.ev e)
 | .block id x::zs,e,H,nx,Q=>aH P T [x] e H nx (AQ.blk id (Lo P T zs Q .mk) Q)
 | .loop x::zs,e,H,nx,Q=>aH P T (.loop x::zs) e H nx Q
 | .exit id::_,e,H,nx,Q=>Q (.exit id) e H nx
 | .ret::_,e,H,nx,Q=>Q .ret e H nx
section
variable{P:Program}{T:Nat}{live:List Nat}{ops:List bB}{n id:Nat}{c:bC}{e:Env}{H:aA}{nx:Nat}{Q:AQ}{x y:AC}{zs:List AC}{K:Env -> aA -> Nat -> Prop}
theorem kI(h:aH P T zs e H nx Q):Lo P T zs Q .mk e H nx:=h
theorem vI(h:vc P T zs e H nx Q):aH P T zs e H nx Q:=by
 cases zs with
 |nil=>exact h
 |cons x zs=>
  cases x with
  |skip=>exact aH.skip h
  |region ops n live=>exact AWP.region h
  |seq x y=>exact aH.seq h
  |cond c x y=>
   refine aH.ah4 fun A B f hB=> ?_;have h:cK (aH P T (x::zs) e H nx Q) (aH P T (y::zs) e H nx Q) (c.ev e):=h;unfold cK at h;unfold cK;split at h;·rename_i t g;exact⟨fun b=>f (h.1 b),fun b=>hB (h.2 b)⟩
   ·exact h.elim
  |block id x=>
   refine aH.block fun K d=>AWP.mono h fun ex e' H' nx' _ a=> ?_
   cases ex with
   |normal=>exact d _ _ _ a
   |exit i=>
    simp only[AQ.then,AQ.blk] at a ⊢;split;·rename_i hi;rw[if_pos hi] at a;exact d _ _ _ a
    ·rename_i hi;rw[if_neg hi] at a;exact a
   |ret=>exact a
  |loop x=>exact h
  |exit id=>exact aH.exit h
  |ret=>exact aH.ret h
theorem af4:vc P T [] e H nx Q=Q .normal e H nx:=rfl
theorem acD:vc P T (.skip::zs) e H nx Q=aH P T zs e H nx Q:=rfl
theorem agF:vc P T (.region ops n live::zs) e H nx Q=wv P nx live (Lo P T zs Q .mk) ops e H (nx+n) []:=rfl
theorem afG:vc P T (.seq x y::zs) e H nx Q=aH P T (x::y::zs) e H nx Q:=rfl
theorem aeG:vc P T (.cond c x y::zs) e H nx Q=vd P T x y zs e H nx Q .mk (c.ev e):=rfl
theorem Xj:vc P T (.block id x::zs) e H nx Q=aH P T [x] e H nx (AQ.blk id (Lo P T zs Q .mk) Q):=rfl
theorem abZ:vc P T (.exit id::zs) e H nx Q=Q (.exit id) e H nx:=rfl
theorem agP:vc P T (.ret::zs) e H nx Q=Q .ret e H nx:=rfl
theorem ajX{g:Tg (x::y::zs) Q}:vd P T x y zs e H nx Q g (.one (.c (.v (.bool true))))=aH P T (x::zs) e H nx Q:=agG
theorem ajU{g:Tg (x::y::zs) Q}:vd P T x y zs e H nx Q g (.one (.c (.v (.bool false))))=aH P T (y::zs) e H nx Q:=ag1
theorem aiC{g:Tg (x::y::zs) Q}{p:Prop}[Decidable p](h:p):vd P T x y zs e H nx Q g (.one (.c (.v (.bool (decide p)))))=aH P T (x::zs) e H nx Q:=by rw[decide_eq_true h];exact agG
theorem ahZ{g:Tg (x::y::zs) Q}{p:Prop}[Decidable p](h: ¬p):vd P T x y zs e H nx Q g (.one (.c (.v (.bool (decide p)))))=aH P T (y::zs) e H nx Q:=by rw[decide_eq_false h];exact ag1
theorem iB{g:Tg (x::y::zs) Q}{p:Prop}[Decidable p](a:p->aH P T (x::zs) e H nx Q)(b: ¬p->aH P T (y::zs) e H nx Q):vd P T x y zs e H nx Q g (.one (.c (.v (.bool (decide p))))):=ajP a b
theorem L0{g:Tg (x::y::zs) Q}{t:Bool}(a:t=true->aH P T (x::zs) e H nx Q)(b:t=false->aH P T (y::zs) e H nx Q):vd P T x y zs e H nx Q g (.one (.c (.v (.bool t)))):=ajH a b
theorem afJ:AQ.then K Q .normal=K:=rfl
theorem af2:AQ.then K Q .ret=Q .ret:=rfl
theorem af0:AQ.then K Q (.exit id)=Q (.exit id):=rfl
theorem ai2{i:Nat}:AQ.blk i K Q .normal=K:=rfl
theorem aiV{i:Nat}:AQ.blk i K Q .ret=Q .ret:=rfl
theorem ah5{i j:Nat}(h: ¬j=i):AQ.blk i K Q (.exit j)=Q (.exit j):=by simp[AQ.blk,h]
attribute [go_sem] ajX ajU afJ af2 af0 ai2 aiV
attribute [go_sem ↓] af4 acD agF afG aeG Xj abZ agP
end
def ajY(o:bB):Nat×List Nat×List Nat×Bool:=(o.ix,o.mask,o.Ur,o.look)
def aV:AC->List Cert
 | .region ops _ live=>[⟨ops.map ajY,live⟩]
 | .seq x y=>aV x++aV y
 | .cond _ x y=>aV x++aV y
 | .block _ x=>aV x
 | .loop x=>aV x
 |_=>[]
instance {n:Nat}:OfNat bC n:=⟨.tm n⟩
theorem agA{n:Nat}:(OfNat.ofNat n:bC)= .tm n:=rfl
attribute [go_sem] agA
section
variable{P:Program}{T:Nat}{e:Env}{H:aA}{nx:Nat}{Q:AQ}{x y:AC}{zs:List AC}{K:Env -> aA -> Nat -> Prop}
theorem vT{g:Tg (x::y::zs) Q}{p:Prop}[Decidable p](h:p)(a:aH P T (x::zs) e H nx Q):vd P T x y zs e H nx Q g (.one (.c (.v (.bool (decide p))))):=by rw[aiC h];exact a
theorem vF{g:Tg (x::y::zs) Q}{p:Prop}[Decidable p](h: ¬p)(a:aH P T (y::zs) e H nx Q):vd P T x y zs e H nx Q g (.one (.c (.v (.bool (decide p))))):=by rw[ahZ h];exact a
theorem bX{i j:Nat}(h:Nat.beq j i=false)(a:Q (.exit j) e H nx):AQ.blk i K Q (.exit j) e H nx:=by rw[ah5 (fun he=>by rw[he] at h;simp at h)];exact a
end
section
variable {H : aA} {F : Nat -> Prop} {σ : Nat -> Nat} {nh t : Nat} {e : Env} {l : List (Nat × D)}
theorem xqI{d:D}(a:d.imm=true)(he:e t=d)(h:CvE H F σ nh (en l) e):CvE H F σ nh (en ((t,d)::l)) e:=aT h (by rw[he];exact aD a)
theorem xqP{n a id row b:Nat}(hl:a<nh)(hs:σ a=id)(he:e t= .one (.c (.ptr n id row b)))(h:CvE H F σ nh (en l) e):CvE H F σ nh (en ((t,.one (.c (.ptr n a row b)))::l)) e:=aT h (by rw[he];exact lM (adM hl hs))
theorem xqO{n b id off len a cap:Nat}(hl:b<nh)(hs:σ b=id)(he:e t= .one (.c (.osl n id off len cap)))(d:a=len)(h:CvE H F σ nh (en l) e):CvE H F σ nh (en ((t,.one (.c (.osl n b off a cap)))::l)) e:=aT h (by rw[he];exact lM (uZ hl hs rfl d rfl))
theorem xqV{a b:Int}(he:e t= .one (.c (.v (.int .i64 b))))(d:a=b)(h:CvE H F σ nh (en l) e):CvE H F σ nh (en ((t,.one (.c (.v (.int .i64 a))))::l)) e:=aT h (by rw[he,d];exact aD rfl)
end
def vcR(P:Program)(T:Nat):List AC->Env->aA->Nat->AQ->Prop
 | .seq (.region ops n live) y::zs,e,H,nx,Q=>wv P nx live (Lo P T (y::zs) Q .mk) ops e H (nx+n) []
 |zs,e,H,nx,Q=>vc P T zs e H nx Q
section
variable{P:Program}{T:Nat}{live:List Nat}{ops:List bB}{n id:Nat}{c:bC}{e:Env}{H:aA}{nx:Nat}{Q:AQ}{x y:AC}{zs:List AC}
theorem afI:vcR P T (.seq (.region ops n live) y::zs) e H nx Q=wv P nx live (Lo P T (y::zs) Q .mk) ops e H (nx+n) []:=rfl
theorem acA:vcR P T [] e H nx Q=vc P T [] e H nx Q:=rfl
theorem Zr:vcR P T (.skip::zs) e H nx Q=vc P T (.skip::zs) e H nx Q:=rfl
theorem aeA:vcR P T (.region ops n live::zs) e H nx Q=vc P T (.region ops n live::zs) e H nx Q:=rfl
theorem Ww:vcR P T (.cond c x y::zs) e H nx Q=vc P T (.cond c x y::zs) e H nx Q:=rfl
theorem Rt:vcR P T (.block id x::zs) e H nx Q=vc P T (.block id x::zs) e H nx Q:=rfl
theorem aaM:vcR P T (.exit id::zs) e H nx Q=vc P T (.exit id::zs) e H nx Q:=rfl
theorem acG:vcR P T (.ret::zs) e H nx Q=vc P T (.ret::zs) e H nx Q:=rfl
attribute [go_sem ↓] afI acA Zr aeA Ww Rt aaM acG
end
theorem nL:(∀a b c:Nat,a+b+c=a+(b+c))/\(∀{a b:Nat},a=a+b↔b=0)/\ ∀{a b:Nat},a+b=a↔b=0:=⟨akB,akC,al0⟩
@[reducible,go_sem] def kF:bC:=.kv (.bool false)
@[reducible,go_sem] def kT:bC:=.kv (.bool true)
@[reducible,go_sem] def RX (t:Nat) (o:AOp) (m s:List Nat) (k:Bool) (i:Nat):bB:=⟨i,some t,o,none,m,s,k⟩
@[reducible,go_sem] def RY (t:Option Nat) (o:AOp) (g:Option (Nat×Bool)) (m s:List Nat) (k:Bool) (i:Nat):bB:=⟨i,t,o,g,m,s,k⟩
@[reducible,go_sem] def RB (t:Nat) (b:BinOp) (x y:bC) (i:Nat):bB:=rq t (.bin b x y) i
@[reducible,go_sem] def RV (t:Nat) (x:bC) (i:Nat):bB:=rq t (.move x) i
@[reducible,go_sem] def RI (t n:Nat) (x y:bC) (i:Nat):bB:=rq t (.idx n x y) i
@[reducible,go_sem] def RN (t:Nat) (x:bC) (i:Nat):bB:=rq t (.len false x) i
@[reducible,go_sem] def RP (t:Nat) (c x y:bC) (i:Nat):bB:=rq t (.pick c x y) i
@[reducible,go_sem] def RU (t:Nat) (x:bC) (i:Nat):bB:=rq t (.un .not x) i
@[reducible,go_sem] def RO (t:Nat) (x:bC) (i:Nat):bB:=rq t (.box true x) i
@[reducible,go_sem] def RC (t:Nat) (f:FuncId) (l:List bC) (i:Nat):bB:=rq t (.call f l) i
@[reducible,go_sem] def RA (t:Nat) (l:List D1) (i:Nat):bB:=rq t (.alloc l) i
@[reducible,go_sem] def RD (t n:Nat) (x:bC) (i:Nat):bB:=rq t (.load n true x) i
@[reducible,go_sem] def WS (n:Nat) (b:Bool) (x y:bC) (i:Nat):bB:=rn (.store n b x y) i
@[reducible,go_sem] def RW (t:Nat) (x:bC) (m s:List Nat) (k:Bool) (i:Nat):bB:=RX t (.load 1 false x) m s k i
@[reducible,go_sem] def GF (t k:Nat) (x:bC) (g:Nat) (b:Bool) (i:Nat):bB:=GQ t (.fld k x) g b i
@[reducible,go_sem] def GL (t:Nat) (x:bC) (g:Nat) (b:Bool) (i:Nat):bB:=GQ t (.load 1 false x) g b i
@[reducible,go_sem] def GM (t:Nat) (x:bC) (g:Nat) (b:Bool) (i:Nat):bB:=GQ t (.move x) g b i
@[reducible,go_sem] def GB (t:Nat) (o:BinOp) (x y:bC) (g:Nat) (b:Bool) (i:Nat):bB:=GQ t (.bin o x y) g b i
@[reducible,go_sem] def GU (t:Nat) (x:bC) (g:Nat) (b:Bool) (i:Nat):bB:=GQ t (.un .not x) g b i
@[reducible,go_sem] def GI (t n:Nat) (x y:bC) (g:Nat) (b:Bool) (i:Nat):bB:=GQ t (.idx n x y) g b i
def nb:Nat->List (Nat->bB)->List bB
 |_,[]=>[]
 |i,f::l=>f i::nb (i+1) l
def ln:List (Nat->bB)->Nat
 | []=>0
 |_::l=>ln l+1
theorem ag5{i:Nat}:nb i []=[]:=rfl
theorem ab0{i:Nat}{f:Nat->bB}{l:List (Nat->bB)}:nb i (f::l)=f i::nb (i+1) l:=rfl
theorem afK:ln []=0:=rfl
theorem adZ{f:Nat->bB}{l:List (Nat->bB)}:ln (f::l)=ln l+1:=rfl
attribute [go_sem] ag5 ab0 afK adZ
@[reducible] def RG (ops:List (Nat->bB)) (live:List Nat):AC:=.region (nb 0 ops) (ln ops) live
@[reducible] def SR (ops:List (Nat->bB)) (live:List Nat) (y:AC):AC:=.seq (RG ops live) y
end Go.AM
namespace Go.Proofs.YtlncecohbakleaaGreat
open Go Go.AM
def Ca:Nat:=7
def Ga:Nat:=10
def O4:Nat:=13
def PK:Nat:=14
def FD:Nat:=16
def EL:Nat:=17
def E7:Nat:=20
def EY:Nat:=21
def J7:Nat:=22
def JK:Nat:=23
def abS:Nat:=27
def qh:Nat:=28
def abR:Nat:=30
def Wa:Nat:=32
def Tp:Nat:=34
def Ty:Nat:=47
def de:Nat:=48
def ae8:Nat:=49
def LA:Nat:=51
def JS:Nat:=53
def HW:Nat:=54
def zB:Nat:=55
def z7:Nat:=56
def oF:Nat:=57
def zM:Nat:=58
def rC:Nat:=59
def FT:Nat:=60
def M3:Nat:=61
def DN:Nat:=62
def rO:Nat:=63
def wO:Nat:=70
def i6:Nat:=71
def yU:Nat:=72
def F9:Nat:=73
def aeK:Nat:=74
def SD:Nat:=77
def wJ:Nat:=78
def jA:Nat:=79
def y7:Nat:=80
def SV:Nat:=81
def iY:Nat:=83
def w9:Nat:=84
def z9:Nat:=85
def rM:Nat:=86
def gH:Nat:=87
def uD:Nat:=88
def gP:Nat:=89
def gX:Nat:=96
def mC:Nat:=97
def eQ:Nat:=98
def VJ:Nat:=103
def FZ:Nat:=104
def GV:Nat:=105
def ll:Nat:=106
def xw:Nat:=107
def dR:Nat:=112
def pD:Nat:=114
def LI:Nat:=120
def K5:Nat:=121
def HK:Nat:=122
def KS:Nat:=123
def OC:Nat:=124
def IT:Nat:=125
def GS:Nat:=126
def KH:Nat:=127
def ID:Nat:=128
def NR:Nat:=129
def LJ:Nat:=130
def kG:Nat:=132
def cW:Nat:=135
def b9:Nat:=136
def yV:Nat:=137
def yM:Nat:=138
def w8:Nat:=139
def sI:Nat:=140
def rE:Nat:=141
def zI:Nat:=142
def zO:Nat:=143
def wU:Nat:=144
def sV:Nat:=145
def rK:Nat:=146
def zT:Nat:=147
def yF:Nat:=148
def zG:Nat:=149
def wV:Nat:=150
def sT:Nat:=151
def rQ:Nat:=152
def t8:Nat:=153
def tZ:Nat:=154
def rA:Nat:=155
def oY:Nat:=156
def BY:Nat:=163
def GJ:Nat:=164
def KT:Nat:=165
def vE:Nat:=167
def yG:Nat:=169
def BC:Nat:=170
def eE:Nat:=171
def WB:Nat:=172
def GK:Nat:=173
def zQ:Nat:=174
def BZ:Nat:=175
def wY:Nat:=176
def hZ:Nat:=181
def iK:Nat:=182
def gZ:Nat:=183
def iG:Nat:=184
def gO:Nat:=185
def gB:Nat:=186
def rT:Nat:=187
def rR:Nat:=188
def uB:Nat:=189
def tT:Nat:=190
def mO:Nat:=192
def fY:Nat:=193
def OK:Nat:=194
def GA:Nat:=195
def mI:Nat:=196
def lI:Nat:=197
def uF:Nat:=198
def YQ:Nat:=199
def cC:Nat:=201
def bW:Nat:=203
def KV:Nat:=208
def JV:Nat:=209
def KQ:Nat:=210
def OD:Nat:=211
def yK:Nat:=212
def rV:Nat:=213
def pR:Nat:=214
def KZ:Nat:=215
def xD:Nat:=216
def pG:Nat:=217
def K1:Nat:=218
def wZ:Nat:=224
def jD:Nat:=225
def NQ:Nat:=226
def qU:Nat:=227
def EG:Nat:=228
def BI:Nat:=229
def zA:Nat:=230
def E2:Nat:=231
def E5:Nat:=232
def BA:Nat:=233
def yZ:Nat:=234
def EI:Nat:=235
def FE:Nat:=236
def BK:Nat:=237
def xZ:Nat:=238
def EH:Nat:=239
def zS:Nat:=240
def o7:Nat:=241
def E8:Nat:=246
def GO:Nat:=247
def zR:Nat:=249
def vR:Nat:=250
def EM:Nat:=251
def fB:Nat:=252
def y9:Nat:=253
def EJ:Nat:=254
def fK:Nat:=256
def fD:Nat:=257
def eW:Nat:=258
def eL:Nat:=259
def i9:Nat:=260
def kE:Nat:=261
def jS:Nat:=262
def gD:Nat:=263
def fQ:Nat:=264
def oN:Nat:=265
def fH:Nat:=266
def fO:Nat:=267
def t0:Nat:=268
def uS:Nat:=269
def N8:Nat:=270
def N0:Nat:=271
def IN:Nat:=272
def cX:Nat:=273
def HQ:Nat:=274
def dN:Nat:=275
def B0:Nat:=276
def NY:Nat:=277
def OF:Nat:=278
def IY:Nat:=279
def iU:Nat:=280
def lU:Nat:=281
def cP:Nat:=282
def zZ:Nat:=283
def CX:Nat:=284
def oU:Nat:=285
def gU:Nat:=286
def vX:Nat:=288
def zE:Nat:=289
def AD:Nat:=290
def uQ:Nat:=291
def vN:Nat:=292
def jJ:Nat:=299
def kB:Nat:=300
def WO:Nat:=301
def kY:Nat:=302
def dL:Nat:=303
def mT:Nat:=304
def vV:Nat:=305
def sY:Nat:=306
def EZ:Nat:=307
def sG:Nat:=308
def EK:Nat:=309
def sL:Nat:=310
def EW:Nat:=311
def GN:Nat:=314
def B2:Nat:=315
def IK:Nat:=316
def gG:Nat:=317
def fT:Nat:=318
def cQ:Nat:=319
def HN:Nat:=320
def dM:Nat:=321
def pW:Nat:=322
def cN:Nat:=323
def I8:Nat:=324
def dV:Nat:=325
def eI:Nat:=326
def pP:Nat:=327
def II:Nat:=328
def KX:Nat:=329
def EO:Nat:=332
def nR:Nat:=333
def FB:Nat:=335
def ET:Nat:=336
def cF:Nat:=337
def BH:Nat:=338
def yR:Nat:=339
def K4:Nat:=340
def DG:AC:= (SR [RO 3 1,RV 4 (ki 0)] [0,3] (SR [rq 5 (.move (.kv (.int .i64 (-1))))] [0,3,5] (.seq (SR [RD 9 7 3,RC 10 kB [9],RN 11 10,RV 12 (ki 0)] [0,5,10,11,12] (.block 0 (.loop (SR [RB 13 .lss 12 11] [0,5,10,11,12,13] (.seq (.cond 13 .skip (.exit 0)) (.seq (.block 1 (SR [RM 14 12,RI 15 1 10 12,RL 16 15,RM 6 14,RM 7 16] [0,5,6,7,10,11,12] (SR [RM 17 0,RM 18 7,RC 19 IK [17,18],RM 8 19] [0,5,6,8,10,11,12] (.seq (SR [RM 20 8,RB 21 .lss 20 (ki 0),RM 22 21,GM 23 6 22 false,GB 24 .gtr 23 (ki 0) 22 false,GM 25 24 22 false,GM 26 8 25 true,GM 27 5 25 true,GB 28 .neq 26 27 25 true,GQ 29 (.pick 25 28 kF) 22 false,RP 30 22 kT 29] [0,8,10,11,12,30] (.cond 30 (SR [rq 4 (.move (.kv (.int .i64 (-1))))] [4] .ret) .skip)) (RG [RM 31 8,RM 5 31] [0,5,10,11,12]))))) (RG [RB 32 .add 12 (ki 1),RM 12 32] [0,5,10,11,12]))))))) (SR [RM 33 5,RM 4 33] [4] .ret))))
def V5:List aR:=[.tm 4]
theorem Bf:aK an2 Tryz.f253 (aV DG)=some (DG,V5):=by kernel_rfl
def iJ:AC:= (SR [RV 2 (.kv (.slice none 0 0))] [0] (SR [RM 3 0,RC 4 fT [3],RC 5 gG [4],RM 2 5] [2] .ret))
def tQ:List aR:=[.tm 2]
theorem JJ:aK an2 Tryz.f260 (aV iJ)=some (iJ,tQ):=by kernel_rfl
def jX:AC:= (SR [RV 2 (.kv (.slice none 0 0))] [0] (SR [RM 3 0,RM 4 0,RN 5 4,RM 6 0,RN 7 6,rq 8 (.slc 1 3 none (some 5) (some 7)),RM 2 8] [2] .ret))
def xC:List aR:=[.tm 2]
theorem MM:aK an2 Tryz.f261 (aV jX)=some (jX,xC):=by kernel_rfl
def jB:AC:= (SR [RV 2 (.kv (.slice none 0 0))] [0] (.seq (SR [RM 3 0,rq 4 (.xop (.yL false) [3])] [0,4] (.cond 4 (SR [RV 2 (.kv (.slice none 0 0))] [2] .ret) .skip)) (SR [rq 5 (.bY 1 0 [VZ] []),RM 6 0,rq 7 (.append 1 5 6),RM 2 7] [2] .ret)))
def uR:List aR:=[.tm 2]
theorem LD:aK an2 Tryz.f262 (aV jB)=some (jB,uR):=by kernel_rfl
def nW:AC:= (SR [RO 1 0,RA 2 [OZ]] [1,2] (SR [rq 3 (.bY 1 0 [VZ] []),RF 4 0 1,RL 5 4,rq 6 (.append 1 3 5),rq 7 (.build [OZ] [(0,1,6)]),WS 1 true 2 7] [2] .ret))
def H6:List aR:=[.cell 2 1 true]
theorem RR:aK an2 Tryz.f269 (aV nW)=some (nW,H6):=by kernel_rfl
def CV:AC:= (SR [RO 1 0,RA 2 [VZ,VZ,OZ]] [1,2] (SR [RF 3 0 1,RW 4 3 [4] [] true,RF 5 1 1,RW 6 5 [4] [] true,rq 7 (.bY 1 0 [VZ] []),RF 8 2 1,RW 9 8 [4] [] false,RX 10 (.append 1 7 9) [] [1,3] false,rq 11 (.build [VZ,VZ,OZ] [(0,1,4),(1,1,6),(2,1,10)]),WS 3 true 2 11] [2] .ret))
def VC:List aR:=[.cell 2 3 true]
theorem At:aK an2 Tryz.f270 (aV CV)=some (CV,VC):=by kernel_rfl
def CM:AC:= (SR [RV 2 kF] [0] (.seq (SR [RM 5 0,RN 6 5,RV 7 (ki 0)] [0,5,6,7] (.block 0 (.loop (SR [RB 8 .lss 7 6] [0,5,6,7,8] (.seq (.cond 8 .skip (.exit 0)) (.seq (.block 1 (SR [RM 9 7,RI 10 4 5 7,RD 11 4 10,RA 4 [VZ,VZ,VZ,(.v (.bool false))],RM 3 9,WS 4 true 4 11] [0,3,4,5,6,7] (SR [RF 12 0 4,RL 13 12,RC 14 dR [13,(ki 0),(ki 63)],RU 15 14,RM 16 15,GF 17 1 4 16 false,GL 18 17 16 false,GF 19 0 4 16 false,GL 20 19 16 false,GQ 21 (.call dR [18,20,(ki 63)]) 16 false,GU 22 21 16 false,RP 23 16 kT 22,RM 24 23,GF 25 2 4 24 false,GL 26 25 24 false,GQ 27 (.call dR [26,(ki 0),(ki 2)]) 24 false,GU 28 27 24 false,RP 29 24 kT 28,RM 30 29,GM 31 0 30 false,GM 32 3 30 false,GQ 33 (.slc 4 31 none (some 32) none) 30 false,GQ 34 (.xop (.JQ I8) [4]) 30 false,GQ 35 (.call cN [33,34]) 30 false,RP 36 30 kT 35] [0,5,6,7,36] (.cond 36 (SR [RV 2 kF] [2] .ret) .skip)))) (RG [RB 37 .add 7 (ki 1),RM 7 37] [0,5,6,7]))))))) (SR [RM 38 0,RN 39 38,RB 40 .leq 39 (ki 4),RM 2 40] [2] .ret)))
def VQ:List aR:=[.tm 2]
theorem zf:aK an2 Tryz.f271 (aV CM)=some (CM,VQ):=by kernel_rfl
def u9:AC:= (SR [RV 2 kF] [0] (SR [RM 3 0,RC 4 dR [3,(ki 0),(ki 3)],RU 5 4,RM 2 5] [2] .ret))
def OQ:List aR:=[.tm 2]
theorem nk:aK an2 Tryz.f272 (aV u9)=some (u9,OQ):=by kernel_rfl
def cT:AC:= (SR [RV 4 kF] [0,1] (SR [RM 5 0,RM 6 1,RC 7 dV [5,6],RB 8 .geq 7 (ki 0),RM 4 8] [4] .ret))
def iV:List aR:=[.tm 4]
theorem q9:aK an2 Tryz.f273 (aV cT)=some (cT,iV):=by kernel_rfl
def wE:AC:= (SR [RV 2 kF] [0] (SR [RM 3 0,RN 4 3,RB 5 .gtr 4 (ki 12),RM 6 5,GM 7 0 6 false,GQ 8 (.call dN [7,(.fn B0)]) 6 false,RP 9 6 kT 8,RM 2 9] [2] .ret))
def O0:List aR:=[.tm 2]
theorem nv:aK an2 Tryz.f274 (aV wE)=some (wE,O0):=by kernel_rfl
def dC:AC:= (SR [RV 4 kF] [0,1] (SR [RM 5 0,RM 6 1,RC 7 eI [5,6],RB 8 .geq 7 (ki 0),RM 4 8] [4] .ret))
def jQ:List aR:=[.tm 4]
theorem sC:aK an2 Tryz.f275 (aV dC)=some (dC,jQ):=by kernel_rfl
def qN:AC:= (SR [RO 1 0,RV 2 kF] [1] (SR [RD 3 7 1,RC 4 NY [3],RU 5 4,RM 2 5] [2] .ret))
def JL:List aR:=[.tm 2]
theorem bw:aK an2 Tryz.f276 (aV qN)=some (qN,JL):=by kernel_rfl
def CY:AC:= (SR [RO 1 0,RV 2 kF] [1] (SR [RV 3 (ki 0)] [1,3] (.seq (SR [RD 4 7 1,RC 5 jJ [4]] [1,3,5] (.cond 5 (RG [RF 6 3 1,RL 7 6,RM 3 7] [1,3]) .skip)) (SR [RF 8 0 1,RL 9 8,RC 10 dR [9,(ki 0),(ki 1)],RM 11 10,GF 12 1 1 11 true,GL 13 12 11 true,GQ 14 (.call dR [13,(ki 1),(ki 4)]) 11 true,RP 15 11 14 kF,RM 16 15,GF 17 2 1 16 true,GL 18 17 16 true,GF 19 3 1 16 true,GL 20 19 16 true,GF 21 4 1 16 true,GL 22 21 16 true,GQ 23 (.call FZ [18,20,22]) 16 true,RP 24 16 23 kF,RM 25 24,GF 26 5 1 25 true,GL 27 26 25 true,GQ 28 (.len false 27) 25 true,GM 29 3 25 true,GB 30 .eql 28 29 25 true,RP 31 25 30 kF,RM 32 31,GF 33 6 1 32 true,GL 34 33 32 true,GQ 35 (.len false 34) 32 true,GM 36 3 32 true,GB 37 .eql 35 36 32 true,RP 38 32 37 kF,RM 39 38,GF 40 5 1 39 true,GL 41 40 39 true,GQ 42 (.call pP [41]) 39 true,RP 43 39 42 kF,RM 44 43,GF 45 6 1 44 true,GL 46 45 44 true,GQ 47 (.call cC [46,(.fn II)]) 44 true,GU 48 47 44 true,RP 49 44 48 kF,RM 50 49,GF 51 1 1 50 true,GL 52 51 50 true,GB 53 .eql 52 (ki 1) 50 true,GM 54 53 50 true,GF 55 1 1 54 false,GL 56 55 54 false,GB 57 .eql 56 (ki 2) 54 false,GQ 58 (.pick 54 kT 57) 50 true,GM 59 58 50 true,GF 60 3 1 59 false,GL 61 60 59 false,GB 62 .eql 61 (ki 1) 59 false,GQ 63 (.pick 59 kT 62) 50 true,RP 64 50 63 kF,RM 2 64] [2] .ret))))
def VN:List aR:=[.tm 2]
theorem Bl:aK an2 Tryz.f277 (aV CY)=some (CY,VN):=by kernel_rfl
def CZ:AC:= (SR [RO 1 0,RV 2 kF] [1] (SR [RF 3 0 1,RL 4 3,RN 5 4,RB 6 .eql 5 (ki 64),RM 7 6,GF 8 0 1 7 true,GL 9 8 7 true,GQ 10 (.call pP [9]) 7 true,RP 11 7 10 kF,RM 2 11] [2] .ret))
def VA:List aR:=[.tm 2]
theorem Aa:aK an2 Tryz.f278 (aV CZ)=some (CZ,VA):=by kernel_rfl
def vJ:AC:= (SR [RV 2 kF] [0] (SR [RM 3 0,RC 4 dR [3,(.kv (.int .i64 (-1))),(ki 63)],RU 5 4,RM 2 5] [2] .ret))
def OX:List aR:=[.tm 2]
theorem py:aK an2 Tryz.f279 (aV vJ)=some (vJ,OX):=by kernel_rfl
def qP:AC:= (SR [RO 3 0,RV 6 (ki 0)] [1,2,3] (SR [RF 7 2 3,RL 8 7,RM 9 1,RI 10 1 8 9,RL 11 10,RM 12 2,RI 13 7 11 12,RF 14 0 13,RL 15 14,RM 6 15] [6] .ret))
def J4:List aR:=[.tm 6]
theorem cj:aK an2 Tryz.f280 (aV qP)=some (qP,J4):=by kernel_rfl
def sJ:AC:= (SR [RV 2 kF] [0] (SR [RM 3 0,RC 4 dR [3,(ki 0),(ki 2)],RM 2 4] [2] .ret))
def LM:List aR:=[.tm 2]
theorem ij:aK an2 Tryz.f281 (aV sJ)=some (sJ,LM):=by kernel_rfl
def B5:AC:= (SR [RO 1 0,RV 2 kF] [1] (SR [RF 3 0 1,RL 4 3,RC 5 dR [4,(ki 0),(ki 1)],RM 6 5,GF 7 1 1 6 true,GL 8 7 6 true,GQ 9 (.call dR [8,(ki 1),(ki 4)]) 6 true,RP 10 6 9 kF,RM 11 10,GF 12 2 1 11 true,GL 13 12 11 true,GQ 14 (.len false 13) 11 true,GB 15 .leq 14 (ki 4) 11 true,RP 16 11 15 kF,RM 17 16,GF 18 2 1 17 true,GL 19 18 17 true,GQ 20 (.call pP [19]) 17 true,RP 21 17 20 kF,RM 2 21] [2] .ret))
def V1:List aR:=[.tm 2]
theorem Ba:aK an2 Tryz.f283 (aV B5)=some (B5,V1):=by kernel_rfl
def yD:AC:= (SR [RV 2 kF] [0] (.seq (SR [RV 3 (ki 1)] [0,3] (.block 0 (.loop (.seq (SR [RM 4 3,RM 5 0,RN 6 5,RB 7 .lss 4 6] [0,3,7] (.cond 7 .skip (.exit 0))) (.seq (.block 1 (SR [RM 10 0,RM 11 3,RB 12 .sub 11 (ki 1),RI 13 5 10 12,RD 14 5 13,RM 15 0,RM 16 3,RI 17 5 15 16,RD 18 5 17,RC 19 b9 [14,18],RB 20 .geq 19 (ki 0)] [0,3,20] (.cond 20 (SR [RV 2 kF] [2] .ret) .skip))) (RG [RM 8 3,RB 9 .add 8 (ki 1),RM 3 9] [0,3])))))) (SR [RV 2 kT] [2] .ret)))
def SI:List aR:=[.tm 2]
theorem xp:aK an2 Tryz.f284 (aV yD)=some (yD,SI):=by kernel_rfl
def nC:AC:= (SR [RO 1 0,RV 2 kF] [1] (SR [RF 3 0 1,RL 4 3,RB 5 .eql 4 (ki 0),RM 6 5,GF 7 1 1 6 true,GL 8 7 6 true,GB 9 .eql 8 (ki 0) 6 true,RP 10 6 9 kF,RM 11 10,GF 12 2 1 11 true,GL 13 12 11 true,GQ 14 (.len false 13) 11 true,GB 15 .eql 14 (ki 0) 11 true,RP 16 11 15 kF,RM 2 16] [2] .ret))
def FQ:List aR:=[.tm 2]
theorem T2:aK an2 Tryz.f285 (aV nC)=some (nC,FQ):=by kernel_rfl
def gE:AC:= (SR [RV 4 (ki 0)] [0,1] (.seq (SR [RM 6 0,RN 7 6,RV 8 (ki 0)] [0,1,7,8] (.block 0 (.loop (SR [RB 9 .lss 8 7] [0,1,7,8,9] (.seq (.cond 9 .skip (.exit 0)) (.seq (.block 1 (SR [RM 10 8,RM 5 10] [0,1,5,7,8] (SR [RM 11 1,RM 12 0,RM 13 5,RI 14 1 12 13,RL 15 14,rq 16 (.D4 11 [15])] [0,1,5,7,8,16] (.cond 16 (SR [RM 17 5,RM 4 17] [4] .ret) .skip)))) (RG [RB 18 .add 8 (ki 1),RM 8 18] [0,1,7,8]))))))) (SR [rq 4 (.move (.kv (.int .i64 (-1))))] [4] .ret)))
def pJ:List aR:=[.tm 4]
theorem FA:aK an2 Tryz.f286 (aV gE)=some (gE,pJ):=by kernel_rfl
def r9:AC:= (SR [RO 1 0,RV 2 kF] [1] (SR [RF 3 1 1,RL 4 3,RB 5 .eql 4 (ki 2),RM 6 5,GF 7 1 1 6 false,GL 8 7 6 false,GB 9 .eql 8 (ki 4) 6 false,RP 10 6 kT 9,RM 2 10] [2] .ret))
def NK:List aR:=[.tm 2]
theorem ey:aK an2 Tryz.f288 (aV r9)=some (r9,NK):=by kernel_rfl
def CN:AC:= (SR [RO 2 0,RV 4 (.kv (.slice none 0 0))] [1,2] (SR [rq 7 (.bY 1 0 [VZ] []),RM 5 7] [1,2,5] (.seq (SR [RV 6 (ki 0)] [1,2,5,6] (.block 0 (.loop (.seq (SR [RM 8 6,RM 9 1,RN 10 9,RB 11 .lss 8 10] [1,2,5,6,11] (.cond 11 .skip (.exit 0))) (.seq (.block 1 (RG [RM 14 5,RF 15 0 2,RL 16 15,RM 17 1,RM 18 6,RI 19 1 17 18,RL 20 19,RI 21 1 16 20,RL 22 21,rq 23 (.bY 1 1 [VZ] [(0,1,22)]),rq 24 (.append 1 14 23),RM 5 24] [1,2,5,6])) (RG [RM 12 6,RB 13 .add 12 (ki 1),RM 6 13] [1,2,5,6])))))) (SR [RM 25 5,RM 4 25] [4] .ret))))
def V7:List aR:=[.tm 4]
theorem zi:aK an2 Tryz.f289 (aV CN)=some (CN,V7):=by kernel_rfl
def CU:AC:= (SR [RO 4 0,RA 8 [OZ]] [1,2,3,4,8] (.seq (SR [RV 9 (ki 0)] [1,2,3,4,8,9] (.block 0 (.loop (.seq (SR [RM 10 9,RM 11 1,RN 12 11,RB 13 .lss 10 12] [1,2,3,4,8,9,13] (.cond 13 .skip (.exit 0))) (.seq (.block 1 (RG [RF 16 0 4,RW 17 16 [] [] true,RM 18 1,RM 19 9,RI 20 1 18 19,RW 21 20 [] [] true,RF 22 0 4,RL 23 22,RM 24 1,RM 25 9,RI 26 1 24 25,RL 27 26,RI 28 1 23 27,RL 29 28,RM 30 2,RM 31 9,RI 32 1 30 31,RL 33 32,RM 34 3,RM 35 9,RI 36 1 34 35,RL 37 36,RX 38 (.call KX [29,33,37]) [] [1,5] false,RI 39 1 17 21,WS 1 false 39 38] [1,2,3,4,8,9])) (RG [RM 14 9,RB 15 .add 14 (ki 1),RM 9 15] [1,2,3,4,8,9])))))) (SR [RD 40 1 4,WS 1 true 8 40] [8] .ret)))
def VU:List aR:=[.cell 8 1 true]
theorem An:aK an2 Tryz.f290 (aV CU)=some (CU,VU):=by kernel_rfl
def y5:AC:= (SR [RO 2 0,RA 4 [OZ,OZ]] [1,2,4] (.seq (SR [RV 5 (ki 0)] [1,2,4,5] (.block 0 (.loop (.seq (SR [RM 7 5,RF 8 1 2,RL 9 8,RN 10 9,RB 11 .lss 7 10] [1,2,4,5,11] (.cond 11 .skip (.exit 0))) (.seq (.block 1 (SR [RV 6 (ki 0)] [1,2,4,5,6] (.block 2 (.loop (.seq (SR [RM 14 6,RM 15 1,RN 16 15,RB 17 .lss 14 16] [1,2,4,5,6,17] (.cond 17 .skip (.exit 2))) (.seq (.block 3 (SR [RF 20 1 2,RL 21 20,RM 22 5,RI 23 1 21 22,RL 24 23,RM 25 1,RM 26 6,RI 27 1 25 26,RL 28 27,RB 29 .eql 24 28] [1,2,4,5,6,29] (.cond 29 (RG [RF 30 1 2,RL 31 30,RM 32 5,RI 33 1 31 32,rn (.store 1 false 33 (.kv (.int .i64 (-1))))] [1,2,4,5,6]) .skip))) (RG [RM 18 6,RB 19 .add 18 (ki 1),RM 6 19] [1,2,4,5,6]))))))) (RG [RM 12 5,RB 13 .add 12 (ki 1),RM 5 13] [1,2,4,5])))))) (SR [RD 34 2 2,WS 2 true 4 34] [4] .ret)))
def QX:List aR:=[.cell 4 2 true]
theorem sk:aK an2 Tryz.f291 (aV y5)=some (y5,QX):=by kernel_rfl
def tH:AC:= (SR [RO 2 0,RO 3 1,RV 4 kF] [2,3] (SR [RF 5 0 2,RL 6 5,RF 7 0 3,RL 8 7,RB 9 .lss 6 8,RM 10 9,GF 11 0 2 10 false,GL 12 11 10 false,GF 13 0 3 10 false,GL 14 13 10 false,GB 15 .eql 12 14 10 false,GM 16 15 10 false,GF 17 1 2 16 true,GL 18 17 16 true,GF 19 1 3 16 true,GL 20 19 16 true,GB 21 .lss 18 20 16 true,GQ 22 (.pick 16 21 kF) 10 false,RP 23 10 kT 22,RM 4 23] [4] .ret))
def MO:List aR:=[.tm 4]
theorem fw:aK an2 Tryz.f292 (aV tH)=some (tH,MO):=by kernel_rfl
def fC:AC:= (SR [RV 4 kF] [0,1] (SR [RM 5 0,RM 6 1,RC 7 gU [5,6],RB 8 .geq 7 (ki 0),RM 4 8] [4] .ret))
def mV:List aR:=[.tm 4]
theorem AO:aK an2 Tryz.f201 (aV fC)=some (fC,mV):=by kernel_rfl
def GZ:AC:= (SR [RV 6 kF] [0,1,2] (SR [RM 7 0,RM 8 1,RB 9 .geq 7 8,RM 10 9,GM 11 0 10 true,GM 12 2 10 true,GB 13 .leq 11 12 10 true,RP 14 10 13 kF,RM 6 14] [6] .ret))
def al:List aR:=[.tm 6]
theorem Fc:aK an2 Tryz.f203 (aV GZ)=some (GZ,al):=by kernel_rfl
def F6:AC:= (SR [RO 5 1,RO 7 3,RA 8 [OZ,OZ],RA 9 [VZ,VZ,OZ]] [0,2,5,7,8,9] (SR [RF 14 2 7,RL 15 14,RF 16 3 7,RL 17 16,RF 18 4 7,RL 19 18,RC 20 vR [15,17,19],RM 10 20] [0,2,5,7,8,9,10] (SR [RM 21 0,RM 22 10,RC 23 zR [21,22],RM 11 23] [0,2,5,7,8,9,10,11] (SR [RF 24 0 7,RL 25 24,rq 26 (.build [VZ,VZ,OZ] [(0,1,25),(1,1,(ki 1))]),RA 12 [VZ,VZ,OZ],WS 3 true 12 26] [0,2,5,7,8,9,10,11,12] (.seq (SR [RM 27 11,RB 28 .lss 27 (ki 0)] [0,2,5,7,8,9,10,11,12,28] (.cond 28 (SR [RF 29 1 12,WS 1 false 29 (ki 4)] [5,8,9,12] (SR [RD 30 2 5,RX 31 (.load 3 true 12) [] [] true,RY none (.store 2 true 8 30) none [] [1] false,WS 3 true 9 31] [8,9] .ret)) .skip)) (.seq (SR [RD 32 7 7,RC 33 vX [32],RM 34 33,GM 35 0 34 true,GM 36 11 34 true,GI 37 4 35 36 34 true,GF 38 3 37 34 true,GL 39 38 34 true,RP 40 34 39 kF] [2,5,7,8,9,10,12,40] (.cond 40 (SR [RF 41 1 12,WS 1 false 41 (ki 3)] [5,8,9,12] (SR [RD 42 2 5,RX 43 (.load 3 true 12) [] [] true,RY none (.store 2 true 8 42) none [] [1] false,WS 3 true 9 43] [8,9] .ret)) .skip)) (SR [RM 44 2,RB 45 .mul 44 (ki 2),RF 46 0 7,RL 47 46,RB 48 .add 45 47,RM 13 48] [5,7,8,9,10,12,13] (.seq (SR [RF 49 1 7,RL 50 49] [5,7,8,9,10,12,13,50] (.block 0 (SR [RB 64 .eql 50 (ki 1),RM 63 64] [5,7,8,9,10,12,13,50,63] (.cond 63 (RG [RF 65 0 5,RD 66 1 65,RM 67 10,RC 68 zE [66,67],RF 69 2 12,WS 1 false 69 68] [5,8,9,12]) (SR [RB 71 .eql 50 (ki 3),RM 70 71] [5,7,8,9,10,12,13,50,70] (.cond 70 (SR [RF 72 0 5,RD 73 1 72,RM 74 10,RC 75 zE [73,74],RF 76 2 12,WS 1 false 76 75] [5,7,8,9,12,13] (SR [RF 77 1 12,WS 1 false 77 (ki 2)] [5,7,8,9,12,13] (RG [RF 78 1 5,RL 79 78,RM 80 13,RF 81 2 7,RL 82 81,RI 83 1 79 80,WS 1 false 83 82] [5,8,9,12]))) (SR [RB 85 .eql 50 (ki 4),RM 84 85] [5,7,8,9,10,12,13,84] (.cond 84 (.seq (SR [RF 86 1 5,RL 87 86,RM 88 13,RI 89 1 87 88,RL 90 89,RF 91 2 7,RL 92 91,RB 93 .neq 90 92] [5,7,8,9,10,12,93] (.cond 93 (SR [RD 94 2 5,RX 95 (.load 3 true 12) [] [] true,RY none (.store 2 true 8 94) none [] [1] false,WS 3 true 9 95] [8,9] .ret) .skip)) (SR [RF 96 1 12,WS 1 false 96 (ki 2)] [5,7,8,9,10,12] (SR [RF 97 0 5,RD 98 1 97,RM 99 10,RF 100 5 7,RL 101 100,RF 102 6 7,RL 103 102,RC 104 AD [98,99,101,103],RF 105 0 5,WS 1 true 105 104] [5,8,9,10,12] (RG [RD 106 2 5,RM 107 10,RC 108 uQ [106,107],WS 2 true 5 108] [5,8,9,12])))) (SR [RF 51 0 5,RD 52 1 51,RM 53 10,RF 54 5 7,RL 55 54,RF 56 6 7,RL 57 56,RC 58 AD [52,53,55,57],RF 59 0 5,WS 1 true 59 58] [5,8,9,10,12] (RG [RD 60 2 5,RM 61 10,RC 62 uQ [60,61],WS 2 true 5 62] [5,8,9,12])))))))))) (SR [RD 109 2 5,RX 110 (.load 3 true 12) [] [] true,RY none (.store 2 true 8 109) none [] [1] false,WS 3 true 9 110] [8,9] .ret)))))))))
def ZC:List aR:=[.cell 8 2 true,.cell 9 3 true]
theorem Dw:aK an2 Tryz.f209 (aV F6)=some (F6,ZC):=by kernel_rfl
def GG:AC:= (SR [RV 6 (ki 0)] [0,1,2] (.seq (SR [RV 7 (ki 0)] [0,1,2,7] (.block 0 (.loop (.seq (SR [RM 8 7,RM 9 0,RN 10 9,RB 11 .lss 8 10] [0,1,2,7,11] (.cond 11 .skip (.exit 0))) (.seq (.block 1 (SR [RM 14 0,RM 15 7,RI 16 5 14 15,RF 17 0 16,RL 18 17,RM 19 1,RB 20 .eql 18 19,RM 21 20,GM 22 0 21 true,GM 23 7 21 true,GI 24 5 22 23 21 true,GF 25 1 24 21 true,GL 26 25 21 true,GM 27 2 21 true,GB 28 .eql 26 27 21 true,RP 29 21 28 kF] [0,1,2,7,29] (.cond 29 (SR [RM 30 7,RM 6 30] [6] .ret) .skip))) (RG [RM 12 7,RB 13 .add 12 (ki 1),RM 7 13] [0,1,2,7])))))) (SR [rq 6 (.move (.kv (.int .i64 (-1))))] [6] .ret)))
def bh:List aR:=[.tm 6]
theorem Fw:aK an2 Tryz.f216 (aV GG)=some (GG,bh):=by kernel_rfl
def C8:AC:= (SR [RO 3 1,RV 4 (.kv (.slice none 0 0))] [0,3] (SR [rq 8 (.bY 5 0 [VZ,VZ,VZ,VZ,OZ] []),RM 5 8] [0,3,5] (SR [RV 6 kF] [0,3,5,6] (.seq (SR [RV 7 (ki 0)] [0,3,5,6,7] (.block 0 (.loop (.seq (SR [RM 9 7,RM 10 0,RN 11 10,RB 12 .lss 9 11] [0,3,5,6,7,12] (.cond 12 .skip (.exit 0))) (.seq (.block 1 (.seq (SR [RM 15 6,RU 16 15,RM 17 16,GQ 18 (.load 5 true 3) 17 true,GM 19 0 17 true,GM 20 7 17 true,GI 21 5 19 20 17 true,GQ 22 (.load 5 true 21) 17 true,GQ 23 (.call vN [18,22]) 17 true,RP 24 17 23 kF] [0,3,5,6,7,24] (.cond 24 (SR [RM 25 5,RD 26 5 3,rq 27 (.bY 5 1 [VZ,VZ,VZ,VZ,OZ] [(0,5,26)]),rq 28 (.append 5 25 27),RM 5 28] [0,3,5,7] (RG [RV 6 kT] [0,3,5,6,7])) .skip)) (RG [RM 29 5,RM 30 0,RM 31 7,RI 32 5 30 31,RD 33 5 32,rq 34 (.bY 5 1 [VZ,VZ,VZ,VZ,OZ] [(0,5,33)]),rq 35 (.append 5 29 34),RM 5 35] [0,3,5,6,7]))) (RG [RM 13 7,RB 14 .add 13 (ki 1),RM 7 14] [0,3,5,6,7])))))) (.seq (SR [RM 36 6,RU 37 36] [3,5,37] (.cond 37 (RG [RM 38 5,RD 39 5 3,rq 40 (.bY 5 1 [VZ,VZ,VZ,VZ,OZ] [(0,5,39)]),rq 41 (.append 5 38 40),RM 5 41] [5]) .skip)) (SR [RM 42 5,RM 4 42] [4] .ret))))))
def VG:List aR:=[.tm 4]
theorem zy:aK an2 Tryz.f217 (aV C8)=some (C8,VG):=by kernel_rfl
def yE:AC:= (SR [RO 1 0,RA 2 [OZ,OZ,OZ,OZ,OZ,OZ]] [1,2] (.seq (.region [RF 3 0 1 0,RX 4 (.load 2 true 3) [3] [] false 1,rq 6 (.bY 1 0 [VZ] []) 3,RF 7 2 1 4,RW 8 7 [3] [] true 5,RF 10 3 1 7,RW 11 10 [3] [] true 8,RF 13 4 1 10,RW 14 13 [3] [] true 11,RF 16 5 1 13,RW 17 16 [3] [] true 14,RX 5 (.call mO [4]) [3] [5,8,11,14] false 2,RX 9 (.append 1 6 8) [] [8,11,14] false 6,RX 12 (.call fY [11]) [] [11,14] false 9,RX 15 (.call fY [14]) [] [14] false 12,RC 18 fY [17] 15,rq 19 (.build [OZ,OZ,OZ,OZ,OZ,OZ] [(0,2,5),(2,1,9),(3,1,12),(4,1,15),(5,1,18)]) 16,WS 6 true 2 19 17] 18 [2]) .ret))
def R2:List aR:=[.cell 2 6 true]
theorem yn:aK an2 Tryz.f218 (aV yE)=some (yE,R2):=by kernel_rfl
def nD:AC:= (SR [RO 7 3,RA 8 [VZ,VZ,OZ]] [0,1,2,7,8] (SR [RM 19 1,RD 20 7 7,RC 21 y9 [19,20],RM 9 21] [0,1,2,7,8,9] (SR [RF 22 0 7,RL 23 22,rq 24 (.build [VZ,VZ,OZ] [(0,1,23),(1,1,(ki 1))]),RA 10 [VZ,VZ,OZ],WS 3 true 10 24] [0,1,2,7,8,9,10] (SR [RM 25 0,RK 26 25,RF 27 1 26,RL 28 27,RM 29 2,RB 30 .mul 29 (ki 2),RF 31 0 7,RL 32 31,RB 33 .add 30 32,RI 34 1 28 33,RM 11 34] [0,1,7,8,9,10,11] (.seq (.block 0 (SR [RM 36 9,RB 37 .lss 36 (ki 0),RM 35 37] [0,1,7,8,9,10,11,35] (.cond 35 (SR [RF 38 1 10,WS 1 false 38 (ki 4)] [8,10] (SR [RD 39 3 10,WS 3 true 8 39] [8] .ret)) (SR [RD 41 7 7,RC 42 jJ [41],RM 43 42,GM 44 1 43 true,GM 45 9 43 true,GI 46 4 44 45 43 true,GF 47 3 46 43 true,GL 48 47 43 true,RP 49 43 48 kF,RM 40 49] [0,7,8,10,11,40] (.cond 40 (SR [RF 50 1 10,WS 1 false 50 (ki 3)] [8,10] (SR [RD 51 3 10,WS 3 true 8 51] [8] .ret)) (SR [RF 53 1 7,RL 54 53,RB 55 .eql 54 (ki 4),RM 56 55,GM 57 11 56 true,GQ 58 (.EU 57) 56 true,GL 59 58 56 true,GF 60 2 7 56 true,GL 61 60 56 true,GB 62 .neq 59 61 56 true,RP 63 56 62 kF,RM 52 63] [0,7,8,10,11,52] (.cond 52 (SR [RD 64 3 10,WS 3 true 8 64] [8] .ret) .skip))))))) (SR [RD 65 7 7,RC 66 kB [65],RM 12 66] [0,7,8,10,11,12] (.seq (SR [RD 67 7 7,RC 68 jJ [67],RU 69 68] [0,7,8,10,11,12,69] (.cond 69 (SR [RM 70 12,RN 71 70,rq 72 (.iX 1 [VZ] 71 71),RF 73 2 10,WS 1 false 73 72] [0,7,8,10,11,12] (.seq (SR [RM 74 12,RN 75 74,RV 76 (ki 0)] [0,7,8,10,11,74,75,76] (.block 1 (.loop (SR [RB 77 .lss 76 75] [0,7,8,10,11,74,75,76,77] (.seq (.cond 77 .skip (.exit 1)) (.seq (.block 2 (SR [RM 78 76,RI 79 1 74 76,RL 80 79,RM 13 78,RM 14 80] [0,7,8,10,11,13,14,74,75,76] (RG [RF 81 2 10,RL 82 81,RM 83 13,RM 84 0,RK 85 84,RF 86 0 85,RF 87 0 86,RL 88 87,RM 89 14,RI 90 1 88 89,RL 91 90,RI 92 1 82 83,WS 1 false 92 91] [0,7,8,10,11,74,75,76]))) (RG [RB 93 .add 76 (ki 1),RM 76 93] [0,7,8,10,11,74,75,76]))))))) (.seq (SR [RF 94 1 7,RL 95 94,RB 96 .eql 95 (ki 3)] [7,8,10,11,96] (.cond 96 (SR [RF 97 1 10,WS 1 false 97 (ki 2)] [7,8,10,11] (RG [RM 98 11,RF 99 2 7,RL 100 99,RK 101 98,WS 1 false 101 100] [8,10])) .skip)) (SR [RD 102 3 10,WS 3 true 8 102] [8] .ret)))) .skip)) (.seq (SR [RF 103 1 7,RL 104 103,RB 105 .eql 104 (ki 4)] [0,7,8,10,12,105] (.cond 105 (RG [RF 106 1 10,WS 1 false 106 (ki 2)] [0,7,8,10,12]) .skip)) (.seq (SR [RM 107 12,RN 108 107,RV 109 (ki 0)] [0,7,8,10,12,107,108,109] (.block 3 (.loop (SR [RB 110 .lss 109 108] [0,7,8,10,12,107,108,109,110] (.seq (.cond 110 .skip (.exit 3)) (.seq (.block 4 (SR [RM 111 109,RI 112 1 107 109,RL 113 112,RM 15 111,RM 16 113] [0,7,8,10,12,15,16,107,108,109] (RG [RM 114 0,RK 115 114,RF 116 0 115,RF 117 0 116,RW 118 117 [] [] true,RM 119 16,RM 120 0,RK 121 120,RF 122 0 121,RF 123 0 122,RL 124 123,RM 125 16,RI 126 1 124 125,RL 127 126,RF 128 5 7,RL 129 128,RM 130 15,RI 131 1 129 130,RL 132 131,RF 133 6 7,RL 134 133,RM 135 15,RI 136 1 134 135,RL 137 136,RX 138 (.call WO [127,132,137]) [] [4] false,RI 139 1 118 119,WS 1 false 139 138] [0,7,8,10,12,107,108,109]))) (RG [RB 140 .add 109 (ki 1),RM 109 140] [0,7,8,10,12,107,108,109]))))))) (.seq (SR [RM 141 0,RK 142 141,RF 143 1 142,RL 144 143,RN 145 144,RV 146 (ki 0)] [0,8,10,12,144,145,146] (.block 5 (.loop (SR [RB 147 .lss 146 145] [0,8,10,12,144,145,146,147] (.seq (.cond 147 .skip (.exit 5)) (.seq (.block 6 (SR [RM 148 146,RI 149 1 144 146,RL 150 149,RM 17 148,RM 18 150] [0,8,10,12,17,18,144,145,146] (SR [RM 151 12,RM 152 18,RC 153 kY [151,152]] [0,8,10,12,17,144,145,146,153] (.cond 153 (RG [RM 154 0,RK 155 154,RF 156 1 155,RL 157 156,RM 158 17,RI 159 1 157 158,rn (.store 1 false 159 (.kv (.int .i64 (-1))))] [0,8,10,12,144,145,146]) .skip)))) (RG [RB 160 .add 146 (ki 1),RM 146 160] [0,8,10,12,144,145,146]))))))) (SR [RD 161 3 10,WS 3 true 8 161] [8] .ret)))))))))))
def FX:List aR:=[.cell 8 3 true]
theorem UF:aK an2 Tryz.f224 (aV nD)=some (nD,FX):=by kernel_rfl
def DC:AC:= (SR [RV 2 (ki 0)] [0] (SR [RV 3 (ki 0)] [0,3] (.seq (SR [RM 6 0,RN 7 6,RV 8 (ki 0)] [3,6,7,8] (.block 0 (.loop (SR [RB 9 .lss 8 7] [3,6,7,8,9] (.seq (.cond 9 .skip (.exit 0)) (.seq (.block 1 (SR [RI 10 1 6 8,RL 11 10,RM 5 11] [3,5,6,7,8] (SR [RM 12 5,RM 13 3,RB 14 .neq 12 13] [3,5,6,7,8,14] (.cond 14 (SR [RM 15 5,RM 2 15] [2] .ret) .skip)))) (RG [RB 16 .add 8 (ki 1),RM 8 16] [3,6,7,8]))))))) (SR [RM 17 3,RM 2 17] [2] .ret))))
def V6:List aR:=[.tm 2]
theorem Aj:aK an2 Tryz.f226 (aV DC)=some (DC,V6):=by kernel_rfl
def oJ:AC:= (SR [RV 4 (ki 0)] [0,1] (SR [RM 7 0,RC 8 vV [7],RM 5 8] [0,1,5] (SR [RM 9 1,RC 10 vV [9],RM 6 10] [0,1,5,6] (.seq (SR [RM 11 5] [0,1,6,11] (.cond 11 (.seq (SR [RM 12 6] [12] (.cond 12 (SR [RV 4 (ki 0)] [4] .ret) .skip)) (SR [rq 4 (.move (.kv (.int .i64 (-1))))] [4] .ret)) .skip)) (.seq (SR [RM 13 6] [0,1,13] (.cond 13 (SR [RV 4 (ki 1)] [4] .ret) .skip)) (.seq (SR [RM 14 0,RM 15 1,RB 16 .lss 14 15] [0,1,16] (.cond 16 (SR [rq 4 (.move (.kv (.int .i64 (-1))))] [4] .ret) .skip)) (.seq (SR [RM 17 0,RM 18 1,RB 19 .gtr 17 18] [19] (.cond 19 (SR [RV 4 (ki 1)] [4] .ret) .skip)) (SR [RV 4 (ki 0)] [4] .ret))))))))
def I6:List aR:=[.tm 4]
theorem W2:aK an2 Tryz.f227 (aV oJ)=some (oJ,I6):=by kernel_rfl
def vB:AC:= (SR [RV 4 (ki 0)] [0,1] (.seq (SR [RM 7 1,RN 8 7,RB 9 .eql 8 (ki 0)] [0,1,9] (.cond 9 (SR [rq 4 (.move (.kv (.int .i64 (-1))))] [4] .ret) .skip)) (SR [RM 10 0,RM 11 1,RI 12 1 11 (ki 0),RL 13 12,RC 14 B2 [10,13],RM 5 14] [0,1,5] (.seq (SR [RV 6 (ki 1)] [0,1,5,6] (.block 0 (.loop (.seq (SR [RM 15 6,RM 16 1,RN 17 16,RB 18 .lss 15 17] [0,1,5,6,18] (.cond 18 .skip (.exit 0))) (.seq (.block 1 (SR [RM 21 0,RM 22 1,RM 23 6,RI 24 1 22 23,RL 25 24,RC 26 B2 [21,25],RM 27 5,RB 28 .neq 26 27] [0,1,5,6,28] (.cond 28 (SR [rq 4 (.move (.kv (.int .i64 (-1))))] [4] .ret) .skip))) (RG [RM 19 6,RB 20 .add 19 (ki 1),RM 6 20] [0,1,5,6])))))) (SR [RM 29 5,RM 4 29] [4] .ret)))))
def OY:List aR:=[.tm 4]
theorem pv:aK an2 Tryz.f249 (aV vB)=some (vB,OY):=by kernel_rfl
def sA:AC:= (SR [RV 6 (.kv (.slice none 0 0))] [0,1,2] (SR [rq 10 (.bY 1 0 [VZ] []),RM 7 10] [0,1,2,7] (.seq (SR [RM 11 0,RM 12 1,RM 13 2,RC 14 GN [11,12,13],RU 15 14] [0,1,2,7,15] (.cond 15 (SR [RM 16 7,RM 6 16] [6] .ret) .skip)) (SR [RM 17 0,RM 18 0,RM 19 1,RB 20 .rem 18 19,RB 21 .sub 17 20,RM 8 21] [0,1,2,7,8] (.seq (SR [RV 9 (ki 0)] [0,1,2,7,8,9] (.block 0 (.loop (.seq (SR [RM 22 9,RM 23 1,RB 24 .lss 22 23] [0,1,2,7,8,9,24] (.cond 24 .skip (.exit 0))) (.seq (.block 1 (SR [RM 27 2] [0,1,2,7,8,9,27] (.cond 27 (RG [RM 28 7,RM 29 8,RM 30 0,RM 31 8,RB 32 .sub 30 31,RM 33 9,RB 34 .add 32 33,RM 35 1,RB 36 .rem 34 35,RB 37 .add 29 36,rq 38 (.bY 1 1 [VZ] [(0,1,37)]),rq 39 (.append 1 28 38),RM 7 39] [0,1,2,7,8,9]) (RG [RM 40 7,RM 41 0,RM 42 9,RB 43 .add 41 42,rq 44 (.bY 1 1 [VZ] [(0,1,43)]),rq 45 (.append 1 40 44),RM 7 45] [0,1,2,7,8,9])))) (RG [RM 25 9,RB 26 .add 25 (ki 1),RM 9 26] [0,1,2,7,8,9])))))) (SR [RM 46 7,RM 6 46] [6] .ret))))))
def ML:List aR:=[.tm 6]
theorem jz:aK an2 Tryz.f250 (aV sA)=some (sA,ML):=by kernel_rfl
def eK:AC:= (SR [RV 2 (.kv (.slice none 0 0))] [0] (SR [RM 3 0,RM 4 0,RN 5 4,RM 6 0,RN 7 6,rq 8 (.slc 3 3 none (some 5) (some 7)),RM 2 8] [2] .ret))
def lQ:List aR:=[.tm 2]
theorem xO:aK an2 Tryz.f98 (aV eK)=some (eK,lQ):=by kernel_rfl
def abN:AC:= (SR [RO 3 0,RO 4 1,RA 6 [OZ,OZ,OZ,OZ,OZ]] [2,3,4,6] (.seq (SR [RD 10 3 3,RD 11 5 4,RM 12 2,RC 13 SV [10,11,12],RU 14 13] [2,3,4,6,14] (.cond 14 (SR [rq 15 (.build [OZ,OZ,OZ,OZ,OZ] []),WS 5 true 6 15] [6] .ret) .skip)) (SR [RD 16 5 4,RC 17 gX [16],RA 7 [OZ,OZ,OZ,OZ,OZ],WS 5 true 7 17] [2,3,6,7] (.seq (SR [RM 18 2,RN 19 18,RV 20 (ki 0)] [3,6,7,18,19,20] (.block 0 (.loop (SR [RB 21 .lss 20 19] [3,6,7,18,19,20,21] (.seq (.cond 21 .skip (.exit 0)) (.seq (.block 1 (SR [RI 22 3 18 20,RD 23 3 22,RA 9 [OZ,OZ,OZ],WS 3 true 9 23] [3,6,7,9,18,19,20] (RG [RD 24 3 3,RD 25 3 9,RC 26 mC [7,24,25]] [3,6,7,18,19,20]))) (RG [RB 27 .add 20 (ki 1),RM 20 27] [3,6,7,18,19,20]))))))) (SR [RD 28 5 7,RC 29 gX [28],WS 5 true 6 29] [6] .ret)))))
def Zg:List aR:=[.cell 6 5 true]
def BP:AC:= (SR [RO 3 0,RO 4 1,RV 6 (.kv (.slice none 0 0))] [2,3,4] (.seq (SR [RD 11 3 3,RD 12 5 4,RM 13 2,RC 14 SV [11,12,13],RU 15 14] [2,3,4,15] (.cond 15 (SR [RV 6 (.kv (.slice none 0 0))] [6] .ret) .skip)) (SR [RD 16 5 4,RC 17 gX [16],RA 7 [OZ,OZ,OZ,OZ,OZ],WS 5 true 7 17] [2,3,7] (SR [RV 8 (.kv (.slice none 0 0))] [2,3,7,8] (.seq (SR [RM 18 2,RN 19 18,RV 20 (ki 0)] [3,7,8,18,19,20] (.block 0 (.loop (SR [RB 21 .lss 20 19] [3,7,8,18,19,20,21] (.seq (.cond 21 .skip (.exit 0)) (.seq (.block 1 (SR [RI 22 3 18 20,RD 23 3 22,RA 10 [OZ,OZ,OZ],WS 3 true 10 23] [3,7,8,10,18,19,20] (RG [RM 24 8,RD 25 3 3,RD 26 3 10,RC 27 mC [7,25,26],rq 28 (.field 0 1 false 27),rq 29 (.append 3 24 28),RM 8 29] [3,7,8,18,19,20]))) (RG [RB 30 .add 20 (ki 1),RM 20 30] [3,7,8,18,19,20]))))))) (SR [RM 31 8,RC 32 eQ [31],RM 6 32] [6] .ret))))))
def M9:List aR:=[.tm 6]
theorem jt:aK an2 Tryz.f28 (aV BP)=some (BP,M9):=by kernel_rfl
def tF:AC:= (SR [RO 3 1,RV 4 (ki 0)] [0,3] (.seq (SR [RM 6 0,RC 7 GJ [6],RU 8 7,RM 9 8,GQ 10 (.load 7 true 3) 9 false,GQ 11 (.call GO [10]) 9 false,GU 12 11 9 false,RP 13 9 kT 12] [0,3,13] (.cond 13 (SR [rq 4 (.move (.kv (.int .i64 (-1))))] [4] .ret) .skip)) (SR [RM 14 0,RF 15 2 3,RL 16 15,RF 17 3 3,RL 18 17,RF 19 4 3,RL 20 19,RC 21 vR [16,18,20],RC 22 zR [14,21],RM 5 22] [0,5] (.seq (SR [RM 23 5,RB 24 .lss 23 (ki 0)] [0,5,24] (.cond 24 (SR [RV 4 (ki 3)] [4] .ret) .skip)) (SR [RM 25 0,RM 26 5,RI 27 4 25 26,RF 28 2 27,RL 29 28,RM 4 29] [4] .ret)))))
def MJ:List aR:=[.tm 4]
theorem jm:aK an2 Tryz.f167 (aV tF)=some (tF,MJ):=by kernel_rfl
end Go.Proofs.YtlncecohbakleaaGreat
