/- Rules and contracts. -/
import Derived.Test.YtlncecohbakleaaGreatPR2
import Derived.Lib.Overlaps
import Derived.Test.YtlncecohbakleaaGreatProg
set_option linter.unusedVariables false
set_option linter.unusedSimpArgs false
set_option maxRecDepth 100000
set_option maxHeartbeats 8000000
noncomputable abbrev afA:=Go.Proofs.Tryz.prog
abbrev afB:=Go.AM.aC afA
abbrev afC:=Go.AM.D->Go.AM.aA->Nat->Prop
namespace Go.AM
open Go.RowKit
def cK(A B:Prop):D->Prop
 | .one (.c (.v (.bool t)))=>(t=true->A)/\(t=false->B)
 |_=>False
section
variable{P:Program}{T:Nat}{b:Nat}{live:List Nat}{K:Env -> aA -> Nat -> Prop}{L:List aZ}{dst:Option Nat}{e:Env}{H:aA}{nx:Nat}{S:fM}{Q:AQ}{x y z:AC}{zs:List AC}
theorem aJ.Zi{c:aY}(h: ∀A B:Prop,(aJ P T (x::zs) e H nx Q->A)->(aJ P T (y::zs) e H nx Q->B)->cK A B (c.ev e)):aJ P T (.cond c x y::zs) e H nx Q:=by
 have h:=h _ _ id id;unfold cK at h;split at h;·rename_i t a;exact aJ.cond a h.1 h.2
 ·exact h.elim
theorem Xs{A B:Prop}:cK A B (.one (.c (.v (.bool true))))=A:=by simp[cK]
theorem Wn{A B:Prop}:cK A B (.one (.c (.v (.bool false))))=B:=by simp[cK]
theorem abC{A B:Prop}{t:Bool}(a:t=true->A)(b:t=false->B):cK A B (.one (.c (.v (.bool t)))):=⟨a,b⟩
theorem aaX{A B:Prop}{p:Prop}[Decidable p](a:p->A)(b: ¬p->B):cK A B (.one (.c (.v (.bool (decide p))))):=⟨fun h=>a (by simpa using h),fun h=>b (by simpa using h)⟩
def wvH(P:Program)(b:Nat)(live:List Nat)(K:Env->aA->Nat->Prop)(o:aZ)(L:List aZ)(t:Nat)(w:Bool)(e:Env)(H:aA)(nx:Nat)(S:fM):D->Prop
 | .one (.c (.v (.bool x)))=>if x=w then wv P b live K (o::L) (e.set t (.one (.c (.v (.bool x))))) H nx S else wv P b live K L ((e.set t (.one (.c (.v (.bool x))))).put o.dst (.tup [])) H nx S
 | .tup []=>wv P b live K L (e.put o.dst (.tup [])) H nx S
 |_=>False
variable{t:Nat}
theorem Env.Mi{e:Env}{d:D}(h:e t=d):e.set t d=e:=by
 funext i;simp only[Env.set];split;·rename_i hi;rw[hi,h]
 ·rfl
variable{ix:Nat}{m s:List Nat}{k:Bool}
theorem aaV{w:Bool}{op:AOp}:wv P b live K (⟨ix,dst,op,some (t,w),m,s,k⟩::L) e H nx S=wvH P b live K ⟨ix,dst,op,none,m,s,k⟩ L t w e H nx S (e t):=by
 rw[aaO];generalize he:e t=d;by_cases a: ∃x,d= .one (.c (.v (.bool x)));·obtain⟨x,rfl⟩:=a;simp only[wvG,wvH];rw[Env.Mi he]
 ·by_cases hu:d= .tup [];·subst hu;rfl
  ·unfold wvG wvH;split;·exact absurd ⟨_,rfl⟩ a
   ·exact absurd rfl hu
   ·split;·exact absurd ⟨_,rfl⟩ a
    ·exact absurd rfl hu
    ·rfl
theorem Zb{o:aZ}{w:Bool}:wvH P b live K o L t w e H nx S (.tup [])=wv P b live K L (e.put o.dst (.tup [])) H nx S:=rfl
theorem We{o:aZ}:wvH P b live K o L t true e H nx S (.one (.c (.v (.bool true))))=wv P b live K (o::L) (e.set t (.one (.c (.v (.bool true))))) H nx S:=rfl
theorem Wy{o:aZ}:wvH P b live K o L t true e H nx S (.one (.c (.v (.bool false))))=wv P b live K L ((e.set t (.one (.c (.v (.bool false))))).put o.dst (.tup [])) H nx S:=rfl
theorem Wj{o:aZ}:wvH P b live K o L t false e H nx S (.one (.c (.v (.bool true))))=wv P b live K L ((e.set t (.one (.c (.v (.bool true))))).put o.dst (.tup [])) H nx S:=rfl
theorem Xo{o:aZ}:wvH P b live K o L t false e H nx S (.one (.c (.v (.bool false))))=wv P b live K (o::L) (e.set t (.one (.c (.v (.bool false))))) H nx S:=rfl
theorem Vl{o:aZ}{t:Nat}{w u:Bool}(a:u=true->wvH P b live K o L t w e H nx S (.one (.c (.v (.bool true)))))(d:u=false->wvH P b live K o L t w e H nx S (.one (.c (.v (.bool false))))):
 wvH P b live K o L t w e H nx S (.one (.c (.v (.bool u)))):=by
 cases u with
 |true=>exact a rfl
 |false=>exact d rfl
theorem Yz{o:aZ}{t:Nat}{w:Bool}{p:Prop}[Decidable p](h:p)(a:wvH P b live K o L t w e H nx S (.one (.c (.v (.bool true))))):wvH P b live K o L t w e H nx S (.one (.c (.v (.bool (decide p))))):=by rw[decide_eq_true h];exact a
theorem Yj{o:aZ}{t:Nat}{w:Bool}{p:Prop}[Decidable p](h: ¬p)(a:wvH P b live K o L t w e H nx S (.one (.c (.v (.bool false))))):wvH P b live K o L t w e H nx S (.one (.c (.v (.bool (decide p))))):=by rw[decide_eq_false h];exact a
theorem Zh{o:aZ}{t:Nat}{w:Bool}{p:Prop}[Decidable p](a:p->wvH P b live K o L t w e H nx S (.one (.c (.v (.bool true)))))(d: ¬p->wvH P b live K o L t w e H nx S (.one (.c (.v (.bool false))))):
 wvH P b live K o L t w e H nx S (.one (.c (.v (.bool (decide p))))):=
 Vl (fun h=>a (by simpa using h)) (fun h=>d (by simpa using h))
theorem Qz{z:List D1}:wv P b live K (⟨ix,dst,.alloc z,none,m,s,k⟩::L) e H nx S=wvA P b live K L dst (b+ix) e H nx S (oN (b+ix) e (.alloc z)):=Nv rfl
theorem Yx{g:Bool}{x:aY}:wv P b live K (⟨ix,dst,.box g x,none,m,s,k⟩::L) e H nx S=wvA P b live K L dst (b+ix) e H nx S (oN (b+ix) e (.box g x)):=Nv rfl
theorem Jr{n len:Nat}{z:List D1}{a:List (Nat×Nat×aY)}:wv P b live K (⟨ix,dst,.aU n len z a,none,m,s,k⟩::L) e H nx S=wvA P b live K L dst (b+ix) e H nx S (oN (b+ix) e (.aU n len z a)):=Nv rfl
theorem Bz{n:Nat}{z:List D1}{x y:aY}:wv P b live K (⟨ix,dst,.pU n z x y,none,m,s,k⟩::L) e H nx S=wvA P b live K L dst (b+ix) e H nx S (oN (b+ix) e (.pU n z x y)):=Nv rfl
theorem Up{id:Nat}{st:List Nat}{c:Prop}[Decidable c]{a:Nat}{x:Option (Option Nat×Nat×Nat×List (List D1))}:wvP P b live K L dst id m st e H nx S a (if c then x else none)=(c/\wvP P b live K L dst id m st e H nx S a x):=by split<;>rename_i h<;>simp[h,wvP]
theorem Wi{n i off len cap:Nat}:Ra (.one (.c (.osl n i off len cap)))=cap:=rfl
theorem ue{st:List Nat}:oI [] st H=True:=by simp[oI]
theorem uk{p:Nat}{g:aA->Prop}{st:List Nat}:oI ((p,g)::S) st H=((p∈st->g H)/\oI S st H):=by simp[oI]
theorem Ks{k:XK}{l:List aY}:bJ H e (.xop k l)=xq k (l.map (·.ev e)):=rfl
def Nr(P:Program)(args:List D)(H:aA)(nx:Nat)(R:afC):D->Prop
 | .one (.c (.clo f caps))=>aC P f (args++caps.map fun d=>.one (.c d)) H nx R
 |_=>False
theorem Qv{f:aY}{xs:List aY}:wv P b live K (⟨ix,dst,.AX f xs,none,m,s,k⟩::L) e H nx S=Nr P (xs.map (·.ev e)) (msk b m H) nx (O8 P b live K L dst m s e H S) (f.ev e):=by
 unfold wv;simp only[avc,oT,BT,aop,AOp.kind,OM];generalize f.ev e=d;unfold Nr;split;·simp only[D.one.injEq,DV.c.injEq,D1.clo.injEq,eq_iff_iff];exact⟨by rintro⟨_,_,⟨rfl,rfl⟩,h⟩;exact h,fun h=>⟨_,_,⟨rfl,rfl⟩,h⟩⟩
 ·rename_i a;simp only[eq_iff_iff,iff_false];rintro⟨f,caps,rfl,_⟩;exact a f caps rfl
section
variable{id i kn:Nat}{bl ok:Bool}{R:afC}{m:oZ}{l:List Int}{n:Int}{k v:D}
theorem Mo:xl P id H nx R (.KY kn bl) []=R (.one (.c (.omap id))) (H.set id (BN ⟨kn,bl,[]⟩)) nx:=rfl
theorem Jj:xl P id H nx R .y6 [.one (.c (.omap i))]=xlL H nx R (PN H i):=rfl
theorem Eu:xl P id H nx R .y6 [.one (.c (.VI m))]=xlL H nx R (some m):=rfl
theorem Aq:xl P id H nx R (.uU kn bl ok) [.one (.c (.VI m)),k]=xlG H nx R kn bl ok (some m) (WM kn k):=rfl
theorem Ku:xl P id H nx R (.uU kn bl ok) [.one (.c (.omap i)),k]=xlG H nx R kn bl ok (PN H i) (WM kn k):=rfl
theorem Gw:xl P id H nx R (.BY kn bl) [.one (.c (.omap i)),k,v]=xlS H nx R kn bl i (PN H i) (WM kn k) (al bl v):=rfl
theorem Pt:xlL H nx R (some m)=R (.one (.c (.v (.int .i64 m.m.length)))) H nx:=rfl
theorem Zo:xlG H nx R kn bl true (some m) (some l)=((m.kn=kn/\m.bl=bl/\l.length=F5 kn)/\R (.tup [.c (.v (elemV bl ((jX m.m l).getD 0))),.c (.v (.bool (jX m.m l).isSome))]) H nx):=rfl
theorem Zq:xlG H nx R kn bl false (some m) (some l)=((m.kn=kn/\m.bl=bl/\l.length=F5 kn)/\R (.one (.c (.v (elemV bl ((jX m.m l).getD 0))))) H nx):=rfl
theorem Pr:xlS H nx R kn bl i (some m) (some l) (some n)=((m.kn=kn/\m.bl=bl/\l.length=F5 kn)/\R .dead (H.set i (BN ⟨kn,bl,A8 m.m l n⟩)) nx):=rfl
theorem Mn:PN H i=(H i).bind Rf:=rfl
theorem Ox{cs:List D1}:WM kn (.one (.agg cs))=if kn=0 then none else A4 cs:=rfl
theorem Xg:WM kn (.one (.c (.v (.int .i64 n))))=if kn=0 then some [n] else none:=rfl
theorem Ua{b:Bool}:al bl (.one (.c (.v (.bool b))))=if bl then some (if b then 1 else 0) else none:=rfl
theorem Vg:al bl (.one (.c (.v (.int .i64 n))))=if bl then none else some n:=rfl
theorem Sf:elemV true n= .bool (decide (n≠0)):=rfl
theorem Va:elemV false n= .int .i64 n:=rfl
theorem Kx:A4 []=some []:=rfl
theorem Cg{r:List D1}:A4 (.v (.int .i64 n)::r)=(A4 r).map (n:: ·):=rfl
theorem Yb{xs ys:List D1}{g:Bool}{q:Nat}:xq (.aeq g q) [.one (.agg xs),.one (.agg ys)]=eqD g q xs ys (A4 xs) (A4 ys):=rfl
theorem Nd{xs ys:List D1}{q:Nat}{a b:List Int}:eqD false q xs ys (some a) (some b)=if xs.length=q/\ys.length=q then some (.one (.c (.v (.bool (decide (a=b)))))) else none:=rfl
theorem Tq{xs ys:List D1}{q:Nat}{a b:List Int}:eqD true q xs ys (some a) (some b)=if xs.length=q/\ys.length=q then some (.one (.c (.v (.bool (decide (¬a=b)))))) else none:=rfl
theorem Un:F5 kn=if kn=0 then 1 else kn:=rfl
end
theorem ML{F:Nat->Prop}{σ:Nat->Nat}{nh:Nat}{x a:oZ}(h:a=x):CvO H F σ nh (BN a) (BN x):=by subst h;exact eD fun r hr=>by cases hr
theorem Hj{f:FuncId}{caps:List D1}{args:List D}{R:afC}:Nr P args H nx R (.one (.c (.clo f caps)))=aC P f (args++caps.map fun d=>.one (.c d)) H nx R:=rfl
theorem abB{a b:Int}:(a==b)=decide (a=b):=by by_cases h:a=b<;>simp[h]
theorem aaU{a b:Int}:(a != b)=decide (¬a=b):=by by_cases h:a=b<;>simp[h]
theorem aa1{p:Prop}[Decidable p]:(!decide p)=decide (¬p):=by by_cases h:p<;>simp[h]
theorem Rx{α:Type}{enc:α->List D1}{l:List α}{i:Nat}{x:α}:(l.map enc).set i (enc x)=(l.set i x).map enc:=(acY).symm
theorem Nz{α:Type}{enc:α->List D1}{l:List α}{x:α}:l.map enc++[enc x]=(l++[x]).map enc:=by simp
theorem Nl{α:Type}{enc:α->List D1}{l:List α}{k:Nat}:(l.map enc).take k=(l.take k).map enc:=(aeM).symm
theorem Qh{α:Type}{enc:α->List D1}{l:List α}{k:Nat}:(l.map enc).drop k=(l.drop k).map enc:=(acZ).symm
end
abbrev dI(n:Int):D:=.one (.c (.v (.int .i64 n)))
abbrev dB(b:Bool):D:=.one (.c (.v (.bool b)))
abbrev dS(rows:List (List D1)):D:=.one (.c (.isl rows))
abbrev dO(n id len cap:Nat):D:=.one (.c (.osl n id 0 len cap))
abbrev dP(n id:Nat):D:=.one (.c (.ptr n id 0 0))
abbrev dA(cs:List D1):D:=.one (.agg cs)
abbrev cI(n:Int):D1:=.v (.int .i64 n)
abbrev cB(b:Bool):D1:=.v (.bool b)
def aH(x:Int):List D1:=[.v (.int .i64 x)]
theorem l8{p:Prop}[Decidable p](h:p):dB true=dB (decide p):=by rw[decide_eq_true h]
theorem fX{p:Prop}[Decidable p](h: ¬p):dB false=dB (decide p):=by rw[decide_eq_false h]
theorem nU{p q:Prop}[Decidable p][Decidable q](h:p↔q):dB (decide p)=dB (decide q):=by rw[decide_eq_decide.2 h]
theorem nP{a b:Int}(h:a=b):dI a=dI b:=by rw[h]
theorem Qe{l:List Int}{x:Int}:l.map aH++[[.v (.int .i64 x)]]=(l++[x]).map aH:=by simp[aH]
theorem Sq{l:List Int}{i:Nat}{x:Int}:(l.map aH).set i [.v (.int .i64 x)]=(l.set i x).map aH:=by rw[acY];rfl
attribute [go_sem] Qe Sq
section
variable {rows : List (List D1)} {k k' k'' : IntKind} {a b c : Int} {n m id off len cap : Nat}
theorem Xx:yE n (.one (.c (.isl rows))) none (some (.one (.c (.v (.int k a))))) none=if (0<=a/\a<=rows.length)/\(∀r∈rows,r.length=n) then some (.one (.c (.isl (rows.take a.toNat)))) else none:=by
 by_cases d: ∀r∈rows,r.length=n;·by_cases b:0<=a<;>simp only[yE,LM,b,eq_true d,if_true,if_false,reduceIte,and_true,and_false,true_and,false_and]<;>(repeat' split)<;>first|rfl| (exfalso;omega)| (simp only[acK,Nat.sub_zero,Option.some.injEq,D.one.injEq,DV.c.injEq,D1.isl.injEq];first|rfl|exact abM (by simp)|exact abM (abG _))
 ·by_cases b:0<=a<;>simp only[yE,LM,b,eq_false d,if_true,if_false,reduceIte,and_true,and_false,true_and,false_and]<;>(repeat' split)<;>first|rfl| (exfalso;omega)| (simp only[acK,Nat.sub_zero,Option.some.injEq,D.one.injEq,DV.c.injEq,D1.isl.injEq];first|rfl|exact abM (by simp)|exact abM (abG _))
theorem Yf:yE n (.one (.c (.isl rows))) (some (.one (.c (.v (.int k a))))) none none=if (0<=a/\a<=rows.length)/\(∀r∈rows,r.length=n) then some (.one (.c (.isl (rows.drop a.toNat)))) else none:=by
 by_cases d: ∀r∈rows,r.length=n;·by_cases b:0<=a<;>simp only[yE,LM,b,eq_true d,if_true,if_false,reduceIte,and_true,and_false,true_and,false_and]<;>(repeat' split)<;>first|rfl| (exfalso;omega)| (simp only[acK,Nat.sub_zero,Option.some.injEq,D.one.injEq,DV.c.injEq,D1.isl.injEq];first|rfl|exact abM (by simp)|exact abM (abG _))
 ·by_cases b:0<=a<;>simp only[yE,LM,b,eq_false d,if_true,if_false,reduceIte,and_true,and_false,true_and,false_and]<;>(repeat' split)<;>first|rfl| (exfalso;omega)| (simp only[acK,Nat.sub_zero,Option.some.injEq,D.one.injEq,DV.c.injEq,D1.isl.injEq];first|rfl|exact abM (by simp)|exact abM (abG _))
theorem Xh:yE n (.one (.c (.osl m id off len cap))) none (some (.one (.c (.v (.int k a))))) none=if (m=n\/cap=0)/\0<=a/\a<=cap then some (.one (.c (.osl n id off a.toNat cap))) else none:=by by_cases b:0<=a<;>simp only[yE,LM,wx,b,if_true,if_false,reduceIte,and_true,true_and,and_false,false_and]<;>(repeat' split)<;>first| (exfalso;omega)| (simp;done)| (simp;omega)
theorem Wo:yE n (.one (.c (.osl m id off len cap))) (some (.one (.c (.v (.int k a))))) none none=if (m=n\/cap=0)/\0<=a/\a<=len/\len<=cap then some (.one (.c (.osl n id (off+a.toNat) (len-a.toNat) (cap-a.toNat)))) else none:=by by_cases b:0<=a<;>simp only[yE,LM,wx,b,if_true,if_false,reduceIte,and_true,true_and,and_false,false_and]<;>(repeat' split)<;>first| (exfalso;omega)| (simp;done)| (simp;omega)
theorem Sl:yE n (.one (.c (.osl m id off len cap))) (some (.one (.c (.v (.int k a))))) (some (.one (.c (.v (.int k' b))))) none=if (m=n\/cap=0)/\0<=a/\a<=b/\b<=cap then some (.one (.c (.osl n id (off+a.toNat) (b.toNat-a.toNat) (cap-a.toNat)))) else none:=by by_cases d:0<=a<;>by_cases e:0<=b<;>simp only[yE,LM,wx,d,e,if_true,if_false,reduceIte,and_true,true_and,and_false,false_and]<;>(repeat' split)<;>first| (exfalso;omega)| (simp;done)| (simp;omega)
theorem Ss:yE n (.one (.c (.osl m id off len cap))) none (some (.one (.c (.v (.int k a))))) (some (.one (.c (.v (.int k' b)))))=if (m=n\/cap=0)/\0<=a/\a<=b/\b<=cap then some (.one (.c (.osl n id off a.toNat b.toNat))) else none:=by by_cases d:0<=a<;>by_cases e:0<=b<;>simp only[yE,LM,wx,d,e,if_true,if_false,reduceIte,and_true,true_and,and_false,false_and]<;>(repeat' split)<;>first| (exfalso;omega)| (simp;done)| (simp;omega)
theorem Nu:yE n (.one (.c (.osl m id off len cap))) (some (.one (.c (.v (.int k a))))) (some (.one (.c (.v (.int k' b))))) (some (.one (.c (.v (.int k'' c)))))=if (m=n\/cap=0)/\0<=a/\a<=b/\b<=c/\c<=cap then some (.one (.c (.osl n id (off+a.toNat) (b.toNat-a.toNat) (c.toNat-a.toNat)))) else none:=by by_cases d:0<=a<;>by_cases e:0<=b<;>by_cases hc:0<=c<;>simp only[yE,LM,wx,d,e,hc,if_true,if_false,reduceIte,and_true,true_and,and_false,false_and]<;>(repeat' split)<;>first| (exfalso;omega)| (simp;done)| (simp;omega)
end
attribute [go_sem] Xx Yf Xh Wo Sl Ss Nu true_or or_true
def en:List (Nat×D)->Env
 | []=>Env.nil
 | (t,d)::l=>(en l).set t d
theorem Yk:en []=Env.nil:=rfl
theorem Ru{t:Nat}{d:D}{l:List (Nat×D)}:en ((t,d)::l)=(en l).set t d:=rfl
def hp:List (Nat×bM)->aA
 | []=>aA.nil
 | (i,o)::l=>(hp l).set i o
theorem Yq:hp []=aA.nil:=rfl
theorem Sy{i:Nat}{o:bM}{l:List (Nat×bM)}:hp ((i,o)::l)=(hp l).set i o:=rfl
def DV.imm:DV->Bool
 | .c d=>d.eS
 | .agg a=>a.all D1.eS
def D.imm:D->Bool
 | .one x=>x.imm
 | .tup xs=>xs.all DV.imm
 | .dead=>false
section
variable{P:Program}{H G:aA}{F:Nat -> Prop}{σ:Nat -> Nat}{nx nh:Nat}{e e':Env}
theorem sv{τ:Nat->Nat}{d:D1}(h:d.eS=true):rn1 τ d=d:=by cases d<;>first|rfl|cases h
theorem Fl{τ:Nat->Nat}{d:DV}(h:d.imm=true):rnV τ d=d:=by
 cases d with
 |c d=>simp only[rnV];rw[sv h]
 |agg a=>
  simp only[rnV];congr 1;have b:=abX.1 h;conv=>rhs;rw[<-adV a]
  exact acT fun x e=>sv (b x e)
theorem sx{τ:Nat->Nat}{d:D}(h:d.imm=true):rnD τ d=d:=by
 cases d with
 |one x=>simp only[rnD];rw[Fl h]
 |dead=>rfl
 |tup xs=>
  simp only[rnD];congr 1;have a:=abX.1 h;conv=>rhs;rw[<-adV xs]
  exact acT fun x b=>Fl (a x b)
theorem Ob{d:DV}(h:d.imm=true):CvV H F σ nh d d:=by
 cases d with
 |c d=>exact bE h
 |agg b=>exact w7 fun x a=>abX.1 h x a
theorem aF{d:D}(h:d.imm=true):CvD H F σ nh d d:=by
 cases d with
 |one x=>exact Ob h
 |dead=>trivial
 |tup xs=>refine⟨rfl,fun i a b c e=> ?_⟩;rw[c] at e;cases e;exact Ob (abX.1 h a (abV c))
theorem aC.fresh{f:FuncId}{args:List D}{K:afC}{R:D->Prop}(h:aC P f args .nil 0 fun r _ n=>n=0/\r.imm=true/\R r)(a:args.all D.imm=true)(e: ∀r,R r->K r H nx):aC P f args H nx K:=by
 refine aC.lift h id rfl (fun i g d b c=> ?_) XS (fun i hi=>absurd hi (acC i)) (fun i j hi=>absurd hi (acC i)) fun r H' n' _ ⟨b,c,k⟩=> ?_;·rw[b] at c;cases c;exact aF (abX.1 a g (abV b))
 ·subst b;rw[sx c];exact e r k
theorem KX{Q:AQ}{rs:List aW}{R:D->Prop}(e: ∀ex b H2 a d nh d2 f F σ,ex=AEx.normal\/ex=AEx.ret->mT H2 b rs=some d->CvR 0 d H2 nh d2 f F σ->(nh=0/\d2.imm=true/\R d2)->Q ex b H2 a)
 {b:Env} {H2:aA} {a:Nat} (c d:D) (g:mT H2 b rs=some d) (h:CvD H2 (fun _=>True) id 0 c d) (i:c.imm=true) (j:R c):Q .ret b H2 a:=
 e _ _ _ _ d 0 c .nil (fun _=>True) id (.inr rfl) g ⟨abG _,fun _ _=>rfl,h,XS⟩ ⟨rfl,i,j⟩
def su(n:Nat)(rows:List (List D1)):Prop:=∀r∈rows,r.length=n/\ ∀x∈r,x.eS=true
variable{n:Nat}
theorem aN{α:Type}{enc:α->List D1}(h: ∀x,(enc x).length=n/\(enc x).all D1.eS=true)(l:List α):su n (l.map enc):=by intro r hr;obtain⟨x,_,rfl⟩:=abP.1 hr;exact⟨(h x).1,abX.1 (h x).2⟩
variable{rows:List (List D1)}{len cap:Nat}
theorem Gm{id:Nat}{o:bM}(hi:su n rows)(hl:len=rows.length)(d:F id)(e:H id=some o)(f:o.n=n)(hr:o.rows.take rows.length=rows)(hc:rows.length<=cap):Cv1 H F σ nh (.isl rows) (.osl n id 0 len cap):=by
 subst hl;have hle:rows.length<=o.rows.length:=by have:=congrArg List.length hr;rw[ab5] at this;omega
 have g: ∀i:Nat,∀r',rows[i]?=some r'->o.rows[i]?=some r':=by
  intro i r' h;rw[<-hr,acM] at h;split at h;·exact h
  ·cases h
 refine .frz (.frz rows n id 0 cap o (fun i j=>((rows[i]?.getD [])[j]?).getD .dead) d e f (by omega) hc (fun i r' h=>(hi r' (abV h)).1) (fun i j r' c a b=>⟨r',by rw[acS];exact g i r' a,by rw[a];simp[b]⟩) fun i j r' c a b=> ?_);rw[a];simp only[Option.getD_some,b];exact .same c ((hi r' (abV a)).2 c (abV b))
theorem vZ{n id off:Nat}:Cv1 H F σ nh (.isl []) (.osl n id off 0 0):=.frz (.nil n id off)
theorem r9{n id d off a len b cap c:Nat}(h:d<nh)(hs:σ d=id)(e:a=off)(f:b=len)(g:c=cap):Cv1 H F σ nh (.osl n d a b c) (.osl n id off len cap):=by subst e;subst f;subst g;exact vj h hs
theorem DO{id:Nat}{o:bM}(hi:su n rows)(hl:len=rows.length)(a:F id)(b:H id=some o)(d:o.n=n)(hr:o.rows.take rows.length=rows)(hc:rows.length<=cap):CvD H F σ nh (dS rows) (.one (.c (.osl n id 0 len cap))):=Gm hi hl a b d hr hc
theorem EZ{id e off a b d:Nat}(h:e<nh)(hs:σ e=id)(f:a=off)(g:b=len)(i:d=cap):CvD H F σ nh (.one (.c (.osl n e a b d))) (.one (.c (.osl n id off len cap))):=r9 h hs f g i
theorem AO{id a row b:Nat}(h:a<nh)(hs:σ a=id):CvD H F σ nh (.one (.c (.ptr n a row b))) (.one (.c (.ptr n id row b))):=sr h hs
theorem ye{f:FuncId}{caps:List D1}(h:caps.all D1.eS=true):Cv1 H F σ nh (.clo f caps) (.clo f caps):=
 .clo f caps caps rfl fun i x y a b=>by rw[a] at b;cases b;have:=abX.1 h x (abV a);exact .inl ⟨this,.same x this⟩
theorem lI{f:FuncId}{caps:List D1}(h:caps.all D1.eS=true):CvD H F σ nh (.one (.c (.clo f caps))) (.one (.c (.clo f caps))):=ye h
def Ny(H:aA)(F:Nat->Prop):List D1->List D1->Prop
 | [],[]=>True
 |x::xs,y::ys=>(x.eS=true/\Frz H F x y)/\Ny H F xs ys
 |_,_=>False
theorem JE: ∀{xs ys:List D1},Ny H F xs ys->xs.length=ys.length/\ ∀(i:Nat) (x y:D1),xs[i]?=some x->ys[i]?=some y->x.eS=true/\Frz H F x y
 | [],[],_=>⟨rfl,fun i x y h=>by simp at h⟩
 |a::xs,b::ys,h=>⟨by simp[(JE h.2).1],fun i x y c d=>by
  match i with
  |0=>simp at c d;subst c;subst d;exact h.1
  |i+1=>exact(JE h.2).2 i x y (by simpa using c) (by simpa using d)⟩
 | [],_::_,h=>h.elim
 |_::_,[],h=>h.elim
theorem XX{f:FuncId}{a caps:List D1}(h:Ny H F a caps):CvD H F σ nh (.one (.c (.clo f a))) (.one (.c (.clo f caps))):=
 .clo f caps a (JE h).1 fun i x y b d=>.inl ((JE h).2 i x y b d)
theorem FP{cells:List D1}{id:Nat}{o:bM}(hi:cells.all D1.eS=true)(b:F id)(c:H id=some o)(d:o.n=n)(hr:o.rows[0]?=some cells):(D1.fF cells).eS=true/\Frz H F (.fF cells) (.ptr n id 0 0):=
 ⟨rfl,.ptr cells n id 0 0 o cells (fun j=>(cells[j]?).getD .dead) b c d hr (fun j a h=>by simp[h]) (fun j a h=>by
  simp only[h,Option.getD_some]
  exact .same a (abX.1 hi a (abV h)))⟩
theorem Ap{cells:List D1}{n id:Nat}{o:bM}(hi:cells.all D1.eS=true)(a:F id)(b:H id=some o)(d:o.n=n)(hr:o.rows[0]?=some cells):CvD H F σ nh (.one (.c (.fF cells))) (.one (.c (.ptr n id 0 0))):=
 .frz (FP hi a b d hr).2
theorem bF(hle:nx<=nh)(h:CvE H (fun _=>True) id nh e' e): ∃F σ,Cv nx e H nh e' .nil F σ:=⟨fun _=>True,id,hle,fun _ _=>rfl,h,XS⟩
def Vo(H:aA):List D->List D->Prop
 | [],[]=>True
 |a::l0,d::l=>CvD H (fun _=>True) id 0 a d/\Vo H l0 l
 |_,_=>False
theorem aK: ∀{l0 l:List D},Vo H l0 l->∀(i:Nat) (c d:D),l0[i]?=some c->l[i]?=some d->CvD H (fun _=>True) id 0 c d
 | [],[],_,i,c,d,e,_=>by simp at e
 |a::l0,b::l,h,i,c,d,e,f=>by
  match i with
  |0=>simp at e f;subst e;subst f;exact h.1
  |i+1=>exact aK h.2 i c d (by simpa using e) (by simpa using f)
 | [],_::_,h,_,_,_,_,_=>h.elim
 |_::_,[],h,_,_,_,_,_=>h.elim
theorem pL{α:Type}{enc:α->List D1}{l:List α}{id m:Nat}(he: ∀x,(enc x).length=n/\(enc x).all D1.eS=true)(a:H id=some ⟨n,m,l.map enc⟩)(hl:len=l.length)(hc:l.length<=cap)(b:F id):CvD H F σ nh (dS (l.map enc)) (.one (.c (.osl n id 0 len cap))):=DO (aN he l) (by simp[hl]) b a rfl (abM (abG _)) (by simp;omega)
theorem nN{t:Nat}{d:D}{l:List (Nat×D)}(h:CvE H F σ nh (en l) e)(a:CvD H F σ nh d (e t)):CvE H F σ nh (en ((t,d)::l)) e:=Um h a
theorem Ab:CvE H F σ nh (en []) e:=fun _=>trivial
def sgL(nx:Nat)(s:List Nat)(i:Nat):Nat:=if i<nx then i else (s[i-nx]?).getD i
def OkO(H:aA)(F:Nat->Prop)(σ:Nat->Nat)(nh:Nat):List (Nat×bM)->Prop
 | []=>True
 |p::l=>(p.1<nh/\ ¬F (σ p.1)/\ ∃o,H (σ p.1)=some o/\CvO H F σ nh p.2 o)/\OkO H F σ nh l
theorem ta: ∀{l:List (Nat×bM)} {i:Nat} {o:bM},hp l i=some o->(i,o)∈l
 | [],i,o,h=>by simp[hp,aA.nil] at h
 | (j,p)::l,i,o,h=>by
   simp only[hp,aA.set] at h;split at h;·rename_i hi;cases h;subst hi;simp
   ·exact acL _ (ta h)
theorem Fv: ∀{l:List (Nat×bM)},OkO H F σ nh l->∀p∈l,p.1<nh/\ ¬F (σ p.1)/\ ∃o,H (σ p.1)=some o/\CvO H F σ nh p.2 o
 | [],_,p,hp=>by simp at hp
 |q::l,h,p,hp=>by
  rcases abQ.1 hp with rfl|hp;·exact h.1
  ·exact Fv h.2 p hp
variable{l:List (Nat×bM)}
theorem Lq(h:(l.map fun p=>σ p.1).Nodup){p q:Nat×bM}(d:p∈l)(e:q∈l)(he:σ p.1=σ q.1):p=q:=by
 induction l with
 |nil=>simp at d
 |cons a l f=>
  simp only[abZ,acO] at h;rcases abQ.1 d with b|b<;>rcases abQ.1 e with c|c;·rw[b,c]
  ·subst b;exact absurd (abP.2 ⟨q,c,he.symm⟩:σ p.1∈l.map fun p=>σ p.1) h.1
  ·subst c;exact absurd (abP.2 ⟨p,b,he⟩:σ q.1∈l.map fun p=>σ p.1) h.1
  ·exact f h.2 b c
theorem Q2(h:OkO H F σ nh l)(b:(l.map fun p=>σ p.1).Nodup):CvH H F σ nh (hp l):=⟨fun id o' a=>Fv h _ (ta a),fun i j o o' hi c he=>congrArg Prod.fst (Lq b (ta hi) (ta c) he)⟩
theorem eM(s:List Nat)(hle:nx<=nh)(a:CvE H (· ∉s) (sgL nx s) nh e' e)(b:OkO H (· ∉s) (sgL nx s) nh l)(c:(l.map fun p=>sgL nx s p.1).Nodup): ∃F σ,Cv nx e H nh e' (hp l) F σ:=⟨_,_,hle,fun i hi=>by simp[sgL,hi],a,Q2 b c⟩
theorem jT{d a:D}(s:List Nat)(hle:nx<=nh)(b:CvD H (· ∉s) (sgL nx s) nh a d)(c:OkO H (· ∉s) (sgL nx s) nh l)(e:(l.map fun p=>sgL nx s p.1).Nodup):CvR nx d H nh a (hp l) (· ∉s) (sgL nx s):=⟨hle,fun i hi=>by simp[sgL,hi],b,Q2 c e⟩
theorem cD{m b:Nat}{a:List (List D1)}(hi:su n a)(h:a=rows)(hm:b=m):CvO H F σ nh ⟨n,b,a⟩ ⟨n,m,rows⟩:=by subst h;subst hm;exact eD fun r hr=>(hi r hr).2
theorem aJ.Ph{P:Program}{T:Nat}{e:Env}{H:aA}{nx:Nat}{Q:AQ}{x:AC}{zs:List AC}{α:Type}(m:Nat)(E:Nat->α->Env)(G:Nat->α->aA)(μ:α->Nat)(a:α)(c: ∃F σ,Cv nx e H (nx+m) (E nx a) (G nx a) F σ)
 (h: ∀u,∀K:Env->aA->Nat->Prop,(∀e' H' nx' b,nx+m<=nx'->μ b<μ u->(∃F σ,Cv nx e' H' (nx+m) (E nx b) (G nx b) F σ)->K e' H' nx')->aJ P T [x] (E nx u) (G nx u) (nx+m) (AQ.then K Q)):aJ P T (.loop x::zs) e H nx Q:=
 aJ.loop (E nx) (G nx) (nx+m) μ a c h
end
attribute [go_sem] Wi Mo Jj Eu Ku Aq Gw Pt Zo Zq Pr Mn Li Ox Xg Ua Vg Sf Va Kx Cg Yb Nd Tq Un ue uk abQ acG or_false false_or or_self Ks Qv Hj Nl Qh Up abM List.length_range List.length_replicate Qz Yx Jr Bz aaV Zb We Wy Wj Xo Xs Wn abB aaU aa1 Rx Nz Yk Ru Yq Sy aH gt_iff_lt ge_iff_le Int.reduceEq Int.reduceNe Int.reduceLT Int.reduceLE Int.reduceAdd Int.reduceSub Int.reduceMul Int.reduceNeg decide_true decide_false Int.toNat_natCast aeJ Bool.not_false not_true_eq_false not_false_eq_true ac5 abL Nat.reduceMul Nat.reduceSub Nat.reduceLT Int.reduceToNat
section
variable{P:Program}{H G:aA}{F:Nat -> Prop}{σ:Nat -> Nat}{nx nh:Nat}{e e':Env}
def l9(o:bM):Prop:=∀r∈o.rows,∀x∈r,x.eS=true
theorem sZ{τ:Nat->Nat}{o:bM}(h:l9 o):o.rn τ=o:=by
 unfold bM.rn;congr 1;conv=>rhs;rw[<-adV o.rows]
 refine acT fun r hr=> ?_;conv=>rhs;rw[<-adV r]
 exact acT fun x a=>sv (h r hr x a)
theorem aA.Xn{i:Nat}{o:bM}:H.upd i (some o)=H.set i o:=rfl
theorem aC.LD{f:FuncId}{args0 args:List D}{K:afC}{o:bM}{R:D->bM->Prop}(i:Nat)(h:aC P f args0 (hp [(0,o)]) 1 fun r H' n'=>n'=1/\ ∃o',H'=hp [(0,o')]/\l9 o'/\R r o')(hlen:args.length=args0.length)
 (a: ∀(j:Nat) (c d:D),args0[j]?=some c->args[j]?=some d->CvD H (fun _=>False) (fun _=>i) 1 c d) (hi:i<nx) (g:H i=some o) (b:l9 o) (l: ∀r o',R r o'->K (rnD (tau 1 nx fun _=>i) r) (H.set i o') nx):aC P f args H nx K:=by
 refine aC.lift h (fun _=>i) hlen a (Q2 ⟨⟨Nat.zero_lt_one,fun h=>h,o,g,eD b⟩,trivial⟩ (by simp)) (fun j _=>hi) (fun j k s t _=>by omega) fun r H' n' hle ⟨m,o',n,p,q⟩=> ?_
 subst m;subst n
 have e:back (tau 1 nx fun _=>i) (hp [(0,o')]) 1 H=H.set i o':=by
  simp only[back,hp,aA.set,Option.map_some,sZ p,aA.Xn,if_true];have:tau 1 nx (fun _=>i) 0=i:=by simp[tau]
  rw[this]
 rw[e]
 exact l r o' q
theorem aC.Zz{f:FuncId}{args0 args:List D}{K:afC}{m n:bM}{R:D->bM->bM->Prop}(i j:Nat)(h:aC P f args0 (hp [(0,m),(1,n)]) 2 fun r H' n'=>n'=2/\ ∃c g,H'=hp [(0,c),(1,g)]/\l9 c/\l9 g/\R r c g)(hlen:args.length=args0.length)
 (l: ∀(k:Nat) (s d:D),args0[k]?=some s->args[k]?=some d->CvD H (fun _=>False) (fun k=>if k=0 then i else j) 2 s d) (hi:i<nx) (E:j<nx) (o:i≠j) (p:H i=some m) (q:H j=some n) (v:l9 m) (w:l9 n)
 (x: ∀r c g,R r c g->K (rnD (tau 2 nx fun k=>if k=0 then i else j) r) ((H.set i c).set j g) nx):aC P f args H nx K:=by
 refine aC.lift h (fun k=>if k=0 then i else j) hlen l (Q2 ⟨⟨by simp,fun h=>h,m,by simpa using p,eD v⟩,⟨by simp,fun h=>h,n,by simpa using q,eD w⟩,trivial⟩ (by simpa using o)) (fun k _=>by split<;>assumption) (fun a b F G he=> ?_) fun r H' n' hle ⟨y,c,g,z,t,u,A⟩=> ?_
 ·split at he<;>split at he<;>omega
 subst y;subst z
 have e:back (tau 2 nx fun k=>if k=0 then i else j) (hp [(0,c),(1,g)]) 2 H=(H.set i c).set j g:=by
  have B:tau 2 nx (fun k=>if k=0 then i else j) 0=i:=by simp[tau]
  have C:tau 2 nx (fun k=>if k=0 then i else j) 1=j:=by simp[tau]
  simp only[back,hp,aA.set,B,C,Option.map_some,sZ t,sZ u,if_true,acS];simp only[Nat.zero_ne_one,adK,if_false,Option.map_some,sZ t,sZ u];rfl
 rw[e]
 exact x r c g A
theorem jS{Q:AQ}{rs:List aW}{R:D->bM->Prop}(g: ∀ex b H2 a d nh d2 e F σ,ex=AEx.normal\/ex=AEx.ret->mT H2 b rs=some d->CvR 1 d H2 nh d2 e F σ->(nh=1/\ ∃o',e=hp [(0,o')]/\l9 o'/\R d2 o')->Q ex b H2 a)
 {b:Env} {H2:aA} {a:Nat} (c d:D) (o':bM) (j:mT H2 b rs=some d) (k:CvD H2 (fun i=>i≠0) id 1 c d) (l:H2 0=some o') (f:l9 o') (m:R c o'):Q .ret b H2 a:=
 g _ _ _ _ d 1 c (hp [(0,o')]) (fun i=>i≠0) id (.inr rfl) j ⟨abG _,fun _ _=>rfl,k,Q2 ⟨⟨Nat.zero_lt_one,fun h=>h rfl,o',l,eD f⟩,trivial⟩ (by simp)⟩ ⟨rfl,o',rfl,f,m⟩
theorem Oi{Q:AQ}{rs:List aW}{R:D->bM->bM->Prop}(m: ∀ex g H2 a d nh d2 j F σ,ex=AEx.normal\/ex=AEx.ret->mT H2 g rs=some d->CvR 2 d H2 nh d2 j F σ->(nh=2/\ ∃b c,j=hp [(0,b),(1,c)]/\l9 b/\l9 c/\R d2 b c)->Q ex g H2 a)
 {g:Env} {H2:aA} {a:Nat} (h d:D) (e f:bM) (n:mT H2 g rs=some d) (o:CvD H2 (fun i=>2<=i) id 2 h d) (p:H2 0=some e) (q:H2 1=some f) (k:l9 e) (l:l9 f) (r:R h e f):Q .ret g H2 a:=
 m _ _ _ _ d 2 h (hp [(0,e),(1,f)]) (fun i=>2<=i) id (.inr rfl) n ⟨abG _,fun _ _=>rfl,o,Q2 ⟨⟨by simp,by simp,e,p,eD k⟩,⟨by simp,by simp,f,q,eD l⟩,trivial⟩ (by simp)⟩ ⟨rfl,e,f,rfl,k,l,r⟩
theorem fB{α:Type}{enc:α->List D1}{n m:Nat}(h: ∀x,(enc x).length=n/\(enc x).all D1.eS=true)(l:List α):l9 ⟨n,m,l.map enc⟩:=fun r hr=>(aN h l r hr).2
theorem BG{τ:Nat->Nat}{d:D}{A:D->Prop}(h:d.imm=true)(a:A d):A (rnD τ d):=by rw[sx h];exact a
def Ul(H:aA)(τ:Nat->Nat)(n:Nat):List D->List D->Prop
 | [],[]=>True
 |a::l0,d::l=>CvD H (fun _=>False) τ n a d/\Ul H τ n l0 l
 |_,_=>False
theorem eF{τ:Nat->Nat}{n:Nat}: ∀{l0 l:List D},Ul H τ n l0 l->∀(i:Nat) (c d:D),l0[i]?=some c->l[i]?=some d->CvD H (fun _=>False) τ n c d
 | [],[],_,i,c,d,e,_=>by simp at e
 |a::l0,b::l,h,i,c,d,e,f=>by
  match i with
  |0=>simp at e f;subst e;subst f;exact h.1
  |i+1=>exact eF h.2 i c d (by simpa using e) (by simpa using f)
 | [],_::_,h,_,_,_,_,_=>h.elim
 |_::_,[],h,_,_,_,_,_=>h.elim
end
section
variable{P:Program}{T:Nat}{e:Env}{H:aA}{nx:Nat}{Q:AQ}
theorem AWP.join{x y:AC}{α:Type}(nh:Nat)(E:α->Env)(G:α->aA)(r:AWP P T x e H nx (AQ.then (fun e' H' _=>∃u,∃F σ,Cv nx e' H' nh (E u) (G u) F σ) Q))(s: ∀u,AWP P T y (E u) (G u) nh Q):AWP P T (.seq x y) e H nx Q:=by
 intro code hc c a hs he l
 cases hc with
 |seq t v=>
  refine wp_seq (wp_mono (r _ t c a hs he l) fun ex w K ⟨d,e',H',nx',c',hp⟩=> ?_);obtain⟨rfl,rfl,f,g,j,k,m,b⟩:=hp
  cases d with
  |normal=>
   simp only[AQ.then] at b;obtain⟨u,F,σ,q⟩:=b;obtain⟨c2,z,A,B,C,n⟩:=q.sound f g l j
   have o:=s u _ v c2 w A B fun i hi=>by
    rcases n i hi with h|h;·have:=q.le;omega
    ·exact h.2
   rw[z] at o;refine wp_mono o fun ex D I J=>J.lift C (fun i hi=> ?_) q.le fun _ _ _ _ _ h=>h;rcases n i hi with h|h
   ·rcases k i h.1 with p|p;·exact .inl p
    ·omega
   ·exact .inr h
  |exit id=>exact⟨.exit id,e',H',nx',c',rfl,rfl,f,g,j,k,m,b⟩
  |ret=>exact⟨.ret,e',H',nx',c',rfl,rfl,f,g,j,k,m,b⟩
theorem aJ.join{x y:AC}{zs:List AC}{α:Type}(m:Nat)(E:Nat->α->Env)(G:Nat->α->aA)
 (b: ∀K:Env->aA->Nat->Prop,(∀e' H' nx' u,(∃F σ,Cv nx e' H' (nx+m) (E nx u) (G nx u) F σ)->K e' H' nx')->aJ P T [x] e H nx (AQ.then K Q))
 (c: ∀u,aJ P T (y::zs) (E nx u) (G nx u) (nx+m) Q):aJ P T (.seq x y::zs) e H nx Q:=by
 refine AWP.join (nx+m) (E nx) (G nx) (AWP.mono (b _ (fun e' H' nx' u h=>(⟨u,h⟩: ∃u,∃F σ,Cv nx e' H' (nx+m) (E nx u) (G nx u) F σ))).run fun ex e' H' nx' _ a=> ?_) c
 cases ex with
 |normal=>exact a
 |exit i=>exact a
 |ret=>exact a
theorem aJ.B2{x:AC}{zs:List AC}{β:Type}(m:Nat)(E:Nat->β->Env)(G:Nat->β->aA)(I:β->Prop)(μ:β->Nat)(v0:β)(c: ∃F σ,Cv nx e H (nx+m) (E nx v0) (G nx v0) F σ)(hi:I v0)
 (h: ∀v,I v->∀K:Env->aA->Nat->Prop,(∀e' H' nx' a,nx+m<=nx'->(∃F σ,Cv nx e' H' (nx+m) (E nx a) (G nx a) F σ)->I a->μ a<μ v->K e' H' nx')->aJ P T [x] (E nx v) (G nx v) (nx+m) (AQ.then K Q)):aJ P T (.loop x::zs) e H nx Q:=
 aJ.Ph (α:={v:β//I v}) m (fun b u=>E b u.1) (fun b u=>G b u.1) (fun u=>μ u.1) ⟨v0,hi⟩ c fun u K d=>h u.1 u.2 K fun e' H' nx' a f g i j=>d e' H' nx' ⟨a,i⟩ f j g
theorem Xf{H:aA}{F:Nat->Prop}{σ:Nat->Nat}{nh:Nat}{a b:D1}(h:Cv1 H F σ nh a b):Cv1 H F σ nh a b:=h
theorem Xl{H:aA}{F:Nat->Prop}{σ:Nat->Nat}{nh:Nat}{a b:D}(h:CvD H F σ nh a b):CvD H F σ nh a b:=h
theorem Zw{H:aA}{F:Nat->Prop}{σ:Nat->Nat}{nh:Nat}{a b:D1}(h:a=b)(hi:a.eS=true):Cv1 H F σ nh a b:=h▸bE hi
theorem cP{H:aA}{F:Nat->Prop}{σ:Nat->Nat}{nh:Nat}{α:Type}{enc:α->List D1}{l:List α}{n id len cap m:Nat}(he: ∀x,(enc x).length=n/\(enc x).all D1.eS=true)(a:H id=some ⟨n,m,l.map enc⟩)(hl:len=l.length)(hc:l.length<=cap)(b:F id):Cv1 H F σ nh (.isl (l.map enc)) (.osl n id 0 len cap):=Gm (aN he l) (by simp[hl]) b a rfl (abM (abG _)) (by simp;omega)
def kpm(b:Nat)(l:List Nat)(H:aA):aA:=fun i=>if i∈l.map (b+ ·) then H i else none
variable{b i:Nat}{l:List Nat}{o:bM}{G:aA}
theorem Pw:msk b l (H.set i o)=if i∈l.map (b+ ·) then msk b l H else (msk b l H).set i o:=by
 split
 ·rename_i h;funext j;simp only[msk,aA.set];by_cases a:j=i;·subst a;simp only[h,if_true]
  ·simp only[a,if_false]
 ·rename_i h;funext j;simp only[msk,aA.set];by_cases a:j=i;·subst a;simp only[h,if_true,if_false]
  ·simp only[a,if_false]
theorem Rc:msk b l aA.nil=aA.nil:=by funext j;simp only[msk,aA.nil];split<;>rfl
theorem Ue:msk b l (H.del i)=(msk b l H).del i:=by funext j;simp only[msk,aA.del];split<;>split<;>rfl
theorem Tc:kpm b l (H.set i o)=if i∈l.map (b+ ·) then (kpm b l H).set i o else kpm b l H:=by
 split
 ·rename_i h;funext j;simp only[kpm,aA.set];by_cases a:j=i;·subst a;simp only[h,if_true]
  ·simp only[a,if_false]
 ·rename_i h;funext j;simp only[kpm,aA.set];by_cases a:j=i;·subst a;simp only[h,if_false]
  ·simp only[a,if_false]
theorem Me:kpm b l aA.nil=aA.nil:=by funext j;simp only[kpm,aA.nil];split<;>rfl
theorem Ae:dF b l H aA.nil=kpm b l H:=by funext j;simp only[dF,kpm,aA.nil]
theorem By:dF b l H (G.set i o)=if i∈l.map (b+ ·) then dF b l H G else (dF b l H G).set i o:=by
 split
 ·rename_i h;funext j;simp only[dF,aA.set];by_cases a:j=i;·subst a;simp only[h,if_true]
  ·simp only[a,if_false]
 ·rename_i h;funext j;simp only[dF,aA.set];by_cases a:j=i;·subst a;simp only[h,if_true,if_false]
  ·simp only[a,if_false]
theorem Ja:dF b l H (G.del i)=if i∈l.map (b+ ·) then dF b l H G else (dF b l H G).del i:=by
 split
 ·rename_i h;funext j;simp only[dF,aA.del];by_cases a:j=i;·subst a;simp only[h,if_true]
  ·simp only[a,if_false]
 ·rename_i h;funext j;simp only[dF,aA.del];by_cases a:j=i;·subst a;simp only[h,if_true,if_false]
  ·simp only[a,if_false]
variable{a c:bM}
theorem EX{H:aA}{i j:Nat}(h: ¬i=j):(H.set i a).set j c=(H.set j c).set i a:=by
 funext k;simp only[aA.set];by_cases d:k=j;·subst d;rw[if_pos rfl,if_neg (fun b=>h b.symm),if_pos rfl]
 ·rw[if_neg d];by_cases b:k=i;·rw[if_pos b,if_pos b]
  ·rw[if_neg b,if_neg b,if_neg d]
variable{j0:Nat}{b0:bM}
theorem Py{H:aA}{i:Nat}(b: ¬j0=i):((H.set i a).set j0 b0).set i c=((H.set i c).set j0 b0):=by rw[EX b,aA.set_set]
variable{j1:Nat}{b1:bM}
theorem Qw{H:aA}{i:Nat}(b: ¬j0=i)(d: ¬j1=i):(((H.set i a).set j0 b0).set j1 b1).set i c=(((H.set i c).set j0 b0).set j1 b1):=by rw[EX d,Py b]
variable{j2:Nat}{b2:bM}
theorem Om{H:aA}{i:Nat}(b: ¬j0=i)(d: ¬j1=i)(e: ¬j2=i):((((H.set i a).set j0 b0).set j1 b1).set j2 b2).set i c=((((H.set i c).set j0 b0).set j1 b1).set j2 b2):=by rw[EX e,Qw b d]
theorem Nf{H:aA}{i b:Nat}{d:bM}(e: ¬j0=i)(f: ¬j1=i)(g: ¬j2=i)(h: ¬b=i):(((((H.set i a).set j0 b0).set j1 b1).set j2 b2).set b d).set i c=(((((H.set i c).set j0 b0).set j1 b1).set j2 b2).set b d):=by rw[EX h,Om e f g]
theorem Ni{H:aA}{i b d:Nat}{e f:bM}(g: ¬j0=i)(h: ¬j1=i)(j: ¬j2=i)(k: ¬b=i)(l: ¬d=i):((((((H.set i a).set j0 b0).set j1 b1).set j2 b2).set b e).set d f).set i c=((((((H.set i c).set j0 b0).set j1 b1).set j2 b2).set b e).set d f):=by rw[EX l,Nf g h j k]
theorem Mh{H:aA}{i b d e:Nat}{f g h:bM}(j: ¬j0=i)(k: ¬j1=i)(l: ¬j2=i)(m: ¬b=i)(n: ¬d=i)(o: ¬e=i):(((((((H.set i a).set j0 b0).set j1 b1).set j2 b2).set b f).set d g).set e h).set i c=(((((((H.set i c).set j0 b0).set j1 b1).set j2 b2).set b f).set d g).set e h):=by rw[EX o,Ni j k l m n]
theorem Wd{H:aA}{i b d e f:Nat}{g h j k:bM}(l: ¬j0=i)(m: ¬j1=i)(n: ¬j2=i)(o: ¬b=i)(p: ¬d=i)(q: ¬e=i)(r: ¬f=i):((((((((H.set i a).set j0 b0).set j1 b1).set j2 b2).set b g).set d h).set e j).set f k).set i c=((((((((H.set i c).set j0 b0).set j1 b1).set j2 b2).set b g).set d h).set e j).set f k):=by rw[EX r,Mh l m n o p q]
theorem Vi{i:Nat}:aA.nil.del i=aA.nil:=by funext k;simp only[aA.del,aA.nil];split<;>rfl
theorem Es{H:aA}{i:Nat}:(H.set i a).del i=H.del i:=by funext k;simp only[aA.set,aA.del];split<;>rfl
theorem Dh{H:aA}{i j:Nat}(h: ¬i=j):(H.set j a).del i=(H.del i).set j a:=by
 funext k;simp only[aA.set,aA.del];by_cases b:k=i;·subst b;simp[h]
 ·simp[b]
end
attribute [go_sem] Py Qw Om Nf Ni Mh Wd Vi Es Dh Nat.reduceLT Pw Rc Ue Tc Me Ae By Ja
def nth(s:List Nat)(i:Nat):Nat:=s[i]?.getD 0
section
variable{P:Program}{H:aA}{nx:Nat}{τ:Nat -> Nat}{H0:aA}
theorem aC.JG{f:FuncId}{args0 args:List D}{K:afC}{l0:List (Nat×bM)}{R:afC}(s:List Nat)(h:aC P f args0 (hp l0) s.length R)(hlen:args.length=args0.length)
 (a:Ul H (nth s) s.length args0 args) (b:OkO H (fun _=>False) (nth s) s.length l0) (c:(l0.map fun p=>nth s p.1).Nodup) (hs: ∀x∈s,x<nx) (d:s.Nodup)
 (e: ∀r H' n',s.length<=n'->R r H' n'->K (rnD (tau s.length nx (nth s)) r) (back (tau s.length nx (nth s)) H' n' H) (nx+(n'-s.length))):aC P f args H nx K:=
 aC.lift h (nth s) hlen (eF a) (Q2 b c) (fun i hi=>by rw[nth,abO hi];exact hs _ (adB hi))
   (fun i j hi g he=>by
    rw[nth,nth,abO hi,abO g,Option.getD_some,Option.getD_some] at he
    exact(List.getElem_inj d).1 he) e
theorem aC.Xe{f:FuncId}{args0 args:List D}{K:afC}{R:D->Prop}(h:aC P f args0 .nil 0 fun r _ n=>n=0/\r.imm=true/\R r)(hlen:args.length=args0.length)(a:Ul H (nth []) 0 args0 args)(b: ∀r,R r->K r H nx):aC P f args H nx K:=by refine aC.JG (l0:=[]) [] h hlen a trivial (by simp) (by simp) (by simp) fun r H' n' _ ⟨c,d,e⟩=> ?_;subst c;rw[sx d];exact b r e
theorem EG{n m:Nat}{l:List Int}:bM.rn τ ⟨n,m,l.map aH⟩=⟨n,m,l.map aH⟩:=by refine sZ fun r hr x a=> ?_;obtain⟨y,_,rfl⟩:=abP.1 hr;simp only[aH,ab2] at a;subst a;rfl
theorem Za:back τ H0 2 H=(H.upd (τ 0) ((H0 0).map (bM.rn τ))).upd (τ 1) ((H0 1).map (bM.rn τ)):=rfl
theorem SB{F:Nat->Prop}{σ:Nat->Nat}{nh:Nat}{xs ys:List D1}(h:CvL H F σ nh xs ys):CvV H F σ nh (.agg xs) (.agg ys):=h
theorem Vt{F:Nat->Prop}{σ:Nat->Nat}{nh:Nat}{x y:D1}(h:Cv1 H F σ nh x y):CvV H F σ nh (.c x) (.c y):=h
theorem Qt{F:Nat->Prop}{σ:Nat->Nat}{nh:Nat}{a b x y:DV}(d:CvV H F σ nh a x)(e:CvV H F σ nh b y):CvD H F σ nh (.tup [a,b]) (.tup [x,y]):=
 ⟨rfl,fun i u v hu c=>by
  match i with
  |0=>simp at hu c;subst hu;subst c;exact d
  |1=>simp at hu c;subst hu;subst c;exact e
  |i+2=>simp at hu⟩
theorem Pc{F:Nat->Prop}{σ:Nat->Nat}{nh:Nat}{a b c x y z:DV}(e:CvV H F σ nh a x)(f:CvV H F σ nh b y)(g:CvV H F σ nh c z):CvD H F σ nh (.tup [a,b,c]) (.tup [x,y,z]):=
 ⟨rfl,fun i u v hu d=>by
  match i with
  |0=>simp at hu d;subst hu;subst d;exact e
  |1=>simp at hu d;subst hu;subst d;exact f
  |2=>simp at hu d;subst hu;subst d;exact g
  |i+3=>simp at hu⟩
theorem S5{i:Nat}:H.upd i none=H.del i:=rfl
end
section
variable{P:Program}{H:aA}{nx:Nat}
theorem ft{F:Nat->Prop}{σ:Nat->Nat}{nh n m c:Nat}{R a rows:List (List D1)}{r' r:List D1}(e':a=R++[r'])(e:rows=R++[r])(f: ∀r∈R,∀x∈r,x.eS=true)(hm:c=m)(h:CvL H F σ nh r' r):CvO H F σ nh ⟨n,c,a⟩ ⟨n,m,rows⟩:=by
 subst e';subst e;subst hm;refine⟨rfl,rfl,by simp,fun _ h=>by simp at h,fun i d b=> ?_⟩;simp only[ab7] at b ⊢;by_cases hi:i<R.length;·rw[if_pos hi] at b ⊢;exact⟨d,b,w7 fun x g=>f d (abV b) x g⟩
 ·rw[if_neg hi] at b ⊢;rw[ae2] at b ⊢;split at b;·rename_i j;cases b;exact⟨r,if_pos j,h⟩
  ·cases b
theorem I6{F:Nat->Prop}{σ:Nat->Nat}{nh:Nat}{x y:D1}(a:x.eS=true)(h:Cv1 H F σ nh x y):Frz H F x y:=by
 cases h with
 |frz h=>exact h
 |osl=>cases a
 |BL=>cases a
 |ptr=>cases a
 |omap=>cases a
 |clo=>cases a
 |dead=>cases a
variable{b ix:Nat}{live m s:List Nat}{L:List aZ}{dst:Option Nat}{e:Env}{S:fM}{xs:List aY}{lk:Bool}
theorem On{K:Env->aA->Nat->Prop}{neg:Bool}:wv P b live K (⟨ix,dst,.xop (.tY neg) xs,none,m,s,lk⟩::L) e H nx S=xl P (b+ix) (msk b m H) nx (O8 P b live K L dst m s e H S) (.tY neg) (xs.map (·.ev e)):=Af rfl
theorem Rj{K:Env->aA->Nat->Prop}{n:Nat}{z:List D1}:wv P b live K (⟨ix,dst,.xop (.clear n z) xs,none,m,s,lk⟩::L) e H nx S=xl P (b+ix) (msk b m H) nx (O8 P b live K L dst m s e H S) (.clear n z) (xs.map (·.ev e)):=Af rfl
theorem Rt{K:Env->aA->Nat->Prop}{kn:Nat}{bl:Bool}:wv P b live K (⟨ix,dst,.xop (.KY kn bl) xs,none,m,s,lk⟩::L) e H nx S=xl P (b+ix) (msk b m H) nx (O8 P b live K L dst m s e H S) (.KY kn bl) (xs.map (·.ev e)):=Af rfl
theorem Le{K:Env->aA->Nat->Prop}:wv P b live K (⟨ix,dst,.xop .y6 xs,none,m,s,lk⟩::L) e H nx S=xl P (b+ix) (msk b m H) nx (O8 P b live K L dst m s e H S) .y6 (xs.map (·.ev e)):=Af rfl
theorem Jx{K:Env->aA->Nat->Prop}{kn:Nat}{bl ok:Bool}:wv P b live K (⟨ix,dst,.xop (.uU kn bl ok) xs,none,m,s,lk⟩::L) e H nx S=xl P (b+ix) (msk b m H) nx (O8 P b live K L dst m s e H S) (.uU kn bl ok) (xs.map (·.ev e)):=Af rfl
theorem Iq{K:Env->aA->Nat->Prop}{kn:Nat}{bl:Bool}:wv P b live K (⟨ix,dst,.xop (.BY kn bl) xs,none,m,s,lk⟩::L) e H nx S=xl P (b+ix) (msk b m H) nx (O8 P b live K L dst m s e H S) (.BY kn bl) (xs.map (·.ev e)):=Af rfl
theorem Oz{F:Nat->Prop}{σ:Nat->Nat}{nh n m d:Nat}{R a rows:List (List D1)}{r' r:List D1}{i:Nat}(e':a=R)(e:rows=R.set i r)(hi:R[i]?=some r')(k: ∀r∈R,∀x∈r,x.eS=true)(hm:d=m)(h:CvL H F σ nh r' r):CvO H F σ nh ⟨n,d,a⟩ ⟨n,m,rows⟩:=by
 subst e';subst e;subst hm;refine⟨rfl,rfl,by simp,fun _ h=>by dsimp only at h ⊢;rw[h];rfl,fun j f b=> ?_⟩;simp only[adH];by_cases g:i=j;·subst g;have c:i<a.length:=(abN.1 b).1;rw[if_pos rfl,if_pos c];rw[hi] at b;cases b;exact⟨r,rfl,h⟩
 ·rw[if_neg g];exact⟨f,b,w7 fun x l=>k f (abV b) x l⟩
theorem aaP{α:Type}[Inhabited α]{enc:α->List D1}{l:List α}{k:Nat}(h:k<l.length):(l.map enc)[k]?=some (enc (l.getD k default)):=by simp[List.getD,h]
theorem aaW{c:Prop}[Decidable c]{A B:Prop}(a:c->A)(b: ¬c->B):if c then A else B:=by
 split;·exact a ‹_›
 ·exact b ‹_›
attribute [go_sem] On Rj Rt Le Jx Iq
end
theorem Sz{H:aA}{F:Nat->Prop}{σ:Nat->Nat}{nh n m d:Nat}{a rows junk:List (List D1)}(hi: ∀r∈a,∀x∈r,x.eS=true)(h:rows=a++junk)(hm:d=m)(b:n≠0):CvO H F σ nh ⟨n,d,a⟩ ⟨n,m,rows⟩:=by subst h;subst hm;refine⟨rfl,rfl,by simp,fun e _=>absurd e b,fun i r c=> ?_⟩;refine⟨r,?_,w7 fun x f=>hi r (abV c) x f⟩;rw[adC (abN.1 c).1];exact c
end Go.AM
namespace Go.AM
@[reducible,go_sem] def rq (t:Nat) (o:AOp) (i:Nat):aZ:=⟨i,some t,o,none,[],[],false⟩
@[reducible,go_sem] def rn (o:AOp) (i:Nat):aZ:=⟨i,none,o,none,[],[],false⟩
@[reducible,go_sem] def ki (n:Int):aY:=.kv (.int .i64 n)
@[reducible,go_sem] def RM (t a i:Nat):aZ:=rq t (.move (.tm a)) i
@[reducible,go_sem] def RF (t k a i:Nat):aZ:=rq t (.fld k (.tm a)) i
@[reducible,go_sem] def RL (t a i:Nat):aZ:=rq t (.load 1 false (.tm a)) i
@[reducible,go_sem] def RK (t a i:Nat):aZ:=rq t (.yT (.tm a)) i
@[reducible,go_sem] def GQ (t:Nat) (o:AOp) (g:Nat) (b:Bool) (i:Nat):aZ:=⟨i,some t,o,some (g,b),[],[],false⟩
@[reducible,go_sem] def VZ:D1:=.v (.int .i64 0)
@[reducible,go_sem] def OZ:D1:=.osl 0 0 0 0 0
def aR(P:Program)(f:FuncId)(fn:Func)(ac:AC)(rs:List aW):Prop:=
 ∀{args:List D} {H:aA} {nx:Nat} {b:afC} (_hl:Nat.ble args.length fn.ntmps=true)
  (_h: ∀Q:AQ,(∀ex c H2 a d nh d2 e F σ,ex= .normal\/ex= .ret->mT H2 c rs=some d->CvR nx d H2 nh d2 e F σ->b d2 e nh->Q ex c H2 a)->aJ P fn.ntmps [ac] (Env.args 0 args) H nx Q),aC P f args H nx b
theorem aR.mk{P:Program}{f:FuncId}{fn:Func}{ac:AC}{rs:List aW}{cs:List Cert}
 (b:P.funcs[f]?=some fn) (a:xG P f=true) (hc:aQ P fn cs=some (ac,rs)):aR P f fn ac rs:=
 fun hl h=>aC.body b a hc (ae3 hl) h
theorem dbT{p:Prop}[Decidable p](h:p):D1.v (.bool (decide p))= .v (.bool true):=by rw[decide_eq_true h]
theorem dbE{p q:Prop}[Decidable p][Decidable q](h:p↔q):D1.v (.bool (decide p))= .v (.bool (decide q)):=by rw[decide_eq_decide.2 h]
theorem diE{a b:Int}(h:a=b):D1.v (.int .i64 a)= .v (.int .i64 b):=by rw[h]
abbrev C0:=@Xf
abbrev D0:=@Xl
abbrev C1:=@Ab
abbrev C2:=@nN
abbrev C3:=@cJ
abbrev C4:=@aG
abbrev C5:=@Qt
abbrev C7:=@SB
abbrev C9:=@iR
abbrev CJ:=@VT
abbrev CA:=@aF
abbrev CB:=@bE
abbrev CC:=@Uv
abbrev CQ:=@r9
abbrev CE:=@sr
abbrev CR:=@xz
abbrev CF:=@vZ
abbrev CG:=@Zw
abbrev CH:=@ye
abbrev CI:=@Ap
abbrev Z7:=@aaW
abbrev Y4:=@Yz
abbrev Y5:=@Yj
abbrev Y6:=@Zh
abbrev Y7:=@Vl
abbrev Iw:=@IntWalk.i64_in
end Go.AM
namespace Go.AM
open Go.RowKit
inductive Tg(zs:List AC)(Q:AQ):Type where
 |mk
@[reducible] def Ah (P:Program) (T:Nat) (zs:List AC) (Q:AQ) (_:Tg zs Q):Env->aA->Nat->Prop:=fun e H nx=>aJ P T zs e H nx Q
def vd(P:Program)(T:Nat)(x y:AC)(zs:List AC)(e:Env)(H:aA)(nx:Nat)(Q:AQ)(_:Tg (x::y::zs) Q)(d:D):Prop:=cK (aJ P T (x::zs) e H nx Q) (aJ P T (y::zs) e H nx Q) d
def vc(P:Program)(T:Nat):List AC->Env->aA->Nat->AQ->Prop
 | [],e,H,nx,Q=>Q .normal e H nx
 | .skip::zs,e,H,nx,Q=>aJ P T zs e H nx Q
 | .region ops n live::zs,e,H,nx,Q=>wv P nx live (Ah P T zs Q .mk) ops e H (nx+n) []
 | .seq x y::zs,e,H,nx,Q=>aJ P T (x::y::zs) e H nx Q
 | .cond c x y::zs,e,H,nx,Q=>vd P T x y zs e H nx Q .mk (c.ev e)
 | .block id x::zs,e,H,nx,Q=>aJ P T [x] e H nx (AQ.blk id (Ah P T zs Q .mk) Q)
 | .loop x::zs,e,H,nx,Q=>aJ P T (.loop x::zs) e H nx Q
 | .exit id::_,e,H,nx,Q=>Q (.exit id) e H nx
 | .ret::_,e,H,nx,Q=>Q .ret e H nx
section
variable{P:Program}{T:Nat}{live:List Nat}{ops:List aZ}{n id:Nat}{c:aY}{e:Env}{H:aA}{nx:Nat}{Q:AQ}{x y:AC}{zs:List AC}{K:Env -> aA -> Nat -> Prop}
theorem kI(h:aJ P T zs e H nx Q):Ah P T zs Q .mk e H nx:=h
theorem vI(h:vc P T zs e H nx Q):aJ P T zs e H nx Q:=by
 cases zs with
 |nil=>exact h
 |cons x zs=>
  cases x with
  |skip=>exact aJ.skip h
  |region ops n live=>exact AWP.region h
  |seq x y=>exact aJ.seq h
  |cond c x y=>
   refine aJ.Zi fun A B f hB=> ?_;have h:cK (aJ P T (x::zs) e H nx Q) (aJ P T (y::zs) e H nx Q) (c.ev e):=h;unfold cK at h;unfold cK;split at h;·rename_i t g;exact⟨fun b=>f (h.1 b),fun b=>hB (h.2 b)⟩
   ·exact h.elim
  |block id x=>
   refine aJ.block fun K d=>AWP.mono h fun ex e' H' nx' _ a=> ?_
   cases ex with
   |normal=>exact d _ _ _ a
   |exit i=>
    simp only[AQ.then,AQ.blk] at a ⊢;split;·rename_i hi;rw[if_pos hi] at a;exact d _ _ _ a
    ·rename_i hi;rw[if_neg hi] at a;exact a
   |ret=>exact a
  |loop x=>exact h
  |exit id=>exact aJ.exit h
  |ret=>exact aJ.ret h
theorem Wf:vc P T [] e H nx Q=Q .normal e H nx:=rfl
theorem Ut:vc P T (.skip::zs) e H nx Q=aJ P T zs e H nx Q:=rfl
theorem Xc:vc P T (.region ops n live::zs) e H nx Q=wv P nx live (Ah P T zs Q .mk) ops e H (nx+n) []:=rfl
theorem Yw:vc P T (.seq x y::zs) e H nx Q=aJ P T (x::y::zs) e H nx Q:=rfl
theorem Sj:vc P T (.cond c x y::zs) e H nx Q=vd P T x y zs e H nx Q .mk (c.ev e):=rfl
theorem Ms:vc P T (.block id x::zs) e H nx Q=aJ P T [x] e H nx (AQ.blk id (Ah P T zs Q .mk) Q):=rfl
theorem Se:vc P T (.exit id::zs) e H nx Q=Q (.exit id) e H nx:=rfl
theorem Wv:vc P T (.ret::zs) e H nx Q=Q .ret e H nx:=rfl
theorem aaZ{g:Tg (x::y::zs) Q}:vd P T x y zs e H nx Q g (.one (.c (.v (.bool true))))=aJ P T (x::zs) e H nx Q:=Xs
theorem aaS{g:Tg (x::y::zs) Q}:vd P T x y zs e H nx Q g (.one (.c (.v (.bool false))))=aJ P T (y::zs) e H nx Q:=Wn
theorem aaN{g:Tg (x::y::zs) Q}{p:Prop}[Decidable p](h:p):vd P T x y zs e H nx Q g (.one (.c (.v (.bool (decide p)))))=aJ P T (x::zs) e H nx Q:=by rw[decide_eq_true h];exact Xs
theorem Zy{g:Tg (x::y::zs) Q}{p:Prop}[Decidable p](h: ¬p):vd P T x y zs e H nx Q g (.one (.c (.v (.bool (decide p)))))=aJ P T (y::zs) e H nx Q:=by rw[decide_eq_false h];exact Wn
theorem iE{g:Tg (x::y::zs) Q}{p:Prop}[Decidable p](a:p->aJ P T (x::zs) e H nx Q)(b: ¬p->aJ P T (y::zs) e H nx Q):vd P T x y zs e H nx Q g (.one (.c (.v (.bool (decide p))))):=aaX a b
theorem y5{g:Tg (x::y::zs) Q}{t:Bool}(a:t=true->aJ P T (x::zs) e H nx Q)(b:t=false->aJ P T (y::zs) e H nx Q):vd P T x y zs e H nx Q g (.one (.c (.v (.bool t)))):=abC a b
theorem Ws:AQ.then K Q .normal=K:=rfl
theorem Wk:AQ.then K Q .ret=Q .ret:=rfl
theorem Yo:AQ.then K Q (.exit id)=Q (.exit id):=rfl
theorem Zf{i:Nat}:AQ.blk i K Q .normal=K:=rfl
theorem Zp{i:Nat}:AQ.blk i K Q .ret=Q .ret:=rfl
theorem aaC{i j:Nat}(h: ¬j=i):AQ.blk i K Q (.exit j)=Q (.exit j):=by simp[AQ.blk,h]
attribute [go_sem] aaZ aaS Ws Wk Yo Zf Zp
attribute [go_sem ↓] Wf Ut Xc Yw Sj Ms Se Wv
end
def abD(o:aZ):Nat×List Nat×List Nat×Bool:=(o.ix,o.mask,o.Iv,o.look)
def aX:AC->List Cert
 | .region ops _ live=>[⟨ops.map abD,live⟩]
 | .seq x y=>aX x++aX y
 | .cond _ x y=>aX x++aX y
 | .block _ x=>aX x
 | .loop x=>aX x
 |_=>[]
instance {n:Nat}:OfNat aY n:=⟨.tm n⟩
theorem Wr{n:Nat}:(OfNat.ofNat n:aY)= .tm n:=rfl
attribute [go_sem] Wr
section
variable{P:Program}{T:Nat}{e:Env}{H:aA}{nx:Nat}{Q:AQ}{x y:AC}{zs:List AC}{K:Env -> aA -> Nat -> Prop}
theorem vT{g:Tg (x::y::zs) Q}{p:Prop}[Decidable p](h:p)(a:aJ P T (x::zs) e H nx Q):vd P T x y zs e H nx Q g (.one (.c (.v (.bool (decide p))))):=by rw[aaN h];exact a
theorem vF{g:Tg (x::y::zs) Q}{p:Prop}[Decidable p](h: ¬p)(a:aJ P T (y::zs) e H nx Q):vd P T x y zs e H nx Q g (.one (.c (.v (.bool (decide p))))):=by rw[Zy h];exact a
theorem bX{i j:Nat}(h:Nat.beq j i=false)(a:Q (.exit j) e H nx):AQ.blk i K Q (.exit j) e H nx:=by rw[aaC (fun he=>by rw[he] at h;simp at h)];exact a
end
section
variable {H : aA} {F : Nat -> Prop} {σ : Nat -> Nat} {nh t : Nat} {e : Env} {l : List (Nat × D)}
theorem xqI{d:D}(a:d.imm=true)(he:e t=d)(h:CvE H F σ nh (en l) e):CvE H F σ nh (en ((t,d)::l)) e:=nN h (by rw[he];exact aF a)
theorem xqP{n a id row b:Nat}(hl:a<nh)(hs:σ a=id)(he:e t= .one (.c (.ptr n id row b)))(h:CvE H F σ nh (en l) e):CvE H F σ nh (en ((t,.one (.c (.ptr n a row b)))::l)) e:=nN h (by rw[he];exact VT (sr hl hs))
theorem xqO{n b id off len a cap:Nat}(hl:b<nh)(hs:σ b=id)(he:e t= .one (.c (.osl n id off len cap)))(d:a=len)(h:CvE H F σ nh (en l) e):CvE H F σ nh (en ((t,.one (.c (.osl n b off a cap)))::l)) e:=nN h (by rw[he];exact VT (r9 hl hs rfl d rfl))
theorem xqV{a b:Int}(he:e t= .one (.c (.v (.int .i64 b))))(d:a=b)(h:CvE H F σ nh (en l) e):CvE H F σ nh (en ((t,.one (.c (.v (.int .i64 a))))::l)) e:=nN h (by rw[he,d];exact aF rfl)
end
def vcR(P:Program)(T:Nat):List AC->Env->aA->Nat->AQ->Prop
 | .seq (.region ops n live) y::zs,e,H,nx,Q=>wv P nx live (Ah P T (y::zs) Q .mk) ops e H (nx+n) []
 |zs,e,H,nx,Q=>vc P T zs e H nx Q
section
variable{P:Program}{T:Nat}{live:List Nat}{ops:List aZ}{n id:Nat}{c:aY}{e:Env}{H:aA}{nx:Nat}{Q:AQ}{x y:AC}{zs:List AC}
theorem vR(h:vcR P T zs e H nx Q):aJ P T zs e H nx Q:=by
 unfold vcR at h;split at h;·exact aJ.seq (AWP.region h)
 ·exact vI h
theorem Xr:vcR P T (.seq (.region ops n live) y::zs) e H nx Q=wv P nx live (Ah P T (y::zs) Q .mk) ops e H (nx+n) []:=rfl
theorem Ux:vcR P T [] e H nx Q=vc P T [] e H nx Q:=rfl
theorem Ml:vcR P T (.skip::zs) e H nx Q=vc P T (.skip::zs) e H nx Q:=rfl
theorem Tx:vcR P T (.region ops n live::zs) e H nx Q=vc P T (.region ops n live::zs) e H nx Q:=rfl
theorem Na:vcR P T (.cond c x y::zs) e H nx Q=vc P T (.cond c x y::zs) e H nx Q:=rfl
theorem Ic:vcR P T (.block id x::zs) e H nx Q=vc P T (.block id x::zs) e H nx Q:=rfl
theorem Qo:vcR P T (.exit id::zs) e H nx Q=vc P T (.exit id::zs) e H nx Q:=rfl
theorem Ti:vcR P T (.ret::zs) e H nx Q=vc P T (.ret::zs) e H nx Q:=rfl
attribute [go_sem ↓] Xr Ux Ml Tx Na Ic Qo Ti
end
theorem nL:(∀a b c:Nat,a+b+c=a+(b+c))/\(∀{a b:Nat},a=a+b↔b=0)/\ ∀{a b:Nat},a+b=a↔b=0:=⟨abH,abI,abK⟩
@[reducible,go_sem] def kF:aY:=.kv (.bool false)
@[reducible,go_sem] def kT:aY:=.kv (.bool true)
@[reducible,go_sem] def RX (t:Nat) (o:AOp) (m s:List Nat) (k:Bool) (i:Nat):aZ:=⟨i,some t,o,none,m,s,k⟩
@[reducible,go_sem] def RY (t:Option Nat) (o:AOp) (g:Option (Nat×Bool)) (m s:List Nat) (k:Bool) (i:Nat):aZ:=⟨i,t,o,g,m,s,k⟩
@[reducible,go_sem] def RB (t:Nat) (b:BinOp) (x y:aY) (i:Nat):aZ:=rq t (.bin b x y) i
@[reducible,go_sem] def RV (t:Nat) (x:aY) (i:Nat):aZ:=rq t (.move x) i
@[reducible,go_sem] def RI (t n:Nat) (x y:aY) (i:Nat):aZ:=rq t (.idx n x y) i
@[reducible,go_sem] def RN (t:Nat) (x:aY) (i:Nat):aZ:=rq t (.len false x) i
@[reducible,go_sem] def RP (t:Nat) (c x y:aY) (i:Nat):aZ:=rq t (.pick c x y) i
@[reducible,go_sem] def RU (t:Nat) (x:aY) (i:Nat):aZ:=rq t (.un .not x) i
@[reducible,go_sem] def RO (t:Nat) (x:aY) (i:Nat):aZ:=rq t (.box true x) i
@[reducible,go_sem] def RC (t:Nat) (f:FuncId) (l:List aY) (i:Nat):aZ:=rq t (.call f l) i
@[reducible,go_sem] def RA (t:Nat) (l:List D1) (i:Nat):aZ:=rq t (.alloc l) i
@[reducible,go_sem] def RD (t n:Nat) (x:aY) (i:Nat):aZ:=rq t (.load n true x) i
@[reducible,go_sem] def WS (n:Nat) (b:Bool) (x y:aY) (i:Nat):aZ:=rn (.store n b x y) i
@[reducible,go_sem] def RW (t:Nat) (x:aY) (m s:List Nat) (k:Bool) (i:Nat):aZ:=RX t (.load 1 false x) m s k i
@[reducible,go_sem] def GF (t k:Nat) (x:aY) (g:Nat) (b:Bool) (i:Nat):aZ:=GQ t (.fld k x) g b i
@[reducible,go_sem] def GL (t:Nat) (x:aY) (g:Nat) (b:Bool) (i:Nat):aZ:=GQ t (.load 1 false x) g b i
@[reducible,go_sem] def GM (t:Nat) (x:aY) (g:Nat) (b:Bool) (i:Nat):aZ:=GQ t (.move x) g b i
@[reducible,go_sem] def GB (t:Nat) (o:BinOp) (x y:aY) (g:Nat) (b:Bool) (i:Nat):aZ:=GQ t (.bin o x y) g b i
@[reducible,go_sem] def GU (t:Nat) (x:aY) (g:Nat) (b:Bool) (i:Nat):aZ:=GQ t (.un .not x) g b i
@[reducible,go_sem] def GI (t n:Nat) (x y:aY) (g:Nat) (b:Bool) (i:Nat):aZ:=GQ t (.idx n x y) g b i
def nb:Nat->List (Nat->aZ)->List aZ
 |_,[]=>[]
 |i,f::l=>f i::nb (i+1) l
def ln:List (Nat->aZ)->Nat
 | []=>0
 |_::l=>ln l+1
theorem Wt{i:Nat}:nb i []=[]:=rfl
theorem Sd{i:Nat}{f:Nat->aZ}{l:List (Nat->aZ)}:nb i (f::l)=f i::nb (i+1) l:=rfl
theorem Yp:ln []=0:=rfl
theorem Uk{f:Nat->aZ}{l:List (Nat->aZ)}:ln (f::l)=ln l+1:=rfl
attribute [go_sem] Wt Sd Yp Uk
@[reducible] def RG (ops:List (Nat->aZ)) (live:List Nat):AC:=.region (nb 0 ops) (ln ops) live
@[reducible] def SR (ops:List (Nat->aZ)) (live:List Nat) (y:AC):AC:=.seq (RG ops live) y
end Go.AM
namespace Go.Proofs.YtlncecohbakleaaGreat
open Go Go.AM
def K5:Nat:=4
def wC:Nat:=26
def iC:Nat:=27
def lA:Nat:=28
def i7:Nat:=29
def rK:Nat:=30
def iM:Nat:=31
def nJ:Nat:=32
def FR:Nat:=33
def mJ:Nat:=34
def uO:Nat:=35
def mK:Nat:=47
def vP:Nat:=48
def FF:Nat:=49
def HA:Nat:=51
def DE:Nat:=73
def DF:Nat:=74
def F7:Nat:=75
def pK:Nat:=77
def BC:Nat:=81
def wZ:Nat:=91
def BP:Nat:=92
def rU:Nat:=93
def cM:Nat:=94
def wM:Nat:=95
def dH:Nat:=96
def gQ:Nat:=97
def dL:Nat:=98
def JP:Nat:=99
def zF:Nat:=100
def n6:Nat:=101
def zV:Nat:=102
def lU:Nat:=103
def vA:Nat:=104
def qK:Nat:=105
def A3:Nat:=106
def kJ:Nat:=107
def JZ:Nat:=109
def dZ:Nat:=112
def nE:Nat:=114
def BU:Nat:=117
def rV:Nat:=120
def zN:Nat:=121
def vW:Nat:=122
def zP:Nat:=123
def DQ:Nat:=124
def vC:Nat:=125
def DB:Nat:=126
def F9:Nat:=127
def D5:Nat:=128
def I8:Nat:=129
def F8:Nat:=130
def kA:Nat:=132
def dG:Nat:=135
def cE:Nat:=136
def DD:Nat:=164
def GA:Nat:=165
def nX:Nat:=166
def sM:Nat:=167
def eK:Nat:=171
def GC:Nat:=172
def DC:Nat:=173
def GP:Nat:=177
def aD:Nat:=178
def zJ:Nat:=179
def sA:Nat:=180
def iG:Nat:=181
def iP:Nat:=182
def iD:Nat:=183
def iI:Nat:=184
def gW:Nat:=185
def gH:Nat:=186
def pB:Nat:=187
def o9:Nat:=188
def rD:Nat:=189
def qW:Nat:=190
def CM:Nat:=191
def lX:Nat:=192
def gG:Nat:=193
def JV:Nat:=194
def CK:Nat:=195
def lF:Nat:=196
def kQ:Nat:=197
def rC:Nat:=198
def eN:Nat:=199
def rP:Nat:=200
def cF:Nat:=201
def bY:Nat:=203
def lY:Nat:=204
def lS:Nat:=205
def GX:Nat:=208
def FN:Nat:=209
def GN:Nat:=210
def JQ:Nat:=211
def wG:Nat:=212
def pR:Nat:=213
def nZ:Nat:=214
def G4:Nat:=215
def tQ:Nat:=216
def nA:Nat:=217
def G8:Nat:=218
def tK:Nat:=224
def jC:Nat:=225
def JK:Nat:=226
def oH:Nat:=227
def CL:Nat:=247
def lV:Nat:=248
def w9:Nat:=249
def sT:Nat:=250
def fJ:Nat:=252
def wT:Nat:=253
def r6:Nat:=255
def fU:Nat:=256
def fG:Nat:=257
def eY:Nat:=258
def eO:Nat:=259
def iY:Nat:=260
def jY:Nat:=261
def jK:Nat:=262
def gJ:Nat:=263
def fZ:Nat:=264
def nF:Nat:=265
def fP:Nat:=266
def fV:Nat:=267
def rF:Nat:=268
def rR:Nat:=269
def JJ:Nat:=270
def JY:Nat:=271
def EU:Nat:=272
def dK:Nat:=273
def EM:Nat:=274
def dW:Nat:=275
def y9:Nat:=276
def JR:Nat:=277
def J3:Nat:=278
def ES:Nat:=279
def iT:Nat:=280
def lC:Nat:=281
def cT:Nat:=282
def xJ:Nat:=283
def AF:Nat:=284
def nB:Nat:=285
def gZ:Nat:=286
def oY:Nat:=287
def sK:Nat:=288
def xB:Nat:=289
def xD:Nat:=290
def rW:Nat:=291
def sH:Nat:=292
def jF:Nat:=299
def jV:Nat:=300
def Q5:Nat:=301
def kE:Nat:=302
def dY:Nat:=303
def l6:Nat:=304
def sW:Nat:=305
def CN:Nat:=314
def AI:Nat:=315
def EW:Nat:=316
def gK:Nat:=317
def gA:Nat:=318
def cZ:Nat:=319
def EP:Nat:=320
def dV:Nat:=321
def oA:Nat:=322
def cS:Nat:=323
def E5:Nat:=324
def eC:Nat:=325
def eQ:Nat:=326
def nI:Nat:=327
def EK:Nat:=328
def GK:Nat:=329
def BZ:Nat:=332
def mR:Nat:=333
def cL:Nat:=337
def yM:Nat:=338
def wS:Nat:=339
def GY:Nat:=340
def fI:AC:= (SR [RV 4 kF] [0,1] (SR [RM 5 0,RM 6 1,RC 7 gZ [5,6],RB 8 .geq 7 (ki 0),RM 4 8] [4] .ret))
def l4:List aW:=[.tm 4]
theorem xU:aQ afA Tryz.f201 (aX fI)=some (fI,l4):=by kernel_rfl
def DS:AC:= (SR [RV 6 kF] [0,1,2] (SR [RM 7 0,RM 8 1,RB 9 .geq 7 8,RM 10 9,GM 11 0 10 true,GM 12 2 10 true,GB 13 .leq 11 12 10 true,RP 14 10 13 kF,RM 6 14] [6] .ret))
def R2:List aW:=[.tm 6]
theorem tj:aQ afA Tryz.f203 (aX DS)=some (DS,R2):=by kernel_rfl
def o8:AC:= (SR [RV 4 (.kv (.slice none 0 0))] [0,1] (SR [rq 7 (.build [VZ,VZ,VZ,(.v (.bool false))] [(0,1,(ki 0)),(1,1,(ki 15))]),rq 8 (.build [VZ,VZ,VZ,(.v (.bool false))] [(0,1,(ki 16)),(1,1,(ki 31)),(2,1,(ki 1))]),RM 9 0,RC 10 aD [9,(ki 3)],RB 11 .eql 10 (ki 0),rq 12 (.build [VZ,VZ,VZ,(.v (.bool false))] [(0,1,(ki 32)),(1,1,(ki 47)),(2,1,(ki 2)),(3,1,11)]),rq 13 (.aU 4 3 [VZ,VZ,VZ,(.v (.bool false))] [(0,4,7),(4,4,8),(8,4,12)]),RM 5 13] [0,1,5] (.seq (SR [RM 14 0,RC 15 aD [14,(ki 4)]] [0,1,5,15] (.block 0 (SR [RB 17 .eql 15 (ki 0),RM 16 17] [0,1,5,15,16] (.cond 16 (RG [rq 18 (.build [VZ,VZ,VZ,(.v (.bool false))] [(0,1,(ki 0)),(1,1,(ki 7))]),rq 19 (.build [VZ,VZ,VZ,(.v (.bool false))] [(0,1,(ki 8)),(1,1,(ki 15)),(2,1,(ki 1))]),RM 20 0,RC 21 aD [20,(ki 3)],rq 22 (.build [VZ,VZ,VZ,(.v (.bool false))] [(0,1,(ki 20)),(1,1,(ki 40)),(2,1,21)]),RM 23 0,RC 24 aD [23,(ki 2)],RB 25 .eql 24 (ki 0),rq 26 (.build [VZ,VZ,VZ,(.v (.bool false))] [(0,1,(ki 41)),(1,1,(ki 63)),(2,1,(ki 2)),(3,1,25)]),rq 27 (.aU 4 4 [VZ,VZ,VZ,(.v (.bool false))] [(0,4,18),(4,4,19),(8,4,22),(12,4,26)]),RM 5 27] [0,1,5]) (SR [RB 29 .eql 15 (ki 1),RM 28 29] [0,1,5,28] (.cond 28 (RG [RM 30 5,RM 31 0,RC 32 aD [31,(ki 3)],RB 33 .add (ki 1) 32,rq 34 (.slc 4 30 none (some 33) none),RM 5 34] [0,1,5]) .skip)))))) (.seq (SR [RM 35 0,RM 36 1,RC 37 cM [35,36]] [0,5,37] (.cond 37 (SR [RM 38 0,RM 39 5,RN 40 39,RC 41 aD [38,40],RM 6 41] [0,5,6] (SR [RM 42 0,RC 43 aD [42,(ki 4)]] [0,5,6,43] (.block 1 (SR [RB 51 .eql 43 (ki 0),RM 50 51] [0,5,6,43,50] (.cond 50 (RG [RM 52 5,RM 53 6,RM 54 5,RM 55 6,RI 56 4 54 55,RF 57 1 56,RW 58 57 [8] [] true,RB 59 .add 58 (ki 1),rq 60 (.aU 1 3 [VZ] [(0,1,(.kv (.int .i64 (-1)))),(1,1,59),(2,1,(ki 5))]),RM 61 0,RX 62 (.call aD [61,(ki 3)]) [8] [6] false,RI 63 1 60 62,RL 64 63,RI 65 4 52 53,RF 66 0 65,WS 1 false 66 64] [5]) (SR [RB 68 .eql 43 (ki 1),RM 67 68] [0,5,6,43,67] (.cond 67 (RG [RM 69 5,RM 70 6,RM 71 5,RM 72 6,RI 73 4 71 72,RF 74 0 73,RW 75 74 [8] [] true,RB 76 .sub 75 (ki 1),rq 77 (.aU 1 3 [VZ] [(0,1,(ki 64)),(1,1,76),(2,1,(ki 40))]),RM 78 0,RX 79 (.call aD [78,(ki 3)]) [8] [6] false,RI 80 1 77 79,RL 81 80,RI 82 4 69 70,RF 83 1 82,WS 1 false 83 81] [5]) (SR [RB 85 .eql 43 (ki 2),RM 84 85] [0,5,6,84] (.cond 84 (RG [RM 86 5,RM 87 6,rq 88 (.aU 1 2 [VZ] [(0,1,(.kv (.int .i64 (-1)))),(1,1,(ki 3))]),RM 89 0,RC 90 aD [89,(ki 2)],RI 91 1 88 90,RL 92 91,RI 93 4 86 87,RF 94 2 93,WS 1 false 94 92] [5]) (RG [RM 44 5,rq 45 (.build [VZ,VZ,VZ,(.v (.bool false))] [(0,1,(ki 60)),(1,1,(ki 61))]),rq 46 (.build [VZ,VZ,VZ,(.v (.bool false))] [(0,1,(ki 62)),(1,1,(ki 62))]),rq 47 (.build [VZ,VZ,VZ,(.v (.bool false))] [(0,1,(ki 63)),(1,1,(ki 63))]),rq 48 (.aU 4 3 [VZ,VZ,VZ,(.v (.bool false))] [(0,4,45),(4,4,46),(8,4,47)]),rq 49 (.append 4 44 48),RM 5 49] [5])))))))))) .skip)) (SR [RM 95 5,RM 4 95] [4] .ret)))))
def vJ:List aW:=[.tm 4]
theorem dg:aQ afA Tryz.f204 (aX o8)=some (o8,vJ):=by kernel_rfl
theorem NQ:aR afA lY Tryz.f204 o8 vJ:=aR.mk Tryz.func204 (by kernel_rfl) dg
def DN:AC:= (SR [RO 5 1,RO 7 3,RA 8 [OZ,OZ],RA 9 [VZ,VZ,OZ]] [0,2,5,7,8,9] (SR [RF 14 2 7,RL 15 14,RF 16 3 7,RL 17 16,RF 18 4 7,RL 19 18,RC 20 sT [15,17,19],RM 10 20] [0,2,5,7,8,9,10] (SR [RM 21 0,RM 22 10,RC 23 w9 [21,22],RM 11 23] [0,2,5,7,8,9,10,11] (SR [RF 24 0 7,RL 25 24,rq 26 (.build [VZ,VZ,OZ] [(0,1,25),(1,1,(ki 1))]),RA 12 [VZ,VZ,OZ],WS 3 true 12 26] [0,2,5,7,8,9,10,11,12] (.seq (SR [RM 27 11,RB 28 .lss 27 (ki 0)] [0,2,5,7,8,9,10,11,12,28] (.cond 28 (SR [RF 29 1 12,WS 1 false 29 (ki 4)] [5,8,9,12] (SR [RD 30 2 5,RX 31 (.load 3 true 12) [] [] true,RY none (.store 2 true 8 30) none [] [1] false,WS 3 true 9 31] [8,9] .ret)) .skip)) (.seq (SR [RD 32 7 7,RC 33 sK [32],RM 34 33,GM 35 0 34 true,GM 36 11 34 true,GI 37 4 35 36 34 true,GF 38 3 37 34 true,GL 39 38 34 true,RP 40 34 39 kF] [2,5,7,8,9,10,12,40] (.cond 40 (SR [RF 41 1 12,WS 1 false 41 (ki 3)] [5,8,9,12] (SR [RD 42 2 5,RX 43 (.load 3 true 12) [] [] true,RY none (.store 2 true 8 42) none [] [1] false,WS 3 true 9 43] [8,9] .ret)) .skip)) (SR [RM 44 2,RB 45 .mul 44 (ki 2),RF 46 0 7,RL 47 46,RB 48 .add 45 47,RM 13 48] [5,7,8,9,10,12,13] (.seq (SR [RF 49 1 7,RL 50 49] [5,7,8,9,10,12,13,50] (.block 0 (SR [RB 64 .eql 50 (ki 1),RM 63 64] [5,7,8,9,10,12,13,50,63] (.cond 63 (RG [RF 65 0 5,RD 66 1 65,RM 67 10,RC 68 xB [66,67],RF 69 2 12,WS 1 false 69 68] [5,8,9,12]) (SR [RB 71 .eql 50 (ki 3),RM 70 71] [5,7,8,9,10,12,13,50,70] (.cond 70 (SR [RF 72 0 5,RD 73 1 72,RM 74 10,RC 75 xB [73,74],RF 76 2 12,WS 1 false 76 75] [5,7,8,9,12,13] (SR [RF 77 1 12,WS 1 false 77 (ki 2)] [5,7,8,9,12,13] (RG [RF 78 1 5,RL 79 78,RM 80 13,RF 81 2 7,RL 82 81,RI 83 1 79 80,WS 1 false 83 82] [5,8,9,12]))) (SR [RB 85 .eql 50 (ki 4),RM 84 85] [5,7,8,9,10,12,13,84] (.cond 84 (.seq (SR [RF 86 1 5,RL 87 86,RM 88 13,RI 89 1 87 88,RL 90 89,RF 91 2 7,RL 92 91,RB 93 .neq 90 92] [5,7,8,9,10,12,93] (.cond 93 (SR [RD 94 2 5,RX 95 (.load 3 true 12) [] [] true,RY none (.store 2 true 8 94) none [] [1] false,WS 3 true 9 95] [8,9] .ret) .skip)) (SR [RF 96 1 12,WS 1 false 96 (ki 2)] [5,7,8,9,10,12] (SR [RF 97 0 5,RD 98 1 97,RM 99 10,RF 100 5 7,RL 101 100,RF 102 6 7,RL 103 102,RC 104 xD [98,99,101,103],RF 105 0 5,WS 1 true 105 104] [5,8,9,10,12] (RG [RD 106 2 5,RM 107 10,RC 108 rW [106,107],WS 2 true 5 108] [5,8,9,12])))) (SR [RF 51 0 5,RD 52 1 51,RM 53 10,RF 54 5 7,RL 55 54,RF 56 6 7,RL 57 56,RC 58 xD [52,53,55,57],RF 59 0 5,WS 1 true 59 58] [5,8,9,10,12] (RG [RD 60 2 5,RM 61 10,RC 62 rW [60,61],WS 2 true 5 62] [5,8,9,12])))))))))) (SR [RD 109 2 5,RX 110 (.load 3 true 12) [] [] true,RY none (.store 2 true 8 109) none [] [1] false,WS 3 true 9 110] [8,9] .ret)))))))))
def TI:List aW:=[.cell 8 2 true,.cell 9 3 true]
theorem vr:aQ afA Tryz.f209 (aX DN)=some (DN,TI):=by kernel_rfl
def DP:AC:= (SR [RV 6 (ki 0)] [0,1,2] (.seq (SR [RV 7 (ki 0)] [0,1,2,7] (.block 0 (.loop (.seq (SR [RM 8 7,RM 9 0,RN 10 9,RB 11 .lss 8 10] [0,1,2,7,11] (.cond 11 .skip (.exit 0))) (.seq (.block 1 (SR [RM 14 0,RM 15 7,RI 16 5 14 15,RF 17 0 16,RL 18 17,RM 19 1,RB 20 .eql 18 19,RM 21 20,GM 22 0 21 true,GM 23 7 21 true,GI 24 5 22 23 21 true,GF 25 1 24 21 true,GL 26 25 21 true,GM 27 2 21 true,GB 28 .eql 26 27 21 true,RP 29 21 28 kF] [0,1,2,7,29] (.cond 29 (SR [RM 30 7,RM 6 30] [6] .ret) .skip))) (RG [RM 12 7,RB 13 .add 12 (ki 1),RM 7 13] [0,1,2,7])))))) (SR [rq 6 (.move (.kv (.int .i64 (-1))))] [6] .ret)))
def TG:List aW:=[.tm 6]
theorem th:aQ afA Tryz.f216 (aX DP)=some (DP,TG):=by kernel_rfl
def AD:AC:= (SR [RO 3 1,RV 4 (.kv (.slice none 0 0))] [0,3] (SR [rq 8 (.aU 5 0 [VZ,VZ,VZ,VZ,OZ] []),RM 5 8] [0,3,5] (SR [RV 6 kF] [0,3,5,6] (.seq (SR [RV 7 (ki 0)] [0,3,5,6,7] (.block 0 (.loop (.seq (SR [RM 9 7,RM 10 0,RN 11 10,RB 12 .lss 9 11] [0,3,5,6,7,12] (.cond 12 .skip (.exit 0))) (.seq (.block 1 (.seq (SR [RM 15 6,RU 16 15,RM 17 16,GQ 18 (.load 5 true 3) 17 true,GM 19 0 17 true,GM 20 7 17 true,GI 21 5 19 20 17 true,GQ 22 (.load 5 true 21) 17 true,GQ 23 (.call sH [18,22]) 17 true,RP 24 17 23 kF] [0,3,5,6,7,24] (.cond 24 (SR [RM 25 5,RD 26 5 3,rq 27 (.aU 5 1 [VZ,VZ,VZ,VZ,OZ] [(0,5,26)]),rq 28 (.append 5 25 27),RM 5 28] [0,3,5,7] (RG [RV 6 kT] [0,3,5,6,7])) .skip)) (RG [RM 29 5,RM 30 0,RM 31 7,RI 32 5 30 31,RD 33 5 32,rq 34 (.aU 5 1 [VZ,VZ,VZ,VZ,OZ] [(0,5,33)]),rq 35 (.append 5 29 34),RM 5 35] [0,3,5,6,7]))) (RG [RM 13 7,RB 14 .add 13 (ki 1),RM 7 14] [0,3,5,6,7])))))) (.seq (SR [RM 36 6,RU 37 36] [3,5,37] (.cond 37 (RG [RM 38 5,RD 39 5 3,rq 40 (.aU 5 1 [VZ,VZ,VZ,VZ,OZ] [(0,5,39)]),rq 41 (.append 5 38 40),RM 5 41] [5]) .skip)) (SR [RM 42 5,RM 4 42] [4] .ret))))))
def PS:List aW:=[.tm 4]
theorem kq:aQ afA Tryz.f217 (aX AD)=some (AD,PS):=by kernel_rfl
def vY:AC:= (SR [RO 1 0,RA 2 [OZ,OZ,OZ,OZ,OZ,OZ]] [1,2] (.seq (.region [RF 3 0 1 0,RX 4 (.load 2 true 3) [3] [] false 1,rq 6 (.aU 1 0 [VZ] []) 3,RF 7 2 1 4,RW 8 7 [3] [] true 5,RF 10 3 1 7,RW 11 10 [3] [] true 8,RF 13 4 1 10,RW 14 13 [3] [] true 11,RF 16 5 1 13,RW 17 16 [3] [] true 14,RX 5 (.call lX [4]) [3] [5,8,11,14] false 2,RX 9 (.append 1 6 8) [] [8,11,14] false 6,RX 12 (.call gG [11]) [] [11,14] false 9,RX 15 (.call gG [14]) [] [14] false 12,RC 18 gG [17] 15,rq 19 (.build [OZ,OZ,OZ,OZ,OZ,OZ] [(0,2,5),(2,1,9),(3,1,12),(4,1,15),(5,1,18)]) 16,WS 6 true 2 19 17] 18 [2]) .ret))
def NJ:List aW:=[.cell 2 6 true]
theorem cg:aQ afA Tryz.f218 (aX vY)=some (vY,NJ):=by kernel_rfl
def mA:AC:= (SR [RO 7 3,RA 8 [VZ,VZ,OZ]] [0,1,2,7,8] (SR [RM 19 1,RD 20 7 7,RC 21 wT [19,20],RM 9 21] [0,1,2,7,8,9] (SR [RF 22 0 7,RL 23 22,rq 24 (.build [VZ,VZ,OZ] [(0,1,23),(1,1,(ki 1))]),RA 10 [VZ,VZ,OZ],WS 3 true 10 24] [0,1,2,7,8,9,10] (SR [RM 25 0,RK 26 25,RF 27 1 26,RL 28 27,RM 29 2,RB 30 .mul 29 (ki 2),RF 31 0 7,RL 32 31,RB 33 .add 30 32,RI 34 1 28 33,RM 11 34] [0,1,7,8,9,10,11] (.seq (.block 0 (SR [RM 36 9,RB 37 .lss 36 (ki 0),RM 35 37] [0,1,7,8,9,10,11,35] (.cond 35 (SR [RF 38 1 10,WS 1 false 38 (ki 4)] [8,10] (SR [RD 39 3 10,WS 3 true 8 39] [8] .ret)) (SR [RD 41 7 7,RC 42 jF [41],RM 43 42,GM 44 1 43 true,GM 45 9 43 true,GI 46 4 44 45 43 true,GF 47 3 46 43 true,GL 48 47 43 true,RP 49 43 48 kF,RM 40 49] [0,7,8,10,11,40] (.cond 40 (SR [RF 50 1 10,WS 1 false 50 (ki 3)] [8,10] (SR [RD 51 3 10,WS 3 true 8 51] [8] .ret)) (SR [RF 53 1 7,RL 54 53,RB 55 .eql 54 (ki 4),RM 56 55,GM 57 11 56 true,GQ 58 (.yT 57) 56 true,GL 59 58 56 true,GF 60 2 7 56 true,GL 61 60 56 true,GB 62 .neq 59 61 56 true,RP 63 56 62 kF,RM 52 63] [0,7,8,10,11,52] (.cond 52 (SR [RD 64 3 10,WS 3 true 8 64] [8] .ret) .skip))))))) (SR [RD 65 7 7,RC 66 jV [65],RM 12 66] [0,7,8,10,11,12] (.seq (SR [RD 67 7 7,RC 68 jF [67],RU 69 68] [0,7,8,10,11,12,69] (.cond 69 (SR [RM 70 12,RN 71 70,rq 72 (.pU 1 [VZ] 71 71),RF 73 2 10,WS 1 false 73 72] [0,7,8,10,11,12] (.seq (SR [RM 74 12,RN 75 74,RV 76 (ki 0)] [0,7,8,10,11,74,75,76] (.block 1 (.loop (SR [RB 77 .lss 76 75] [0,7,8,10,11,74,75,76,77] (.seq (.cond 77 .skip (.exit 1)) (.seq (.block 2 (SR [RM 78 76,RI 79 1 74 76,RL 80 79,RM 13 78,RM 14 80] [0,7,8,10,11,13,14,74,75,76] (RG [RF 81 2 10,RL 82 81,RM 83 13,RM 84 0,RK 85 84,RF 86 0 85,RF 87 0 86,RL 88 87,RM 89 14,RI 90 1 88 89,RL 91 90,RI 92 1 82 83,WS 1 false 92 91] [0,7,8,10,11,74,75,76]))) (RG [RB 93 .add 76 (ki 1),RM 76 93] [0,7,8,10,11,74,75,76]))))))) (.seq (SR [RF 94 1 7,RL 95 94,RB 96 .eql 95 (ki 3)] [7,8,10,11,96] (.cond 96 (SR [RF 97 1 10,WS 1 false 97 (ki 2)] [7,8,10,11] (RG [RM 98 11,RF 99 2 7,RL 100 99,RK 101 98,WS 1 false 101 100] [8,10])) .skip)) (SR [RD 102 3 10,WS 3 true 8 102] [8] .ret)))) .skip)) (.seq (SR [RF 103 1 7,RL 104 103,RB 105 .eql 104 (ki 4)] [0,7,8,10,12,105] (.cond 105 (RG [RF 106 1 10,WS 1 false 106 (ki 2)] [0,7,8,10,12]) .skip)) (.seq (SR [RM 107 12,RN 108 107,RV 109 (ki 0)] [0,7,8,10,12,107,108,109] (.block 3 (.loop (SR [RB 110 .lss 109 108] [0,7,8,10,12,107,108,109,110] (.seq (.cond 110 .skip (.exit 3)) (.seq (.block 4 (SR [RM 111 109,RI 112 1 107 109,RL 113 112,RM 15 111,RM 16 113] [0,7,8,10,12,15,16,107,108,109] (RG [RM 114 0,RK 115 114,RF 116 0 115,RF 117 0 116,RW 118 117 [] [] true,RM 119 16,RM 120 0,RK 121 120,RF 122 0 121,RF 123 0 122,RL 124 123,RM 125 16,RI 126 1 124 125,RL 127 126,RF 128 5 7,RL 129 128,RM 130 15,RI 131 1 129 130,RL 132 131,RF 133 6 7,RL 134 133,RM 135 15,RI 136 1 134 135,RL 137 136,RX 138 (.call Q5 [127,132,137]) [] [4] false,RI 139 1 118 119,WS 1 false 139 138] [0,7,8,10,12,107,108,109]))) (RG [RB 140 .add 109 (ki 1),RM 109 140] [0,7,8,10,12,107,108,109]))))))) (.seq (SR [RM 141 0,RK 142 141,RF 143 1 142,RL 144 143,RN 145 144,RV 146 (ki 0)] [0,8,10,12,144,145,146] (.block 5 (.loop (SR [RB 147 .lss 146 145] [0,8,10,12,144,145,146,147] (.seq (.cond 147 .skip (.exit 5)) (.seq (.block 6 (SR [RM 148 146,RI 149 1 144 146,RL 150 149,RM 17 148,RM 18 150] [0,8,10,12,17,18,144,145,146] (SR [RM 151 12,RM 152 18,RC 153 kE [151,152]] [0,8,10,12,17,144,145,146,153] (.cond 153 (RG [RM 154 0,RK 155 154,RF 156 1 155,RL 157 156,RM 158 17,RI 159 1 157 158,rn (.store 1 false 159 (.kv (.int .i64 (-1))))] [0,8,10,12,144,145,146]) .skip)))) (RG [RB 160 .add 146 (ki 1),RM 146 160] [0,8,10,12,144,145,146]))))))) (SR [RD 161 3 10,WS 3 true 8 161] [8] .ret)))))))))))
def B1:List aW:=[.cell 8 3 true]
theorem OS:aQ afA Tryz.f224 (aX mA)=some (mA,B1):=by kernel_rfl
def AH:AC:= (SR [RV 2 (ki 0)] [0] (SR [RV 3 (ki 0)] [0,3] (.seq (SR [RM 6 0,RN 7 6,RV 8 (ki 0)] [3,6,7,8] (.block 0 (.loop (SR [RB 9 .lss 8 7] [3,6,7,8,9] (.seq (.cond 9 .skip (.exit 0)) (.seq (.block 1 (SR [RI 10 1 6 8,RL 11 10,RM 5 11] [3,5,6,7,8] (SR [RM 12 5,RM 13 3,RB 14 .neq 12 13] [3,5,6,7,8,14] (.cond 14 (SR [RM 15 5,RM 2 15] [2] .ret) .skip)))) (RG [RB 16 .add 8 (ki 1),RM 8 16] [3,6,7,8]))))))) (SR [RM 17 3,RM 2 17] [2] .ret))))
def PQ:List aW:=[.tm 2]
theorem jz:aQ afA Tryz.f226 (aX AH)=some (AH,PQ):=by kernel_rfl
def nD:AC:= (SR [RV 4 (ki 0)] [0,1] (SR [RM 7 0,RC 8 sW [7],RM 5 8] [0,1,5] (SR [RM 9 1,RC 10 sW [9],RM 6 10] [0,1,5,6] (.seq (SR [RM 11 5] [0,1,6,11] (.cond 11 (.seq (SR [RM 12 6] [12] (.cond 12 (SR [RV 4 (ki 0)] [4] .ret) .skip)) (SR [rq 4 (.move (.kv (.int .i64 (-1))))] [4] .ret)) .skip)) (.seq (SR [RM 13 6] [0,1,13] (.cond 13 (SR [RV 4 (ki 1)] [4] .ret) .skip)) (.seq (SR [RM 14 0,RM 15 1,RB 16 .lss 14 15] [0,1,16] (.cond 16 (SR [rq 4 (.move (.kv (.int .i64 (-1))))] [4] .ret) .skip)) (.seq (SR [RM 17 0,RM 18 1,RB 19 .gtr 17 18] [19] (.cond 19 (SR [RV 4 (ki 1)] [4] .ret) .skip)) (SR [RV 4 (ki 0)] [4] .ret))))))))
def E4:List aW:=[.tm 4]
theorem QU:aQ afA Tryz.f227 (aX nD)=some (nD,E4):=by kernel_rfl
def vN:AC:= (SR [RA 0 [OZ]] [0] (SR [rq 1 (.pU 1 [VZ] (ki 64) (ki 64)),rq 2 (.build [OZ] [(0,1,1)]),WS 1 true 0 2] [0] .ret))
def MZ:List aW:=[.cell 0 1 true]
theorem ae:aQ afA Tryz.f248 (aX vN)=some (vN,MZ):=by kernel_rfl
def sS:AC:= (SR [RV 4 (ki 0)] [0,1] (.seq (SR [RM 7 1,RN 8 7,RB 9 .eql 8 (ki 0)] [0,1,9] (.cond 9 (SR [rq 4 (.move (.kv (.int .i64 (-1))))] [4] .ret) .skip)) (SR [RM 10 0,RM 11 1,RI 12 1 11 (ki 0),RL 13 12,RC 14 AI [10,13],RM 5 14] [0,1,5] (.seq (SR [RV 6 (ki 1)] [0,1,5,6] (.block 0 (.loop (.seq (SR [RM 15 6,RM 16 1,RN 17 16,RB 18 .lss 15 17] [0,1,5,6,18] (.cond 18 .skip (.exit 0))) (.seq (.block 1 (SR [RM 21 0,RM 22 1,RM 23 6,RI 24 1 22 23,RL 25 24,RC 26 AI [21,25],RM 27 5,RB 28 .neq 26 27] [0,1,5,6,28] (.cond 28 (SR [rq 4 (.move (.kv (.int .i64 (-1))))] [4] .ret) .skip))) (RG [RM 19 6,RB 20 .add 19 (ki 1),RM 6 20] [0,1,5,6])))))) (SR [RM 29 5,RM 4 29] [4] .ret)))))
def KS:List aW:=[.tm 4]
theorem V8:aQ afA Tryz.f249 (aX sS)=some (sS,KS):=by kernel_rfl
def qL:AC:= (SR [RV 6 (.kv (.slice none 0 0))] [0,1,2] (SR [rq 10 (.aU 1 0 [VZ] []),RM 7 10] [0,1,2,7] (.seq (SR [RM 11 0,RM 12 1,RM 13 2,RC 14 CN [11,12,13],RU 15 14] [0,1,2,7,15] (.cond 15 (SR [RM 16 7,RM 6 16] [6] .ret) .skip)) (SR [RM 17 0,RM 18 0,RM 19 1,RB 20 .rem 18 19,RB 21 .sub 17 20,RM 8 21] [0,1,2,7,8] (.seq (SR [RV 9 (ki 0)] [0,1,2,7,8,9] (.block 0 (.loop (.seq (SR [RM 22 9,RM 23 1,RB 24 .lss 22 23] [0,1,2,7,8,9,24] (.cond 24 .skip (.exit 0))) (.seq (.block 1 (SR [RM 27 2] [0,1,2,7,8,9,27] (.cond 27 (RG [RM 28 7,RM 29 8,RM 30 0,RM 31 8,RB 32 .sub 30 31,RM 33 9,RB 34 .add 32 33,RM 35 1,RB 36 .rem 34 35,RB 37 .add 29 36,rq 38 (.aU 1 1 [VZ] [(0,1,37)]),rq 39 (.append 1 28 38),RM 7 39] [0,1,2,7,8,9]) (RG [RM 40 7,RM 41 0,RM 42 9,RB 43 .add 41 42,rq 44 (.aU 1 1 [VZ] [(0,1,43)]),rq 45 (.append 1 40 44),RM 7 45] [0,1,2,7,8,9])))) (RG [RM 25 9,RB 26 .add 25 (ki 1),RM 9 26] [0,1,2,7,8,9])))))) (SR [RM 46 7,RM 6 46] [6] .ret))))))
def I0:List aW:=[.tm 6]
theorem TY:aQ afA Tryz.f250 (aX qL)=some (qL,I0):=by kernel_rfl
def kS:AC:= (SR [RO 1 0,RV 2 kF] [1] (SR [RF 3 1 1,RL 4 3,RB 5 .eql 4 (ki 2),RM 6 5,GF 7 1 1 6 false,GL 8 7 6 false,GB 9 .eql 8 (ki 4) 6 false,RP 10 6 kT 9,RM 2 10] [2] .ret))
def yF:List aW:=[.tm 2]
theorem LB:aQ afA Tryz.f299 (aX kS)=some (kS,yF):=by kernel_rfl
def lR:AC:= (SR [RO 1 0,RV 2 (.kv (.slice none 0 0))] [1] (SR [RF 3 2 1,RL 4 3,RF 5 3 1,RL 6 5,RF 7 4 1,RL 8 7,RC 9 BZ [4,6,8],RM 2 9] [2] .ret))
def A7:List aW:=[.tm 2]
theorem NH:aQ afA Tryz.f300 (aX lR)=some (lR,A7):=by kernel_rfl
def FH:AC:= (SR [RV 6 (ki 0)] [0,1,2] (SR [RM 8 2,RB 9 .and 8 (ki 1),RB 10 .mul 9 (ki 255),RM 11 2,RB 12 .shr 11 (.kv (.int .u64 1)),RB 13 .mul 12 (ki 65280),RB 14 .or 10 13,RM 7 14] [0,1,7] (SR [RM 15 0,RM 16 7,RB 17 .andNot 15 16,RM 18 1,RM 19 7,RB 20 .and 18 19,RB 21 .or 17 20,RM 6 21] [6] .ret)))
def V4:List aW:=[.tm 6]
theorem zx:aQ afA Tryz.f301 (aX FH)=some (FH,V4):=by kernel_rfl
def gX:AC:= (SR [RV 4 kF] [0,1] (SR [RM 5 0,RM 6 1,RC 7 mR [5,6],RB 8 .geq 7 (ki 0),RM 4 8] [4] .ret))
def oJ:List aW:=[.tm 4]
theorem DA:aQ afA Tryz.f302 (aX gX)=some (gX,oJ):=by kernel_rfl
def qJ:AC:= (SR [RV 2 kF] [0] (SR [RM 3 0,RM 4 0,RB 5 .neq 3 4,RM 2 5] [2] .ret))
def HN:List aW:=[.tm 2]
theorem UQ:aQ afA Tryz.f305 (aX qJ)=some (qJ,HN):=by kernel_rfl
def AK:AC:= (SR [RV 6 kF] [0,1,2] (.seq (SR [RM 7 0,RC 8 bY [7,(ki 0),(ki 63)],RU 9 8,RM 10 9,GM 11 1 10 false,GB 12 .neq 11 (ki 1) 10 false,GM 13 12 10 false,GM 14 1 13 true,GB 15 .neq 14 (ki 2) 13 true,GQ 16 (.pick 13 15 kF) 10 false,GM 17 16 10 false,GM 18 1 17 true,GB 19 .neq 18 (ki 4) 17 true,GQ 20 (.pick 17 19 kF) 10 false,RP 21 10 kT 20] [0,1,2,21] (.cond 21 (SR [RV 6 kF] [6] .ret) .skip)) (SR [RM 22 2,RM 23 22,GM 24 0 23 false,GM 25 1 23 false,GB 26 .add 24 25 23 false,GB 27 .sub 26 (ki 1) 23 false,GB 28 .leq 27 (ki 63) 23 false,RP 29 23 kT 28,RM 6 29] [6] .ret)))
def QN:List aW:=[.tm 6]
theorem js:aQ afA Tryz.f314 (aX AK)=some (AK,QN):=by kernel_rfl
def uM:AC:= (SR [RV 4 (ki 0)] [0,1] (.seq (SR [RV 5 (ki 0)] [0,1,5] (.block 0 (.loop (.seq (SR [RM 6 5,RM 7 0,RN 8 7,RB 9 .lss 6 8] [0,1,5,9] (.cond 9 .skip (.exit 0))) (.seq (.block 1 (SR [RM 12 1,RM 13 0,RM 14 5,RI 15 4 13 14,RF 16 0 15,RL 17 16,RM 18 0,RM 19 5,RI 20 4 18 19,RF 21 1 20,RL 22 21,RC 23 bY [12,17,22]] [0,1,5,23] (.cond 23 (SR [RM 24 5,RM 4 24] [4] .ret) .skip))) (RG [RM 10 5,RB 11 .add 10 (ki 1),RM 5 11] [0,1,5])))))) (SR [rq 4 (.move (.kv (.int .i64 (-1))))] [4] .ret)))
def ND:List aW:=[.tm 4]
theorem YK:aQ afA Tryz.f315 (aX uM)=some (uM,ND):=by kernel_rfl
def sQ:AC:= (SR [rq 3 (.box false 1),RV 4 (ki 0)] [0,3] (SR [RM 5 0,rq 6 (.xop (.FV yM) [3]),RC 7 cL [5,6],RM 4 7] [4] .ret))
def K1:List aW:=[.tm 4]
theorem W6:aQ afA Tryz.f316 (aX sQ)=some (sQ,K1):=by kernel_rfl
def gB:AC:= (SR [RV 2 (.kv (.slice none 0 0))] [0] (SR [RM 3 0,RM 4 0,RN 5 4,RM 6 0,RN 7 6,rq 8 (.slc 5 3 none (some 5) (some 7)),RM 2 8] [2] .ret))
def mV:List aW:=[.tm 2]
theorem A5:aQ afA Tryz.f317 (aX gB)=some (gB,mV):=by kernel_rfl
def fN:AC:= (SR [RV 2 (.kv (.slice none 0 0))] [0] (.seq (SR [RM 3 0,rq 4 (.xop (.tY false) [3])] [0,4] (.cond 4 (SR [RV 2 (.kv (.slice none 0 0))] [2] .ret) .skip)) (SR [rq 5 (.aU 5 0 [VZ,VZ,VZ,VZ,OZ] []),RM 6 0,rq 7 (.append 5 5 6),RM 2 7] [2] .ret)))
def mP:List aW:=[.tm 2]
theorem yP:aQ afA Tryz.f318 (aX fN)=some (fN,mP):=by kernel_rfl
def cQ:AC:= (SR [RV 4 kF] [0,1] (SR [RM 5 0,RM 6 1,RC 7 cL [5,6],RB 8 .geq 7 (ki 0),RM 4 8] [4] .ret))
def iL:List aW:=[.tm 4]
theorem nV:aQ afA Tryz.f323 (aX cQ)=some (cQ,iL):=by kernel_rfl
def s6:AC:= (SR [RO 2 0,RV 3 kF] [1,2] (SR [RF 4 0 2,RL 5 4,RF 6 1 1,RL 7 6,RB 8 .leq 5 7,RM 9 8,GF 10 0 1 9 true,GL 11 10 9 true,GF 12 1 2 9 true,GL 13 12 9 true,GB 14 .leq 11 13 9 true,RP 15 9 14 kF,RM 3 15] [3] .ret))
def KV:List aW:=[.tm 3]
theorem XJ:aQ afA Tryz.f324 (aX s6)=some (s6,KV):=by kernel_rfl
def dX:AC:= (SR [RV 4 (ki 0)] [0,1] (.seq (SR [RM 6 0,RN 7 6,RV 8 (ki 0)] [0,1,7,8] (.block 0 (.loop (SR [RB 9 .lss 8 7] [0,1,7,8,9] (.seq (.cond 9 .skip (.exit 0)) (.seq (.block 1 (SR [RM 10 8,RM 5 10] [0,1,5,7,8] (SR [RM 11 1,RM 12 0,RM 13 5,RI 14 1 12 13,RL 15 14,rq 16 (.AX 11 [15])] [0,1,5,7,8,16] (.cond 16 (SR [RM 17 5,RM 4 17] [4] .ret) .skip)))) (RG [RB 18 .add 8 (ki 1),RM 8 18] [0,1,7,8]))))))) (SR [rq 4 (.move (.kv (.int .i64 (-1))))] [4] .ret)))
def jW:List aW:=[.tm 4]
theorem rA:aQ afA Tryz.f325 (aX dX)=some (dX,jW):=by kernel_rfl
def eH:AC:= (SR [RV 4 (ki 0)] [0,1] (.seq (SR [RM 6 0,RN 7 6,RV 8 (ki 0)] [0,1,7,8] (.block 0 (.loop (SR [RB 9 .lss 8 7] [0,1,7,8,9] (.seq (.cond 9 .skip (.exit 0)) (.seq (.block 1 (SR [RM 10 8,RM 5 10] [0,1,5,7,8] (SR [RM 11 1,RM 12 0,RM 13 5,RI 14 7 12 13,RD 15 7 14,rq 16 (.AX 11 [15])] [0,1,5,7,8,16] (.cond 16 (SR [RM 17 5,RM 4 17] [4] .ret) .skip)))) (RG [RB 18 .add 8 (ki 1),RM 8 18] [0,1,7,8]))))))) (SR [rq 4 (.move (.kv (.int .i64 (-1))))] [4] .ret)))
def kG:List aW:=[.tm 4]
theorem tE:aQ afA Tryz.f326 (aX eH)=some (eH,kG):=by kernel_rfl
def pW:AC:= (SR [RV 2 kF] [0] (SR [RM 3 0,RC 4 cF [3,(.fn wS)],RU 5 4,RM 2 5] [2] .ret))
def IQ:List aW:=[.tm 2]
theorem T6:aQ afA Tryz.f327 (aX pW)=some (pW,IQ):=by kernel_rfl
def sY:AC:= (SR [RV 2 kF] [0] (SR [RM 3 0,RC 4 dZ [3,(ki 0),(ki 3)],RU 5 4,RM 2 5] [2] .ret))
def J7:List aW:=[.tm 2]
theorem W7:aQ afA Tryz.f328 (aX sY)=some (sY,J7):=by kernel_rfl
def vX:AC:= (SR [RV 6 (ki 0)] [0,1,2] (.seq (SR [RM 9 0,RC 10 bY [9,(ki 0),(ki 65535)],RU 11 10,RM 12 11,GM 13 1 12 false,GQ 14 (.call bY [13,(ki 0),(ki 65535)]) 12 false,GU 15 14 12 false,RP 16 12 kT 15,RM 17 16,GM 18 2 17 false,GQ 19 (.call bY [18,(ki 0),(ki 3)]) 17 false,GU 20 19 17 false,RP 21 17 kT 20] [0,1,2,21] (.cond 21 (SR [rq 6 (.move (.kv (.int .i64 (-1))))] [6] .ret) .skip)) (SR [RM 22 0,RB 23 .rem 22 (ki 256),RM 7 23] [0,1,2,7] (SR [RM 24 0,RB 25 .quo 24 (ki 256),RM 8 25] [1,2,7,8] (.seq (SR [RM 26 2,RB 27 .rem 26 (ki 2),RB 28 .eql 27 (ki 1)] [1,2,7,8,28] (.cond 28 (RG [RM 29 1,RB 30 .rem 29 (ki 256),RM 7 30] [1,2,7,8]) .skip)) (.seq (SR [RM 31 2,RB 32 .quo 31 (ki 2),RB 33 .eql 32 (ki 1)] [1,7,8,33] (.cond 33 (RG [RM 34 1,RB 35 .quo 34 (ki 256),RM 8 35] [7,8]) .skip)) (SR [RM 36 8,RB 37 .mul 36 (ki 256),RM 38 7,RB 39 .add 37 38,RM 6 39] [6] .ret)))))))
def MC:List aW:=[.tm 6]
theorem YH:aQ afA Tryz.f329 (aX vX)=some (vX,MC):=by kernel_rfl
def qG:AC:= (SR [RV 6 (.kv (.slice none 0 0))] [0,1,2] (.seq (SR [RM 9 0,RM 10 1,RM 11 2,RC 12 vA [9,10,11],RU 13 12] [0,1,2,13] (.cond 13 (SR [RV 6 (.kv (.slice none 0 0))] [6] .ret) .skip)) (SR [RM 14 1,rq 15 (.pU 1 [VZ] 14 14),RM 7 15] [0,1,2,7] (.seq (SR [RM 16 7,RN 17 16,RV 18 (ki 0)] [0,1,2,7,17,18] (.block 0 (.loop (SR [RB 19 .lss 18 17] [0,1,2,7,17,18,19] (.seq (.cond 19 .skip (.exit 0)) (.seq (.block 1 (SR [RM 20 18,RM 8 20] [0,1,2,7,8,17,18] (SR [RM 21 7,RM 22 8,RM 23 0,RM 24 8,RB 25 .add 23 24,RI 26 1 21 22,WS 1 false 26 25] [0,1,2,7,8,17,18] (SR [RM 27 2] [0,1,2,7,8,17,18,27] (.cond 27 (RG [RM 28 7,RM 29 8,RM 30 0,RM 31 0,RM 32 1,RB 33 .rem 31 32,RB 34 .sub 30 33,RM 35 0,RM 36 8,RB 37 .add 35 36,RM 38 1,RB 39 .rem 37 38,RB 40 .add 34 39,RI 41 1 28 29,WS 1 false 41 40] [0,1,2,7,17,18]) .skip))))) (RG [RB 42 .add 18 (ki 1),RM 18 42] [0,1,2,7,17,18]))))))) (SR [RM 43 7,RM 6 43] [6] .ret)))))
def IX:List aW:=[.tm 6]
theorem VE:aQ afA Tryz.f332 (aX qG)=some (qG,IX):=by kernel_rfl
def i9:AC:= (SR [RV 4 (ki 0)] [0,1] (.seq (SR [RM 6 0,RN 7 6,RV 8 (ki 0)] [0,1,7,8] (.block 0 (.loop (SR [RB 9 .lss 8 7] [0,1,7,8,9] (.seq (.cond 9 .skip (.exit 0)) (.seq (.block 1 (SR [RM 10 8,RM 5 10] [0,1,5,7,8] (SR [RM 11 1,RM 12 0,RM 13 5,RI 14 1 12 13,RL 15 14,RB 16 .eql 11 15] [0,1,5,7,8,16] (.cond 16 (SR [RM 17 5,RM 4 17] [4] .ret) .skip)))) (RG [RB 18 .add 8 (ki 1),RM 8 18] [0,1,7,8]))))))) (SR [rq 4 (.move (.kv (.int .i64 (-1))))] [4] .ret)))
def rT:List aW:=[.tm 4]
theorem GG:aQ afA Tryz.f333 (aX i9)=some (i9,rT):=by kernel_rfl
def dJ:AC:= (SR [RV 4 (ki 0)] [0,1] (.seq (SR [RM 6 0,RN 7 6,RV 8 (ki 0)] [0,1,7,8] (.block 0 (.loop (SR [RB 9 .lss 8 7] [0,1,7,8,9] (.seq (.cond 9 .skip (.exit 0)) (.seq (.block 1 (SR [RM 10 8,RM 5 10] [0,1,5,7,8] (SR [RM 11 1,RM 12 0,RM 13 5,RI 14 4 12 13,RD 15 4 14,rq 16 (.AX 11 [15])] [0,1,5,7,8,16] (.cond 16 (SR [RM 17 5,RM 4 17] [4] .ret) .skip)))) (RG [RB 18 .add 8 (ki 1),RM 8 18] [0,1,7,8]))))))) (SR [rq 4 (.move (.kv (.int .i64 (-1))))] [4] .ret)))
def jB:List aW:=[.tm 4]
theorem oW:aQ afA Tryz.f337 (aX dJ)=some (dJ,jB):=by kernel_rfl
def oG:AC:= (SR [RO 2 0,RV 3 kF] [1,2] (SR [RL 4 1,RF 5 0 2,RL 6 5,RF 7 1 2,RL 8 7,RC 9 dZ [4,6,8],RM 3 9] [3] .ret))
def FG:List aW:=[.tm 3]
theorem TD:aQ afA Tryz.f338 (aX oG)=some (oG,FG):=by kernel_rfl
def m7:AC:= (SR [RV 2 kF] [0] (SR [RM 3 0,RC 4 GY [3],RU 5 4,RM 2 5] [2] .ret))
def EJ:List aW:=[.tm 2]
theorem QY:aQ afA Tryz.f339 (aX m7)=some (m7,EJ):=by kernel_rfl
def uP:AC:= (SR [RV 2 kF] [0] (SR [RM 3 0,RC 4 dZ [3,(ki 0),(ki 65535)],RM 2 4] [2] .ret))
def ME:List aW:=[.tm 2]
theorem YG:aQ afA Tryz.f340 (aX uP)=some (uP,ME):=by kernel_rfl
def eR:AC:= (SR [RV 2 (.kv (.slice none 0 0))] [0] (SR [RM 3 0,RM 4 0,RN 5 4,RM 6 0,RN 7 6,rq 8 (.slc 3 3 none (some 5) (some 7)),RM 2 8] [2] .ret))
def kZ:List aW:=[.tm 2]
theorem uF:aQ afA Tryz.f98 (aX eR)=some (eR,kZ):=by kernel_rfl
def pV:AC:= (SR [RO 3 1,RV 4 (ki 0)] [0,3] (.seq (SR [RM 6 0,RC 7 DD [6],RU 8 7,RM 9 8,GQ 10 (.load 7 true 3) 9 false,GQ 11 (.call CL [10]) 9 false,GU 12 11 9 false,RP 13 9 kT 12] [0,3,13] (.cond 13 (SR [rq 4 (.move (.kv (.int .i64 (-1))))] [4] .ret) .skip)) (SR [RM 14 0,RF 15 2 3,RL 16 15,RF 17 3 3,RL 18 17,RF 19 4 3,RL 20 19,RC 21 sT [16,18,20],RC 22 w9 [14,21],RM 5 22] [0,5] (.seq (SR [RM 23 5,RB 24 .lss 23 (ki 0)] [0,5,24] (.cond 24 (SR [RV 4 (ki 3)] [4] .ret) .skip)) (SR [RM 25 0,RM 26 5,RI 27 4 25 26,RF 28 2 27,RL 29 28,RM 4 29] [4] .ret)))))
def HK:List aW:=[.tm 4]
theorem UJ:aQ afA Tryz.f167 (aX pV)=some (pV,HK):=by kernel_rfl
def uL:AC:= (SR [RV 4 kF] [0,1] (.seq (SR [RM 6 0,RN 7 6,RM 8 1,RN 9 8,RB 10 .neq 7 9] [0,1,10] (.cond 10 (SR [RV 4 kF] [4] .ret) .skip)) (.seq (SR [RV 5 (ki 0)] [0,1,5] (.block 0 (.loop (.seq (SR [RM 11 5,RM 12 0,RN 13 12,RB 14 .lss 11 13] [0,1,5,14] (.cond 14 .skip (.exit 0))) (.seq (.block 1 (SR [RM 17 0,RM 18 5,RI 19 1 17 18,RL 20 19,RM 21 1,RM 22 5,RI 23 1 21 22,RL 24 23,RB 25 .neq 20 24] [0,1,5,25] (.cond 25 (SR [RV 4 kF] [4] .ret) .skip))) (RG [RM 15 5,RB 16 .add 15 (ki 1),RM 5 16] [0,1,5])))))) (SR [RV 4 kT] [4] .ret))))
def MM:List aW:=[.tm 4]
theorem cb:aQ afA Tryz.f101 (aX uL)=some (uL,MM):=by kernel_rfl
end Go.Proofs.YtlncecohbakleaaGreat
