/- Rules and contracts. -/
import Derived.Test.YtlncecohbakleaaGreatPM2
import Derived.Lib.Overlaps
import Derived.Test.YtlncecohbakleaaGreatProg
set_option linter.unusedVariables false
set_option linter.unusedSimpArgs false
set_option maxRecDepth 100000
set_option maxHeartbeats 8000000
noncomputable abbrev ag0:=Go.Proofs.Tryz.prog
abbrev ag1:=Go.AM.aC ag0
abbrev ag2:=Go.AM.D->Go.AM.aA->Nat->Prop
namespace Go.AM
open Go.RowKit
def cK(A B:Prop):D->Prop
 | .one (.c (.v (.bool t)))=>(t=true->A)/\(t=false->B)
 |_=>False
section
variable{P:Program}{T:Nat}{b:Nat}{live:List Nat}{K:Env -> aA -> Nat -> Prop}{L:List bB}{dst:Option Nat}{e:Env}{H:aA}{nx:Nat}{S:fE}{Q:AQ}{x y z:AC}{zs:List AC}
theorem aK.Xt{c:aZ}(h: ∀A B:Prop,(aK P T (x::zs) e H nx Q->A)->(aK P T (y::zs) e H nx Q->B)->cK A B (c.ev e)):aK P T (.cond c x y::zs) e H nx Q:=by
 have h:=h _ _ id id;unfold cK at h;split at h;·rename_i t a;exact aK.cond a h.1 h.2
 ·exact h.elim
theorem aa0{A B:Prop}:cK A B (.one (.c (.v (.bool true))))=A:=by simp[cK]
theorem Za{A B:Prop}:cK A B (.one (.c (.v (.bool false))))=B:=by simp[cK]
theorem acY{A B:Prop}{t:Bool}(a:t=true->A)(b:t=false->B):cK A B (.one (.c (.v (.bool t)))):=⟨a,b⟩
theorem acA{A B:Prop}{p:Prop}[Decidable p](h:p)(a:A):cK A B (.one (.c (.v (.bool (decide p))))):=⟨fun _=>a,fun b=>by simp[h] at b⟩
theorem ab4{A B:Prop}{p:Prop}[Decidable p](h: ¬p)(a:B):cK A B (.one (.c (.v (.bool (decide p))))):=⟨fun b=>by simp[h] at b,fun _=>a⟩
theorem acF{A B:Prop}{p:Prop}[Decidable p](a:p->A)(b: ¬p->B):cK A B (.one (.c (.v (.bool (decide p))))):=⟨fun h=>a (by simpa using h),fun h=>b (by simpa using h)⟩
def wvH(P:Program)(b:Nat)(live:List Nat)(K:Env->aA->Nat->Prop)(o:bB)(L:List bB)(t:Nat)(w:Bool)(e:Env)(H:aA)(nx:Nat)(S:fE):D->Prop
 | .one (.c (.v (.bool x)))=>if x=w then wv P b live K (o::L) (e.set t (.one (.c (.v (.bool x))))) H nx S else wv P b live K L ((e.set t (.one (.c (.v (.bool x))))).put o.dst (.tup [])) H nx S
 | .tup []=>wv P b live K L (e.put o.dst (.tup [])) H nx S
 |_=>False
variable{t:Nat}
theorem Env.Re{e:Env}{d:D}(h:e t=d):e.set t d=e:=by
 funext i;simp only[Env.set];split;·rename_i hi;rw[hi,h]
 ·rfl
variable{ix:Nat}{m s:List Nat}{k:Bool}
theorem acR{w:Bool}{op:AOp}:wv P b live K (⟨ix,dst,op,some (t,w),m,s,k⟩::L) e H nx S=wvH P b live K ⟨ix,dst,op,none,m,s,k⟩ L t w e H nx S (e t):=by
 rw[acT];generalize he:e t=d;by_cases a: ∃x,d= .one (.c (.v (.bool x)));·obtain⟨x,rfl⟩:=a;simp only[wvG,wvH];rw[Env.Re he]
 ·by_cases hu:d= .tup [];·subst hu;rfl
  ·unfold wvG wvH;split;·exact absurd ⟨_,rfl⟩ a
   ·exact absurd rfl hu
   ·split;·exact absurd ⟨_,rfl⟩ a
    ·exact absurd rfl hu
    ·rfl
theorem ab6{o:bB}{w:Bool}:wvH P b live K o L t w e H nx S (.tup [])=wv P b live K L (e.put o.dst (.tup [])) H nx S:=rfl
theorem Zk{o:bB}:wvH P b live K o L t true e H nx S (.one (.c (.v (.bool true))))=wv P b live K (o::L) (e.set t (.one (.c (.v (.bool true))))) H nx S:=rfl
theorem Ze{o:bB}:wvH P b live K o L t true e H nx S (.one (.c (.v (.bool false))))=wv P b live K L ((e.set t (.one (.c (.v (.bool false))))).put o.dst (.tup [])) H nx S:=rfl
theorem Yy{o:bB}:wvH P b live K o L t false e H nx S (.one (.c (.v (.bool true))))=wv P b live K L ((e.set t (.one (.c (.v (.bool true))))).put o.dst (.tup [])) H nx S:=rfl
theorem Yr{o:bB}:wvH P b live K o L t false e H nx S (.one (.c (.v (.bool false))))=wv P b live K (o::L) (e.set t (.one (.c (.v (.bool false))))) H nx S:=rfl
theorem Xw{o:bB}{t:Nat}{w u:Bool}(a:u=true->wvH P b live K o L t w e H nx S (.one (.c (.v (.bool true)))))(d:u=false->wvH P b live K o L t w e H nx S (.one (.c (.v (.bool false))))):
 wvH P b live K o L t w e H nx S (.one (.c (.v (.bool u)))):=by
 cases u with
 |true=>exact a rfl
 |false=>exact d rfl
theorem Zc{o:bB}{t:Nat}{w:Bool}{p:Prop}[Decidable p](h:p)(a:wvH P b live K o L t w e H nx S (.one (.c (.v (.bool true))))):wvH P b live K o L t w e H nx S (.one (.c (.v (.bool (decide p))))):=by rw[decide_eq_true h];exact a
theorem aaR{o:bB}{t:Nat}{w:Bool}{p:Prop}[Decidable p](h: ¬p)(a:wvH P b live K o L t w e H nx S (.one (.c (.v (.bool false))))):wvH P b live K o L t w e H nx S (.one (.c (.v (.bool (decide p))))):=by rw[decide_eq_false h];exact a
theorem abX{o:bB}{t:Nat}{w:Bool}{p:Prop}[Decidable p](a:p->wvH P b live K o L t w e H nx S (.one (.c (.v (.bool true)))))(d: ¬p->wvH P b live K o L t w e H nx S (.one (.c (.v (.bool false))))):
 wvH P b live K o L t w e H nx S (.one (.c (.v (.bool (decide p))))):=
 Xw (fun h=>a (by simpa using h)) (fun h=>d (by simpa using h))
theorem Td{z:List D1}:wv P b live K (⟨ix,dst,.alloc z,none,m,s,k⟩::L) e H nx S=wvA P b live K L dst (b+ix) e H nx S (pD (b+ix) e (.alloc z)):=Sn rfl
theorem Yp{g:Bool}{x:aZ}:wv P b live K (⟨ix,dst,.box g x,none,m,s,k⟩::L) e H nx S=wvA P b live K L dst (b+ix) e H nx S (pD (b+ix) e (.box g x)):=Sn rfl
theorem Mb{n len:Nat}{z:List D1}{a:List (Nat×Nat×aZ)}:wv P b live K (⟨ix,dst,.aV n len z a,none,m,s,k⟩::L) e H nx S=wvA P b live K L dst (b+ix) e H nx S (pD (b+ix) e (.aV n len z a)):=Sn rfl
theorem De{n:Nat}{z:List D1}{x y:aZ}:wv P b live K (⟨ix,dst,.rO n z x y,none,m,s,k⟩::L) e H nx S=wvA P b live K L dst (b+ix) e H nx S (pD (b+ix) e (.rO n z x y)):=Sn rfl
theorem Vk{id:Nat}{st:List Nat}{c:Prop}[Decidable c]{a:Nat}{x:Option (Option Nat×Nat×Nat×List (List D1))}:wvP P b live K L dst id m st e H nx S a (if c then x else none)=(c/\wvP P b live K L dst id m st e H nx S a x):=by split<;>rename_i h<;>simp[h,wvP]
theorem aa7{n i off len cap:Nat}:Ox (.one (.c (.osl n i off len cap)))=cap:=rfl
theorem yr{st:List Nat}:pC [] st H=True:=by simp[pC]
theorem vu{p:Nat}{g:aA->Prop}{st:List Nat}:pC ((p,g)::S) st H=((p∈st->g H)/\pC S st H):=by simp[pC]
theorem Mx{k:XK}{l:List aZ}:bL H e (.xop k l)=xq k (l.map (·.ev e)):=rfl
def Sz(P:Program)(args:List D)(H:aA)(nx:Nat)(R:ag2):D->Prop
 | .one (.c (.clo f caps))=>aC P f (args++caps.map fun d=>.one (.c d)) H nx R
 |_=>False
theorem On{f:aZ}{xs:List aZ}:wv P b live K (⟨ix,dst,.xB f xs,none,m,s,k⟩::L) e H nx S=Sz P (xs.map (·.ev e)) (msk b m H) nx (JG P b live K L dst m s e H S) (f.ev e):=by
 unfold wv;simp only[avc,pP,DB,aop,AOp.kind,PT];generalize f.ev e=d;unfold Sz;split;·simp only[D.one.injEq,DV.c.injEq,D1.clo.injEq,eq_iff_iff];exact⟨by rintro⟨_,_,⟨rfl,rfl⟩,h⟩;exact h,fun h=>⟨_,_,⟨rfl,rfl⟩,h⟩⟩
 ·rename_i a;simp only[eq_iff_iff,iff_false];rintro⟨f,caps,rfl,_⟩;exact a f caps rfl
section
variable{id i kn:Nat}{bl ok:Bool}{R:ag2}{m:pZ}{l:List Int}{n:Int}{k v:D}
theorem Rs:xl P id H nx R (.LX kn bl) []=R (.one (.c (.omap id))) (H.set id (DH ⟨kn,bl,[]⟩)) nx:=rfl
theorem Kv:xl P id H nx R .zL [.one (.c (.omap i))]=xlL H nx R (RH H i):=rfl
theorem Gh:xl P id H nx R .zL [.one (.c (.WE m))]=xlL H nx R (some m):=rfl
theorem Dj:xl P id H nx R (.wL kn bl ok) [.one (.c (.WE m)),k]=xlG H nx R kn bl ok (some m) (XM kn k):=rfl
theorem Md:xl P id H nx R (.wL kn bl ok) [.one (.c (.omap i)),k]=xlG H nx R kn bl ok (RH H i) (XM kn k):=rfl
theorem Lz:xl P id H nx R (.DE kn bl) [.one (.c (.omap i)),k,v]=xlS H nx R kn bl i (RH H i) (XM kn k) (bn bl v):=rfl
theorem Qc:xlL H nx R (some m)=R (.one (.c (.v (.int .i64 m.m.length)))) H nx:=rfl
theorem abC:xlG H nx R kn bl true (some m) (some l)=((m.kn=kn/\m.bl=bl/\l.length=IK kn)/\R (.tup [.c (.v (elemV bl ((j9 m.m l).getD 0))),.c (.v (.bool (j9 m.m l).isSome))]) H nx):=rfl
theorem abK:xlG H nx R kn bl false (some m) (some l)=((m.kn=kn/\m.bl=bl/\l.length=IK kn)/\R (.one (.c (.v (elemV bl ((j9 m.m l).getD 0))))) H nx):=rfl
theorem Qp:xlS H nx R kn bl i (some m) (some l) (some n)=((m.kn=kn/\m.bl=bl/\l.length=IK kn)/\R .dead (H.set i (DH ⟨kn,bl,B1 m.m l n⟩)) nx):=rfl
theorem Qu:RH H i=(H i).bind Pt:=rfl
theorem Qq{cs:List D1}:XM kn (.one (.agg cs))=if kn=0 then none else FD cs:=rfl
theorem aaP:XM kn (.one (.c (.v (.int .i64 n))))=if kn=0 then some [n] else none:=rfl
theorem Xf{b:Bool}:bn bl (.one (.c (.v (.bool b))))=if bl then some (if b then 1 else 0) else none:=rfl
theorem Wy:bn bl (.one (.c (.v (.int .i64 n))))=if bl then none else some n:=rfl
theorem Vr:elemV true n= .bool (decide (n≠0)):=rfl
theorem Vp:elemV false n= .int .i64 n:=rfl
theorem Jv:FD []=some []:=rfl
theorem Fp{r:List D1}:FD (.v (.int .i64 n)::r)=(FD r).map (n:: ·):=rfl
theorem Zy{xs ys:List D1}{g:Bool}{q:Nat}:xq (.aeq g q) [.one (.agg xs),.one (.agg ys)]=eqD g q xs ys (FD xs) (FD ys):=rfl
theorem Th{xs ys:List D1}{q:Nat}{a b:List Int}:eqD false q xs ys (some a) (some b)=if xs.length=q/\ys.length=q then some (.one (.c (.v (.bool (decide (a=b)))))) else none:=rfl
theorem Vn{xs ys:List D1}{q:Nat}{a b:List Int}:eqD true q xs ys (some a) (some b)=if xs.length=q/\ys.length=q then some (.one (.c (.v (.bool (decide (¬a=b)))))) else none:=rfl
theorem Va:IK kn=if kn=0 then 1 else kn:=rfl
end
theorem NT{F:Nat->Prop}{σ:Nat->Nat}{nh:Nat}{x a:pZ}(h:a=x):CvO H F σ nh (DH a) (DH x):=by subst h;exact cP fun r hr=>by cases hr
theorem Jw{f:FuncId}{caps:List D1}{args:List D}{R:ag2}:Sz P args H nx R (.one (.c (.clo f caps)))=aC P f (args++caps.map fun d=>.one (.c d)) H nx R:=rfl
theorem acS{a b:Int}:(a==b)=decide (a=b):=by by_cases h:a=b<;>simp[h]
theorem acD{a b:Int}:(a != b)=decide (¬a=b):=by by_cases h:a=b<;>simp[h]
theorem acK{p:Prop}[Decidable p]:(!decide p)=decide (¬p):=by by_cases h:p<;>simp[h]
theorem Ud{α:Type}{enc:α->List D1}{l:List α}{i:Nat}{x:α}:(l.map enc).set i (enc x)=(l.set i x).map enc:=(aeH).symm
theorem Sf{α:Type}{enc:α->List D1}{l:List α}{x:α}:l.map enc++[enc x]=(l++[x]).map enc:=by simp
theorem Px{α:Type}{enc:α->List D1}{l:List α}{k:Nat}:(l.map enc).take k=(l.take k).map enc:=(afG).symm
theorem Nx{α:Type}{enc:α->List D1}{l:List α}{k:Nat}:(l.map enc).drop k=(l.drop k).map enc:=(aeI).symm
end
abbrev dI(n:Int):D:=.one (.c (.v (.int .i64 n)))
abbrev dB(b:Bool):D:=.one (.c (.v (.bool b)))
abbrev dS(rows:List (List D1)):D:=.one (.c (.isl rows))
abbrev dO(n id len cap:Nat):D:=.one (.c (.osl n id 0 len cap))
abbrev dP(n id:Nat):D:=.one (.c (.ptr n id 0 0))
abbrev dA(cs:List D1):D:=.one (.agg cs)
abbrev cI(n:Int):D1:=.v (.int .i64 n)
abbrev cB(b:Bool):D1:=.v (.bool b)
def aF(x:Int):List D1:=[.v (.int .i64 x)]
theorem nB{p:Prop}[Decidable p](h:p):dB true=dB (decide p):=by rw[decide_eq_true h]
theorem gV{p:Prop}[Decidable p](h: ¬p):dB false=dB (decide p):=by rw[decide_eq_false h]
theorem nJ{p q:Prop}[Decidable p][Decidable q](h:p↔q):dB (decide p)=dB (decide q):=by rw[decide_eq_decide.2 h]
theorem nK{a b:Int}(h:a=b):dI a=dI b:=by rw[h]
theorem Rd{l:List Int}{x:Int}:l.map aF++[[.v (.int .i64 x)]]=(l++[x]).map aF:=by simp[aF]
theorem Xj{l:List Int}{i:Nat}{x:Int}:(l.map aF).set i [.v (.int .i64 x)]=(l.set i x).map aF:=by rw[aeH];rfl
attribute [go_sem] Rd Xj
section
variable {rows : List (List D1)} {k k' k'' : IntKind} {a b c : Int} {n m id off len cap : Nat}
theorem aaX:zA n (.one (.c (.isl rows))) none (some (.one (.c (.v (.int k a))))) none=if (0<=a/\a<=rows.length)/\(∀r∈rows,r.length=n) then some (.one (.c (.isl (rows.take a.toNat)))) else none:=by
 by_cases d: ∀r∈rows,r.length=n;·by_cases b:0<=a<;>simp only[zA,ME,b,eq_true d,if_true,if_false,reduceIte,and_true,and_false,true_and,false_and]<;>(repeat' split)<;>first|rfl| (exfalso;omega)| (simp only[ad6,Nat.sub_zero,Option.some.injEq,D.one.injEq,DV.c.injEq,D1.isl.injEq];first|rfl|exact ac6 (by simp)|exact ac6 (ac1 _))
 ·by_cases b:0<=a<;>simp only[zA,ME,b,eq_false d,if_true,if_false,reduceIte,and_true,and_false,true_and,false_and]<;>(repeat' split)<;>first|rfl| (exfalso;omega)| (simp only[ad6,Nat.sub_zero,Option.some.injEq,D.one.injEq,DV.c.injEq,D1.isl.injEq];first|rfl|exact ac6 (by simp)|exact ac6 (ac1 _))
theorem aaE:zA n (.one (.c (.isl rows))) (some (.one (.c (.v (.int k a))))) none none=if (0<=a/\a<=rows.length)/\(∀r∈rows,r.length=n) then some (.one (.c (.isl (rows.drop a.toNat)))) else none:=by
 by_cases d: ∀r∈rows,r.length=n;·by_cases b:0<=a<;>simp only[zA,ME,b,eq_true d,if_true,if_false,reduceIte,and_true,and_false,true_and,false_and]<;>(repeat' split)<;>first|rfl| (exfalso;omega)| (simp only[ad6,Nat.sub_zero,Option.some.injEq,D.one.injEq,DV.c.injEq,D1.isl.injEq];first|rfl|exact ac6 (by simp)|exact ac6 (ac1 _))
 ·by_cases b:0<=a<;>simp only[zA,ME,b,eq_false d,if_true,if_false,reduceIte,and_true,and_false,true_and,false_and]<;>(repeat' split)<;>first|rfl| (exfalso;omega)| (simp only[ad6,Nat.sub_zero,Option.some.injEq,D.one.injEq,DV.c.injEq,D1.isl.injEq];first|rfl|exact ac6 (by simp)|exact ac6 (ac1 _))
theorem aa4:zA n (.one (.c (.osl m id off len cap))) none (some (.one (.c (.v (.int k a))))) none=if (m=n\/cap=0)/\0<=a/\a<=cap then some (.one (.c (.osl n id off a.toNat cap))) else none:=by by_cases b:0<=a<;>simp only[zA,ME,Bt,b,if_true,if_false,reduceIte,and_true,true_and,and_false,false_and]<;>(repeat' split)<;>first| (exfalso;omega)| (simp;done)| (simp;omega)
theorem Yw:zA n (.one (.c (.osl m id off len cap))) (some (.one (.c (.v (.int k a))))) none none=if (m=n\/cap=0)/\0<=a/\a<=len/\len<=cap then some (.one (.c (.osl n id (off+a.toNat) (len-a.toNat) (cap-a.toNat)))) else none:=by by_cases b:0<=a<;>simp only[zA,ME,Bt,b,if_true,if_false,reduceIte,and_true,true_and,and_false,false_and]<;>(repeat' split)<;>first| (exfalso;omega)| (simp;done)| (simp;omega)
theorem Wl:zA n (.one (.c (.osl m id off len cap))) (some (.one (.c (.v (.int k a))))) (some (.one (.c (.v (.int k' b))))) none=if (m=n\/cap=0)/\0<=a/\a<=b/\b<=cap then some (.one (.c (.osl n id (off+a.toNat) (b.toNat-a.toNat) (cap-a.toNat)))) else none:=by by_cases d:0<=a<;>by_cases e:0<=b<;>simp only[zA,ME,Bt,d,e,if_true,if_false,reduceIte,and_true,true_and,and_false,false_and]<;>(repeat' split)<;>first| (exfalso;omega)| (simp;done)| (simp;omega)
theorem Wu:zA n (.one (.c (.osl m id off len cap))) none (some (.one (.c (.v (.int k a))))) (some (.one (.c (.v (.int k' b)))))=if (m=n\/cap=0)/\0<=a/\a<=b/\b<=cap then some (.one (.c (.osl n id off a.toNat b.toNat))) else none:=by by_cases d:0<=a<;>by_cases e:0<=b<;>simp only[zA,ME,Bt,d,e,if_true,if_false,reduceIte,and_true,true_and,and_false,false_and]<;>(repeat' split)<;>first| (exfalso;omega)| (simp;done)| (simp;omega)
theorem Rc:zA n (.one (.c (.osl m id off len cap))) (some (.one (.c (.v (.int k a))))) (some (.one (.c (.v (.int k' b))))) (some (.one (.c (.v (.int k'' c)))))=if (m=n\/cap=0)/\0<=a/\a<=b/\b<=c/\c<=cap then some (.one (.c (.osl n id (off+a.toNat) (b.toNat-a.toNat) (c.toNat-a.toNat)))) else none:=by by_cases d:0<=a<;>by_cases e:0<=b<;>by_cases hc:0<=c<;>simp only[zA,ME,Bt,d,e,hc,if_true,if_false,reduceIte,and_true,true_and,and_false,false_and]<;>(repeat' split)<;>first| (exfalso;omega)| (simp;done)| (simp;omega)
end
attribute [go_sem] aaX aaE aa4 Yw Wl Wu Rc true_or or_true
def en:List (Nat×D)->Env
 | []=>Env.nil
 | (t,d)::l=>(en l).set t d
theorem aaL:en []=Env.nil:=rfl
theorem Wr{t:Nat}{d:D}{l:List (Nat×D)}:en ((t,d)::l)=(en l).set t d:=rfl
def hp:List (Nat×bN)->aA
 | []=>aA.nil
 | (i,o)::l=>(hp l).set i o
theorem aaS:hp []=aA.nil:=rfl
theorem Wh{i:Nat}{o:bN}{l:List (Nat×bN)}:hp ((i,o)::l)=(hp l).set i o:=rfl
def DV.imm:DV->Bool
 | .c d=>d.eW
 | .agg a=>a.all D1.eW
def D.imm:D->Bool
 | .one x=>x.imm
 | .tup xs=>xs.all DV.imm
 | .dead=>false
section
variable{P:Program}{H G:aA}{F:Nat -> Prop}{σ:Nat -> Nat}{nx nh:Nat}{e e':Env}
theorem wx{τ:Nat->Nat}{d:D1}(h:d.eW=true):rn1 τ d=d:=by cases d<;>first|rfl|cases h
theorem Ht{τ:Nat->Nat}{d:DV}(h:d.imm=true):rnV τ d=d:=by
 cases d with
 |c d=>simp only[rnV];rw[wx h]
 |agg a=>
  simp only[rnV];congr 1;have b:=adK.1 h;conv=>rhs;rw[<-afF a]
  exact aeE fun x e=>wx (b x e)
theorem yf{τ:Nat->Nat}{d:D}(h:d.imm=true):rnD τ d=d:=by
 cases d with
 |one x=>simp only[rnD];rw[Ht h]
 |dead=>rfl
 |tup xs=>
  simp only[rnD];congr 1;have a:=adK.1 h;conv=>rhs;rw[<-afF xs]
  exact aeE fun x b=>Ht (a x b)
theorem Tb{d:DV}(h:d.imm=true):CvV H F σ nh d d:=by
 cases d with
 |c d=>exact bE h
 |agg b=>exact xV fun x a=>adK.1 h x a
theorem aE{d:D}(h:d.imm=true):CvD H F σ nh d d:=by
 cases d with
 |one x=>exact Tb h
 |dead=>trivial
 |tup xs=>refine⟨rfl,fun i a b c e=> ?_⟩;rw[c] at e;cases e;exact Tb (adK.1 h a (adI c))
theorem aC.fresh{f:FuncId}{args:List D}{K:ag2}{R:D->Prop}(h:aC P f args .nil 0 fun r _ n=>n=0/\r.imm=true/\R r)(a:args.all D.imm=true)(e: ∀r,R r->K r H nx):aC P f args H nx K:=by
 refine aC.lift h id rfl (fun i g d b c=> ?_) YW (fun i hi=>absurd hi (adV i)) (fun i j hi=>absurd hi (adV i)) fun r H' n' _ ⟨b,c,k⟩=> ?_;·rw[b] at c;cases c;exact aE (adK.1 a g (adI b))
 ·subst b;rw[yf c];exact e r k
theorem HG{Q:AQ}{rs:List aX}{R:D->Prop}(e: ∀ex b H2 a d nh d2 f F σ,ex=AEx.normal\/ex=AEx.ret->nP H2 b rs=some d->CvR 0 d H2 nh d2 f F σ->(nh=0/\d2.imm=true/\R d2)->Q ex b H2 a)
 {b:Env} {H2:aA} {a:Nat} (c d:D) (g:nP H2 b rs=some d) (h:CvD H2 (fun _=>True) id 0 c d) (i:c.imm=true) (j:R c):Q .ret b H2 a:=
 e _ _ _ _ d 0 c .nil (fun _=>True) id (.inr rfl) g ⟨ac1 _,fun _ _=>rfl,h,YW⟩ ⟨rfl,i,j⟩
def vw(n:Nat)(rows:List (List D1)):Prop:=∀r∈rows,r.length=n/\ ∀x∈r,x.eW=true
variable{n:Nat}
theorem aG{α:Type}{enc:α->List D1}(h: ∀x,(enc x).length=n/\(enc x).all D1.eW=true)(l:List α):vw n (l.map enc):=by intro r hr;obtain⟨x,_,rfl⟩:=ac9.1 hr;exact⟨(h x).1,adK.1 (h x).2⟩
variable{rows:List (List D1)}{len cap:Nat}
theorem Hn{id:Nat}{o:bN}(hi:vw n rows)(hl:len=rows.length)(d:F id)(e:H id=some o)(f:o.n=n)(hr:o.rows.take rows.length=rows)(hc:rows.length<=cap):Cv1 H F σ nh (.isl rows) (.osl n id 0 len cap):=by
 subst hl;have hle:rows.length<=o.rows.length:=by have:=congrArg List.length hr;rw[adP] at this;omega
 have g: ∀i:Nat,∀r',rows[i]?=some r'->o.rows[i]?=some r':=by
  intro i r' h;rw[<-hr,ad2] at h;split at h;·exact h
  ·cases h
 refine .frz (.frz rows n id 0 cap o (fun i j=>((rows[i]?.getD [])[j]?).getD .dead) d e f (by omega) hc (fun i r' h=>(hi r' (adI h)).1) (fun i j r' c a b=>⟨r',by rw[aeR];exact g i r' a,by rw[a];simp[b]⟩) fun i j r' c a b=> ?_);rw[a];simp only[Option.getD_some,b];exact .same c ((hi r' (adI a)).2 c (adI b))
theorem yA{n id off:Nat}:Cv1 H F σ nh (.isl []) (.osl n id off 0 0):=.frz (.nil n id off)
theorem gG{n id d off a len b cap c:Nat}(h:d<nh)(hs:σ d=id)(e:a=off)(f:b=len)(g:c=cap):Cv1 H F σ nh (.osl n d a b c) (.osl n id off len cap):=by subst e;subst f;subst g;exact Uv h hs
theorem D3{id:Nat}{o:bN}(hi:vw n rows)(hl:len=rows.length)(a:F id)(b:H id=some o)(d:o.n=n)(hr:o.rows.take rows.length=rows)(hc:rows.length<=cap):CvD H F σ nh (dS rows) (.one (.c (.osl n id 0 len cap))):=Hn hi hl a b d hr hc
theorem qL{id e off a b d:Nat}(h:e<nh)(hs:σ e=id)(f:a=off)(g:b=len)(i:d=cap):CvD H F σ nh (.one (.c (.osl n e a b d))) (.one (.c (.osl n id off len cap))):=gG h hs f g i
theorem pL{id a row b:Nat}(h:a<nh)(hs:σ a=id):CvD H F σ nh (.one (.c (.ptr n a row b))) (.one (.c (.ptr n id row b))):=xt h hs
theorem Ay{f:FuncId}{caps:List D1}(h:caps.all D1.eW=true):Cv1 H F σ nh (.clo f caps) (.clo f caps):=
 .clo f caps caps rfl fun i x y a b=>by rw[a] at b;cases b;have:=adK.1 h x (adI a);exact .inl ⟨this,.same x this⟩
theorem nM{f:FuncId}{caps:List D1}(h:caps.all D1.eW=true):CvD H F σ nh (.one (.c (.clo f caps))) (.one (.c (.clo f caps))):=Ay h
def Qg(H:aA)(F:Nat->Prop):List D1->List D1->Prop
 | [],[]=>True
 |x::xs,y::ys=>(x.eW=true/\Frz H F x y)/\Qg H F xs ys
 |_,_=>False
theorem KV: ∀{xs ys:List D1},Qg H F xs ys->xs.length=ys.length/\ ∀(i:Nat) (x y:D1),xs[i]?=some x->ys[i]?=some y->x.eW=true/\Frz H F x y
 | [],[],_=>⟨rfl,fun i x y h=>by simp at h⟩
 |a::xs,b::ys,h=>⟨by simp[(KV h.2).1],fun i x y c d=>by
  match i with
  |0=>simp at c d;subst c;subst d;exact h.1
  |i+1=>exact(KV h.2).2 i x y (by simpa using c) (by simpa using d)⟩
 | [],_::_,h=>h.elim
 |_::_,[],h=>h.elim
theorem O4{f:FuncId}{a caps:List D1}(h:Qg H F a caps):CvD H F σ nh (.one (.c (.clo f a))) (.one (.c (.clo f caps))):=
 .clo f caps a (KV h).1 fun i x y b d=>.inl ((KV h).2 i x y b d)
theorem tI{cells:List D1}{id:Nat}{o:bN}(hi:cells.all D1.eW=true)(b:F id)(c:H id=some o)(d:o.n=n)(hr:o.rows[0]?=some cells):(D1.dQ cells).eW=true/\Frz H F (.dQ cells) (.ptr n id 0 0):=
 ⟨rfl,.ptr cells n id 0 0 o cells (fun j=>(cells[j]?).getD .dead) b c d hr (fun j a h=>by simp[h]) (fun j a h=>by
  simp only[h,Option.getD_some]
  exact .same a (adK.1 hi a (adI h)))⟩
theorem dd{cells:List D1}{n id:Nat}{o:bN}(hi:cells.all D1.eW=true)(a:F id)(b:H id=some o)(d:o.n=n)(hr:o.rows[0]?=some cells):CvD H F σ nh (.one (.c (.dQ cells))) (.one (.c (.ptr n id 0 0))):=
 .frz (tI hi a b d hr).2
theorem bI(hle:nx<=nh)(h:CvE H (fun _=>True) id nh e' e): ∃F σ,Cv nx e H nh e' .nil F σ:=⟨fun _=>True,id,hle,fun _ _=>rfl,h,YW⟩
def Xx(H:aA):List D->List D->Prop
 | [],[]=>True
 |a::l0,d::l=>CvD H (fun _=>True) id 0 a d/\Xx H l0 l
 |_,_=>False
theorem aM: ∀{l0 l:List D},Xx H l0 l->∀(i:Nat) (c d:D),l0[i]?=some c->l[i]?=some d->CvD H (fun _=>True) id 0 c d
 | [],[],_,i,c,d,e,_=>by simp at e
 |a::l0,b::l,h,i,c,d,e,f=>by
  match i with
  |0=>simp at e f;subst e;subst f;exact h.1
  |i+1=>exact aM h.2 i c d (by simpa using e) (by simpa using f)
 | [],_::_,h,_,_,_,_,_=>h.elim
 |_::_,[],h,_,_,_,_,_=>h.elim
theorem oI{α:Type}{enc:α->List D1}{l:List α}{id m:Nat}(he: ∀x,(enc x).length=n/\(enc x).all D1.eW=true)(a:H id=some ⟨n,m,l.map enc⟩)(hl:len=l.length)(hc:l.length<=cap)(b:F id):CvD H F σ nh (dS (l.map enc)) (.one (.c (.osl n id 0 len cap))):=D3 (aG he l) (by simp[hl]) b a rfl (ac6 (ac1 _)) (by simp;omega)
theorem gH{t:Nat}{d:D}{l:List (Nat×D)}(h:CvE H F σ nh (en l) e)(a:CvD H F σ nh d (e t)):CvE H F σ nh (en ((t,d)::l)) e:=Uf h a
theorem T2:CvE H F σ nh (en []) e:=fun _=>trivial
def sgL(nx:Nat)(s:List Nat)(i:Nat):Nat:=if i<nx then i else (s[i-nx]?).getD i
def OkO(H:aA)(F:Nat->Prop)(σ:Nat->Nat)(nh:Nat):List (Nat×bN)->Prop
 | []=>True
 |p::l=>(p.1<nh/\ ¬F (σ p.1)/\ ∃o,H (σ p.1)=some o/\CvO H F σ nh p.2 o)/\OkO H F σ nh l
theorem wg: ∀{l:List (Nat×bN)} {i:Nat} {o:bN},hp l i=some o->(i,o)∈l
 | [],i,o,h=>by simp[hp,aA.nil] at h
 | (j,p)::l,i,o,h=>by
   simp only[hp,aA.set] at h;split at h;·rename_i hi;cases h;subst hi;simp
   ·exact ad7 _ (wg h)
theorem Ia: ∀{l:List (Nat×bN)},OkO H F σ nh l->∀p∈l,p.1<nh/\ ¬F (σ p.1)/\ ∃o,H (σ p.1)=some o/\CvO H F σ nh p.2 o
 | [],_,p,hp=>by simp at hp
 |q::l,h,p,hp=>by
  rcases adA.1 hp with rfl|hp;·exact h.1
  ·exact Ia h.2 p hp
variable{l:List (Nat×bN)}
theorem Lo(h:(l.map fun p=>σ p.1).Nodup){p q:Nat×bN}(d:p∈l)(e:q∈l)(he:σ p.1=σ q.1):p=q:=by
 induction l with
 |nil=>simp at d
 |cons a l f=>
  simp only[adG,aeA] at h;rcases adA.1 d with b|b<;>rcases adA.1 e with c|c;·rw[b,c]
  ·subst b;exact absurd (ac9.2 ⟨q,c,he.symm⟩:σ p.1∈l.map fun p=>σ p.1) h.1
  ·subst c;exact absurd (ac9.2 ⟨p,b,he⟩:σ q.1∈l.map fun p=>σ p.1) h.1
  ·exact f h.2 b c
theorem SI(h:OkO H F σ nh l)(b:(l.map fun p=>σ p.1).Nodup):CvH H F σ nh (hp l):=⟨fun id o' a=>Ia h _ (wg a),fun i j o o' hi c he=>congrArg Prod.fst (Lo b (wg hi) (wg c) he)⟩
theorem eD(s:List Nat)(hle:nx<=nh)(a:CvE H (· ∉s) (sgL nx s) nh e' e)(b:OkO H (· ∉s) (sgL nx s) nh l)(c:(l.map fun p=>sgL nx s p.1).Nodup): ∃F σ,Cv nx e H nh e' (hp l) F σ:=⟨_,_,hle,fun i hi=>by simp[sgL,hi],a,SI b c⟩
theorem fT{d a:D}(s:List Nat)(hle:nx<=nh)(b:CvD H (· ∉s) (sgL nx s) nh a d)(c:OkO H (· ∉s) (sgL nx s) nh l)(e:(l.map fun p=>sgL nx s p.1).Nodup):CvR nx d H nh a (hp l) (· ∉s) (sgL nx s):=⟨hle,fun i hi=>by simp[sgL,hi],b,SI c e⟩
theorem aY{m b:Nat}{a:List (List D1)}(hi:vw n a)(h:a=rows)(hm:b=m):CvO H F σ nh ⟨n,b,a⟩ ⟨n,m,rows⟩:=by subst h;subst hm;exact cP fun r hr=>(hi r hr).2
theorem aK.Rf{P:Program}{T:Nat}{e:Env}{H:aA}{nx:Nat}{Q:AQ}{x:AC}{zs:List AC}{α:Type}(m:Nat)(E:Nat->α->Env)(G:Nat->α->aA)(μ:α->Nat)(a:α)(c: ∃F σ,Cv nx e H (nx+m) (E nx a) (G nx a) F σ)
 (h: ∀u,∀K:Env->aA->Nat->Prop,(∀e' H' nx' b,nx+m<=nx'->μ b<μ u->(∃F σ,Cv nx e' H' (nx+m) (E nx b) (G nx b) F σ)->K e' H' nx')->aK P T [x] (E nx u) (G nx u) (nx+m) (AQ.then K Q)):aK P T (.loop x::zs) e H nx Q:=
 aK.loop (E nx) (G nx) (nx+m) μ a c h
end
attribute [go_sem] aa7 Rs Kv Gh Md Dj Lz Qc abC abK Qp Qu Ll Qq aaP Xf Wy Vr Vp Jv Fp Zy Th Vn Va yr vu adA ad4 or_false false_or or_self Mx On Jw Px Nx Vk ac6 List.length_range List.length_replicate Td Yp Mb De acR ab6 Zk Ze Yy Yr aa0 Za acS acD acK Ud Sf aaL Wr aaS Wh aF gt_iff_lt ge_iff_le Int.reduceEq Int.reduceNe Int.reduceLT Int.reduceLE Int.reduceAdd Int.reduceSub Int.reduceMul Int.reduceNeg decide_true decide_false Int.toNat_natCast af7 Bool.not_false not_true_eq_false not_false_eq_true aeP ac7 Nat.reduceMul Nat.reduceSub Nat.reduceLT Int.reduceToNat
section
variable{P:Program}{H G:aA}{F:Nat -> Prop}{σ:Nat -> Nat}{nx nh:Nat}{e e':Env}
def kC(o:bN):Prop:=∀r∈o.rows,∀x∈r,x.eW=true
theorem mW{τ:Nat->Nat}{o:bN}(h:kC o):o.rn τ=o:=by
 unfold bN.rn;congr 1;conv=>rhs;rw[<-afF o.rows]
 refine aeE fun r hr=> ?_;conv=>rhs;rw[<-afF r]
 exact aeE fun x a=>wx (h r hr x a)
theorem aA.aa5{i:Nat}{o:bN}:H.upd i (some o)=H.set i o:=rfl
theorem aC.ML{f:FuncId}{args0 args:List D}{K:ag2}{o:bN}{R:D->bN->Prop}(i:Nat)(h:aC P f args0 (hp [(0,o)]) 1 fun r H' n'=>n'=1/\ ∃o',H'=hp [(0,o')]/\kC o'/\R r o')(hlen:args.length=args0.length)
 (a: ∀(j:Nat) (c d:D),args0[j]?=some c->args[j]?=some d->CvD H (fun _=>False) (fun _=>i) 1 c d) (hi:i<nx) (g:H i=some o) (b:kC o) (l: ∀r o',R r o'->K (rnD (tau 1 nx fun _=>i) r) (H.set i o') nx):aC P f args H nx K:=by
 refine aC.lift h (fun _=>i) hlen a (SI ⟨⟨Nat.zero_lt_one,fun h=>h,o,g,cP b⟩,trivial⟩ (by simp)) (fun j _=>hi) (fun j k s t _=>by omega) fun r H' n' hle ⟨m,o',n,p,q⟩=> ?_
 subst m;subst n
 have e:back (tau 1 nx fun _=>i) (hp [(0,o')]) 1 H=H.set i o':=by
  simp only[back,hp,aA.set,Option.map_some,mW p,aA.aa5,if_true];have:tau 1 nx (fun _=>i) 0=i:=by simp[tau]
  rw[this]
 rw[e]
 exact l r o' q
theorem aC.ab1{f:FuncId}{args0 args:List D}{K:ag2}{m n:bN}{R:D->bN->bN->Prop}(i j:Nat)(h:aC P f args0 (hp [(0,m),(1,n)]) 2 fun r H' n'=>n'=2/\ ∃c g,H'=hp [(0,c),(1,g)]/\kC c/\kC g/\R r c g)(hlen:args.length=args0.length)
 (l: ∀(k:Nat) (s d:D),args0[k]?=some s->args[k]?=some d->CvD H (fun _=>False) (fun k=>if k=0 then i else j) 2 s d) (hi:i<nx) (E:j<nx) (o:i≠j) (p:H i=some m) (q:H j=some n) (v:kC m) (w:kC n)
 (x: ∀r c g,R r c g->K (rnD (tau 2 nx fun k=>if k=0 then i else j) r) ((H.set i c).set j g) nx):aC P f args H nx K:=by
 refine aC.lift h (fun k=>if k=0 then i else j) hlen l (SI ⟨⟨by simp,fun h=>h,m,by simpa using p,cP v⟩,⟨by simp,fun h=>h,n,by simpa using q,cP w⟩,trivial⟩ (by simpa using o)) (fun k _=>by split<;>assumption) (fun a b F G he=> ?_) fun r H' n' hle ⟨y,c,g,z,t,u,A⟩=> ?_
 ·split at he<;>split at he<;>omega
 subst y;subst z
 have e:back (tau 2 nx fun k=>if k=0 then i else j) (hp [(0,c),(1,g)]) 2 H=(H.set i c).set j g:=by
  have B:tau 2 nx (fun k=>if k=0 then i else j) 0=i:=by simp[tau]
  have C:tau 2 nx (fun k=>if k=0 then i else j) 1=j:=by simp[tau]
  simp only[back,hp,aA.set,B,C,Option.map_some,mW t,mW u,if_true,aeR];simp only[Nat.zero_ne_one,ae8,if_false,Option.map_some,mW t,mW u];rfl
 rw[e]
 exact x r c g A
theorem jZ{Q:AQ}{rs:List aX}{R:D->bN->Prop}(g: ∀ex b H2 a d nh d2 e F σ,ex=AEx.normal\/ex=AEx.ret->nP H2 b rs=some d->CvR 1 d H2 nh d2 e F σ->(nh=1/\ ∃o',e=hp [(0,o')]/\kC o'/\R d2 o')->Q ex b H2 a)
 {b:Env} {H2:aA} {a:Nat} (c d:D) (o':bN) (j:nP H2 b rs=some d) (k:CvD H2 (fun i=>i≠0) id 1 c d) (l:H2 0=some o') (f:kC o') (m:R c o'):Q .ret b H2 a:=
 g _ _ _ _ d 1 c (hp [(0,o')]) (fun i=>i≠0) id (.inr rfl) j ⟨ac1 _,fun _ _=>rfl,k,SI ⟨⟨Nat.zero_lt_one,fun h=>h rfl,o',l,cP f⟩,trivial⟩ (by simp)⟩ ⟨rfl,o',rfl,f,m⟩
theorem Pr{Q:AQ}{rs:List aX}{R:D->bN->bN->Prop}(m: ∀ex g H2 a d nh d2 j F σ,ex=AEx.normal\/ex=AEx.ret->nP H2 g rs=some d->CvR 2 d H2 nh d2 j F σ->(nh=2/\ ∃b c,j=hp [(0,b),(1,c)]/\kC b/\kC c/\R d2 b c)->Q ex g H2 a)
 {g:Env} {H2:aA} {a:Nat} (h d:D) (e f:bN) (n:nP H2 g rs=some d) (o:CvD H2 (fun i=>2<=i) id 2 h d) (p:H2 0=some e) (q:H2 1=some f) (k:kC e) (l:kC f) (r:R h e f):Q .ret g H2 a:=
 m _ _ _ _ d 2 h (hp [(0,e),(1,f)]) (fun i=>2<=i) id (.inr rfl) n ⟨ac1 _,fun _ _=>rfl,o,SI ⟨⟨by simp,by simp,e,p,cP k⟩,⟨by simp,by simp,f,q,cP l⟩,trivial⟩ (by simp)⟩ ⟨rfl,e,f,rfl,k,l,r⟩
theorem eC{α:Type}{enc:α->List D1}{n m:Nat}(h: ∀x,(enc x).length=n/\(enc x).all D1.eW=true)(l:List α):kC ⟨n,m,l.map enc⟩:=fun r hr=>(aG h l r hr).2
theorem BY{τ:Nat->Nat}{d:D}{A:D->Prop}(h:d.imm=true)(a:A d):A (rnD τ d):=by rw[yf h];exact a
def Ur(H:aA)(τ:Nat->Nat)(n:Nat):List D->List D->Prop
 | [],[]=>True
 |a::l0,d::l=>CvD H (fun _=>False) τ n a d/\Ur H τ n l0 l
 |_,_=>False
theorem eO{τ:Nat->Nat}{n:Nat}: ∀{l0 l:List D},Ur H τ n l0 l->∀(i:Nat) (c d:D),l0[i]?=some c->l[i]?=some d->CvD H (fun _=>False) τ n c d
 | [],[],_,i,c,d,e,_=>by simp at e
 |a::l0,b::l,h,i,c,d,e,f=>by
  match i with
  |0=>simp at e f;subst e;subst f;exact h.1
  |i+1=>exact eO h.2 i c d (by simpa using e) (by simpa using f)
 | [],_::_,h,_,_,_,_,_=>h.elim
 |_::_,[],h,_,_,_,_,_=>h.elim
end
section
variable{P:Program}{T:Nat}{e:Env}{H:aA}{nx:Nat}{Q:AQ}
theorem AWP.join{x y:AC}{α:Type}(nh:Nat)(E:α->Env)(G:α->aA)(r:AWP P T x e H nx (AQ.then (fun e' H' _=>∃u,∃F σ,Cv nx e' H' nh (E u) (G u) F σ) Q))(s: ∀u,AWP P T y (E u) (G u) nh Q):AWP P T (.seq x y) e H nx Q:=by
 intro code hc c a hs he l
 cases hc with
 |seq t v=>
  refine wp_seq (wp_mono (r _ t c a hs he l) fun ex w K ⟨d,e',H',nx',c',hp⟩=> ?_);obtain⟨rfl,rfl,f,g,j,k,m,b⟩:=hp
  cases d with
  |normal=>
   simp only[AQ.then] at b;obtain⟨u,F,σ,q⟩:=b;obtain⟨c2,z,A,B,C,n⟩:=q.sound f g l j
   have o:=s u _ v c2 w A B fun i hi=>by
    rcases n i hi with h|h;·have:=q.le;omega
    ·exact h.2
   rw[z] at o;refine wp_mono o fun ex D I J=>J.lift C (fun i hi=> ?_) q.le fun _ _ _ _ _ h=>h;rcases n i hi with h|h
   ·rcases k i h.1 with p|p;·exact .inl p
    ·omega
   ·exact .inr h
  |exit id=>exact⟨.exit id,e',H',nx',c',rfl,rfl,f,g,j,k,m,b⟩
  |ret=>exact⟨.ret,e',H',nx',c',rfl,rfl,f,g,j,k,m,b⟩
theorem aK.join{x y:AC}{zs:List AC}{α:Type}(m:Nat)(E:Nat->α->Env)(G:Nat->α->aA)
 (b: ∀K:Env->aA->Nat->Prop,(∀e' H' nx' u,(∃F σ,Cv nx e' H' (nx+m) (E nx u) (G nx u) F σ)->K e' H' nx')->aK P T [x] e H nx (AQ.then K Q))
 (c: ∀u,aK P T (y::zs) (E nx u) (G nx u) (nx+m) Q):aK P T (.seq x y::zs) e H nx Q:=by
 refine AWP.join (nx+m) (E nx) (G nx) (AWP.mono (b _ (fun e' H' nx' u h=>(⟨u,h⟩: ∃u,∃F σ,Cv nx e' H' (nx+m) (E nx u) (G nx u) F σ))).run fun ex e' H' nx' _ a=> ?_) c
 cases ex with
 |normal=>exact a
 |exit i=>exact a
 |ret=>exact a
theorem aK.zE{x:AC}{zs:List AC}{β:Type}(m:Nat)(E:Nat->β->Env)(G:Nat->β->aA)(I:β->Prop)(μ:β->Nat)(v0:β)(c: ∃F σ,Cv nx e H (nx+m) (E nx v0) (G nx v0) F σ)(hi:I v0)
 (h: ∀v,I v->∀K:Env->aA->Nat->Prop,(∀e' H' nx' a,nx+m<=nx'->(∃F σ,Cv nx e' H' (nx+m) (E nx a) (G nx a) F σ)->I a->μ a<μ v->K e' H' nx')->aK P T [x] (E nx v) (G nx v) (nx+m) (AQ.then K Q)):aK P T (.loop x::zs) e H nx Q:=
 aK.Rf (α:={v:β//I v}) m (fun b u=>E b u.1) (fun b u=>G b u.1) (fun u=>μ u.1) ⟨v0,hi⟩ c fun u K d=>h u.1 u.2 K fun e' H' nx' a f g i j=>d e' H' nx' ⟨a,i⟩ f j g
theorem Zf{H:aA}{F:Nat->Prop}{σ:Nat->Nat}{nh:Nat}{a b:D1}(h:Cv1 H F σ nh a b):Cv1 H F σ nh a b:=h
theorem Yl{H:aA}{F:Nat->Prop}{σ:Nat->Nat}{nh:Nat}{a b:D}(h:CvD H F σ nh a b):CvD H F σ nh a b:=h
theorem abP{H:aA}{F:Nat->Prop}{σ:Nat->Nat}{nh:Nat}{a b:D1}(h:a=b)(hi:a.eW=true):Cv1 H F σ nh a b:=h▸bE hi
theorem cM{H:aA}{F:Nat->Prop}{σ:Nat->Nat}{nh:Nat}{α:Type}{enc:α->List D1}{l:List α}{n id len cap m:Nat}(he: ∀x,(enc x).length=n/\(enc x).all D1.eW=true)(a:H id=some ⟨n,m,l.map enc⟩)(hl:len=l.length)(hc:l.length<=cap)(b:F id):Cv1 H F σ nh (.isl (l.map enc)) (.osl n id 0 len cap):=Hn (aG he l) (by simp[hl]) b a rfl (ac6 (ac1 _)) (by simp;omega)
def kpm(b:Nat)(l:List Nat)(H:aA):aA:=fun i=>if i∈l.map (b+ ·) then H i else none
variable{b i:Nat}{l:List Nat}{o:bN}{G:aA}
theorem Pp:msk b l (H.set i o)=if i∈l.map (b+ ·) then msk b l H else (msk b l H).set i o:=by
 split
 ·rename_i h;funext j;simp only[msk,aA.set];by_cases a:j=i;·subst a;simp only[h,if_true]
  ·simp only[a,if_false]
 ·rename_i h;funext j;simp only[msk,aA.set];by_cases a:j=i;·subst a;simp only[h,if_true,if_false]
  ·simp only[a,if_false]
theorem Nv:msk b l aA.nil=aA.nil:=by funext j;simp only[msk,aA.nil];split<;>rfl
theorem Wv:msk b l (H.del i)=(msk b l H).del i:=by funext j;simp only[msk,aA.del];split<;>split<;>rfl
theorem Um:kpm b l (H.set i o)=if i∈l.map (b+ ·) then (kpm b l H).set i o else kpm b l H:=by
 split
 ·rename_i h;funext j;simp only[kpm,aA.set];by_cases a:j=i;·subst a;simp only[h,if_true]
  ·simp only[a,if_false]
 ·rename_i h;funext j;simp only[kpm,aA.set];by_cases a:j=i;·subst a;simp only[h,if_false]
  ·simp only[a,if_false]
theorem Rz:kpm b l aA.nil=aA.nil:=by funext j;simp only[kpm,aA.nil];split<;>rfl
theorem Fb:c8 b l H aA.nil=kpm b l H:=by funext j;simp only[c8,kpm,aA.nil]
theorem Du:c8 b l H (G.set i o)=if i∈l.map (b+ ·) then c8 b l H G else (c8 b l H G).set i o:=by
 split
 ·rename_i h;funext j;simp only[c8,aA.set];by_cases a:j=i;·subst a;simp only[h,if_true]
  ·simp only[a,if_false]
 ·rename_i h;funext j;simp only[c8,aA.set];by_cases a:j=i;·subst a;simp only[h,if_true,if_false]
  ·simp only[a,if_false]
theorem Nj:c8 b l H (G.del i)=if i∈l.map (b+ ·) then c8 b l H G else (c8 b l H G).del i:=by
 split
 ·rename_i h;funext j;simp only[c8,aA.del];by_cases a:j=i;·subst a;simp only[h,if_true]
  ·simp only[a,if_false]
 ·rename_i h;funext j;simp only[c8,aA.del];by_cases a:j=i;·subst a;simp only[h,if_true,if_false]
  ·simp only[a,if_false]
variable{a c:bN}
theorem FV{H:aA}{i j:Nat}(h: ¬i=j):(H.set i a).set j c=(H.set j c).set i a:=by
 funext k;simp only[aA.set];by_cases d:k=j;·subst d;rw[if_pos rfl,if_neg (fun b=>h b.symm),if_pos rfl]
 ·rw[if_neg d];by_cases b:k=i;·rw[if_pos b,if_pos b]
  ·rw[if_neg b,if_neg b,if_neg d]
variable{j0:Nat}{b0:bN}
theorem Pv{H:aA}{i:Nat}(b: ¬j0=i):((H.set i a).set j0 b0).set i c=((H.set i c).set j0 b0):=by rw[FV b,aA.set_set]
variable{j1:Nat}{b1:bN}
theorem Oe{H:aA}{i:Nat}(b: ¬j0=i)(d: ¬j1=i):(((H.set i a).set j0 b0).set j1 b1).set i c=(((H.set i c).set j0 b0).set j1 b1):=by rw[FV d,Pv b]
variable{j2:Nat}{b2:bN}
theorem Rx{H:aA}{i:Nat}(b: ¬j0=i)(d: ¬j1=i)(e: ¬j2=i):((((H.set i a).set j0 b0).set j1 b1).set j2 b2).set i c=((((H.set i c).set j0 b0).set j1 b1).set j2 b2):=by rw[FV e,Oe b d]
theorem Sc{H:aA}{i b:Nat}{d:bN}(e: ¬j0=i)(f: ¬j1=i)(g: ¬j2=i)(h: ¬b=i):(((((H.set i a).set j0 b0).set j1 b1).set j2 b2).set b d).set i c=(((((H.set i c).set j0 b0).set j1 b1).set j2 b2).set b d):=by rw[FV h,Rx e f g]
theorem Ou{H:aA}{i b d:Nat}{e f:bN}(g: ¬j0=i)(h: ¬j1=i)(j: ¬j2=i)(k: ¬b=i)(l: ¬d=i):((((((H.set i a).set j0 b0).set j1 b1).set j2 b2).set b e).set d f).set i c=((((((H.set i c).set j0 b0).set j1 b1).set j2 b2).set b e).set d f):=by rw[FV l,Sc g h j k]
theorem Sd{H:aA}{i b d e:Nat}{f g h:bN}(j: ¬j0=i)(k: ¬j1=i)(l: ¬j2=i)(m: ¬b=i)(n: ¬d=i)(o: ¬e=i):(((((((H.set i a).set j0 b0).set j1 b1).set j2 b2).set b f).set d g).set e h).set i c=(((((((H.set i c).set j0 b0).set j1 b1).set j2 b2).set b f).set d g).set e h):=by rw[FV o,Ou j k l m n]
theorem Yk{H:aA}{i b d e f:Nat}{g h j k:bN}(l: ¬j0=i)(m: ¬j1=i)(n: ¬j2=i)(o: ¬b=i)(p: ¬d=i)(q: ¬e=i)(r: ¬f=i):((((((((H.set i a).set j0 b0).set j1 b1).set j2 b2).set b g).set d h).set e j).set f k).set i c=((((((((H.set i c).set j0 b0).set j1 b1).set j2 b2).set b g).set d h).set e j).set f k):=by rw[FV r,Sd l m n o p q]
theorem Wf{i:Nat}:aA.nil.del i=aA.nil:=by funext k;simp only[aA.del,aA.nil];split<;>rfl
theorem Fm{H:aA}{i:Nat}:(H.set i a).del i=H.del i:=by funext k;simp only[aA.set,aA.del];split<;>rfl
theorem Db{H:aA}{i j:Nat}(h: ¬i=j):(H.set j a).del i=(H.del i).set j a:=by
 funext k;simp only[aA.set,aA.del];by_cases b:k=i;·subst b;simp[h]
 ·simp[b]
end
attribute [go_sem] Pv Oe Rx Sc Ou Sd Yk Wf Fm Db Nat.reduceLT Pp Nv Wv Um Rz Fb Du Nj
def nth(s:List Nat)(i:Nat):Nat:=s[i]?.getD 0
section
variable{P:Program}{H:aA}{nx:Nat}{τ:Nat -> Nat}{H0:aA}
theorem aC.DD{f:FuncId}{args0 args:List D}{K:ag2}{l0:List (Nat×bN)}{R:ag2}(s:List Nat)(h:aC P f args0 (hp l0) s.length R)(hlen:args.length=args0.length)
 (a:Ur H (nth s) s.length args0 args) (b:OkO H (fun _=>False) (nth s) s.length l0) (c:(l0.map fun p=>nth s p.1).Nodup) (hs: ∀x∈s,x<nx) (d:s.Nodup)
 (e: ∀r H' n',s.length<=n'->R r H' n'->K (rnD (tau s.length nx (nth s)) r) (back (tau s.length nx (nth s)) H' n' H) (nx+(n'-s.length))):aC P f args H nx K:=
 aC.lift h (nth s) hlen (eO a) (SI b c) (fun i hi=>by rw[nth,ac8 hi];exact hs _ (aeT hi))
   (fun i j hi g he=>by
    rw[nth,nth,ac8 hi,ac8 g,Option.getD_some,Option.getD_some] at he
    exact(List.getElem_inj d).1 he) e
theorem aC.Zo{f:FuncId}{args0 args:List D}{K:ag2}{R:D->Prop}(h:aC P f args0 .nil 0 fun r _ n=>n=0/\r.imm=true/\R r)(hlen:args.length=args0.length)(a:Ur H (nth []) 0 args0 args)(b: ∀r,R r->K r H nx):aC P f args H nx K:=by refine aC.DD (l0:=[]) [] h hlen a trivial (by simp) (by simp) (by simp) fun r H' n' _ ⟨c,d,e⟩=> ?_;subst c;rw[yf d];exact b r e
theorem nN{n m:Nat}{l:List Int}:bN.rn τ ⟨n,m,l.map aF⟩=⟨n,m,l.map aF⟩:=by refine mW fun r hr x a=> ?_;obtain⟨y,_,rfl⟩:=ac9.1 hr;simp only[aF,adN] at a;subst a;rfl
theorem abG:back τ H0 2 H=(H.upd (τ 0) ((H0 0).map (bN.rn τ))).upd (τ 1) ((H0 1).map (bN.rn τ)):=rfl
theorem xx{F:Nat->Prop}{σ:Nat->Nat}{nh:Nat}{xs ys:List D1}(h:CvL H F σ nh xs ys):CvV H F σ nh (.agg xs) (.agg ys):=h
theorem Xy{F:Nat->Prop}{σ:Nat->Nat}{nh:Nat}{x y:D1}(h:Cv1 H F σ nh x y):CvV H F σ nh (.c x) (.c y):=h
theorem xp{F:Nat->Prop}{σ:Nat->Nat}{nh:Nat}{a b x y:DV}(d:CvV H F σ nh a x)(e:CvV H F σ nh b y):CvD H F σ nh (.tup [a,b]) (.tup [x,y]):=
 ⟨rfl,fun i u v hu c=>by
  match i with
  |0=>simp at hu c;subst hu;subst c;exact d
  |1=>simp at hu c;subst hu;subst c;exact e
  |i+2=>simp at hu⟩
theorem wR{i:Nat}:H.upd i none=H.del i:=rfl
end
section
variable{P:Program}{H:aA}{nx:Nat}
variable{σ:Nat->Nat}{n:Nat}
theorem jb{F:Nat->Prop}{nh m c:Nat}{R a rows:List (List D1)}{r' r:List D1}(e':a=R++[r'])(e:rows=R++[r])(f: ∀r∈R,∀x∈r,x.eW=true)(hm:c=m)(h:CvL H F σ nh r' r):CvO H F σ nh ⟨n,c,a⟩ ⟨n,m,rows⟩:=by
 subst e';subst e;subst hm;refine⟨rfl,rfl,by simp,fun _ h=>by simp at h,fun i d b=> ?_⟩;simp only[adU] at b ⊢;by_cases hi:i<R.length;·rw[if_pos hi] at b ⊢;exact⟨d,b,xV fun x g=>f d (adI b) x g⟩
 ·rw[if_neg hi] at b ⊢;rw[agU] at b ⊢;split at b;·rename_i j;cases b;exact⟨r,if_pos j,h⟩
  ·cases b
theorem F7{F:Nat->Prop}{nh:Nat}{x y:D1}(a:x.eW=true)(h:Cv1 H F σ nh x y):Frz H F x y:=by
 cases h with
 |frz h=>exact h
 |osl=>cases a
 |GO=>cases a
 |ptr=>cases a
 |omap=>cases a
 |clo=>cases a
 |dead=>cases a
theorem WR{F:Nat->Prop}{d:Nat->Nat}{nh e:Nat}{cells r:List D1}{id:Nat}{o:bN}(hi:cells.all D1.eW=true)(h:CvL H F σ nh cells r)(g:F id)(i:H id=some o)(k:o.n=n)(hr:o.rows[0]?=some r):CvD H F d e (.one (.c (.dQ cells))) (.one (.c (.ptr n id 0 0))):=by
 refine .frz (.ptr cells n id 0 0 o r (fun j=>(r[j]?).getD .dead) g i k hr (fun j f a=> ?_) (fun j f a=> ?_))
 ·have b:j<r.length:=by rw[<-h.1];exact(adB.1 a).1
  rw[aeR,ac8 b];rfl
 ·have b:j<r.length:=by rw[<-h.1];exact(adB.1 a).1
  have l:=h.2 j f r[j] a (ac8 b);rw[ac8 b];exact F7 (adK.1 hi f (adI a)) l
variable{e:Env}
theorem aK.Xq{T:Nat}{Q:AQ}{x:AC}{zs:List AC}(m:Nat)(e':Env)(H':aA)(b: ∃F σ,Cv nx e H (nx+m) e' H' F σ)(h:aK P T (x::zs) e' H' (nx+m) Q):aK P T (x::zs) e H nx Q:=by obtain⟨F,σ,a⟩:=b;exact aK.conv a h
variable{b ix:Nat}{live m s:List Nat}{L:List bB}{dst:Option Nat}{S:fE}{xs:List aZ}{lk:Bool}
theorem Pd{K:Env->aA->Nat->Prop}{neg:Bool}:wv P b live K (⟨ix,dst,.xop (.uX neg) xs,none,m,s,lk⟩::L) e H nx S=xl P (b+ix) (msk b m H) nx (JG P b live K L dst m s e H S) (.uX neg) (xs.map (·.ev e)):=oo rfl
theorem Xa{K:Env->aA->Nat->Prop}:wv P b live K (⟨ix,dst,.xop (.copy n) xs,none,m,s,lk⟩::L) e H nx S=xl P (b+ix) (msk b m H) nx (JG P b live K L dst m s e H S) (.copy n) (xs.map (·.ev e)):=oo rfl
theorem Pw{K:Env->aA->Nat->Prop}{z:List D1}:wv P b live K (⟨ix,dst,.xop (.clear n z) xs,none,m,s,lk⟩::L) e H nx S=xl P (b+ix) (msk b m H) nx (JG P b live K L dst m s e H S) (.clear n z) (xs.map (·.ev e)):=oo rfl
theorem Uq{K:Env->aA->Nat->Prop}{z:List D1}:wv P b live K (⟨ix,dst,.xop (.gn n z) xs,none,m,s,lk⟩::L) e H nx S=xl P (b+ix) (msk b m H) nx (JG P b live K L dst m s e H S) (.gn n z) (xs.map (·.ev e)):=oo rfl
theorem Uu{K:Env->aA->Nat->Prop}{f:FuncId}:wv P b live K (⟨ix,dst,.xop (.bq f) xs,none,m,s,lk⟩::L) e H nx S=xl P (b+ix) (msk b m H) nx (JG P b live K L dst m s e H S) (.bq f) (xs.map (·.ev e)):=oo rfl
theorem Qm{K:Env->aA->Nat->Prop}{kn:Nat}{bl:Bool}:wv P b live K (⟨ix,dst,.xop (.LX kn bl) xs,none,m,s,lk⟩::L) e H nx S=xl P (b+ix) (msk b m H) nx (JG P b live K L dst m s e H S) (.LX kn bl) (xs.map (·.ev e)):=oo rfl
theorem Na{K:Env->aA->Nat->Prop}:wv P b live K (⟨ix,dst,.xop .zL xs,none,m,s,lk⟩::L) e H nx S=xl P (b+ix) (msk b m H) nx (JG P b live K L dst m s e H S) .zL (xs.map (·.ev e)):=oo rfl
theorem Ju{K:Env->aA->Nat->Prop}{kn:Nat}{bl ok:Bool}:wv P b live K (⟨ix,dst,.xop (.wL kn bl ok) xs,none,m,s,lk⟩::L) e H nx S=xl P (b+ix) (msk b m H) nx (JG P b live K L dst m s e H S) (.wL kn bl ok) (xs.map (·.ev e)):=oo rfl
theorem Lj{K:Env->aA->Nat->Prop}{kn:Nat}{bl:Bool}:wv P b live K (⟨ix,dst,.xop (.DE kn bl) xs,none,m,s,lk⟩::L) e H nx S=xl P (b+ix) (msk b m H) nx (JG P b live K L dst m s e H S) (.DE kn bl) (xs.map (·.ev e)):=oo rfl
theorem To{F:Nat->Prop}{nh m d:Nat}{R a rows:List (List D1)}{r' r:List D1}{i:Nat}(e':a=R)(e:rows=R.set i r)(hi:R[i]?=some r')(k: ∀r∈R,∀x∈r,x.eW=true)(hm:d=m)(h:CvL H F σ nh r' r):CvO H F σ nh ⟨n,d,a⟩ ⟨n,m,rows⟩:=by
 subst e';subst e;subst hm;refine⟨rfl,rfl,by simp,fun _ h=>by dsimp only at h ⊢;rw[h];rfl,fun j f b=> ?_⟩;simp only[ae6];by_cases g:i=j;·subst g;have c:i<a.length:=(adB.1 b).1;rw[if_pos rfl,if_pos c];rw[hi] at b;cases b;exact⟨r,rfl,h⟩
 ·rw[if_neg g];exact⟨f,b,xV fun x l=>k f (adI b) x l⟩
theorem acW{α:Type}[Inhabited α]{enc:α->List D1}{l:List α}{k:Nat}(h:k<l.length):(l.map enc)[k]?=some (enc (l.getD k default)):=by simp[List.getD,h]
theorem acV{c:Prop}[Decidable c]{A B:Prop}(a:c->A)(b: ¬c->B):if c then A else B:=by
 split;·exact a ‹_›
 ·exact b ‹_›
attribute [go_sem] Pd Xa Pw Uq Uu Qm Na Ju Lj
end
theorem Ew{P:Program}{f:FuncId}{fn:Func}(hf:P.funcs[f]?=some fn)(hname:(fn.name== "runtime.NumGoroutine")=false)(hb:fn.body.isNone=true)(hnx:Extern.findNext fn=none){tS tR el:TypeId}
 (he:Extern.find fn=some (Extern.SlicesOverlaps.overlaps #[tS,tS] #[tR])) (ht:P.underlying tS=some (.slice el)) {size:Nat} (hz: ∀w,(Go.sizeOf el).run P w= .ok size w)
 {H:aA} {nx:Nat} {K:ag2} {n n' i j off off' len len' cap cap':Nat} {oi oj:bN} (hi:H i=some oi) (hj:H j=some oj) (hij:i≠j) (h1:0<oi.ext) (h2:0<oj.ext) (hn:0<oj.n) (hc:0<cap) (hc':0<cap') (hoff:off*n<oi.ext*oi.n)
 (hK:K (bD false) H nx):Vf P f [.one (.c (.osl n i off len cap)),.one (.c (.osl n' j off' len' cap'))] H nx K:=by
 intro c vs hst hl hr
 match vs,hl with
 | [v1,v2],_=>
   have r1:=hr 0 _ v1 rfl rfl;have r2:=hr 1 _ v2 rfl rfl;simp only[iA,mH,Rel,cX] at r1 r2;obtain⟨_,r1|⟨_,_,rfl⟩⟩:=r1;·omega
   obtain⟨_,r2|⟨_,_,rfl⟩⟩:=r2;·omega
   have hni:0<oi.n:=af8 fun h=>by rw[h,Nat.mul_zero] at hoff;exact absurd hoff (adV _)
   obtain⟨ai,Ti,b1,b2⟩:=(hst.blk i oi hi h1).cells (fun hm=>by have:=hm.1;omega);obtain⟨aj,Tj,b3,b4⟩:=(hst.blk j oj hj h2).cells (fun hm=>by have:=hm.1;omega);have hne:=hst.sep i j oi oj hi hj h1 h2 hij;refine⟨.bool false,bD false,?_,.v _ rfl,hK⟩;have hp:0<oj.ext*oj.n:=Nat.mul_pos h2 hn;rw[run_callFunc_extern hf hname hb hnx he];have:=Lib.run_overlaps_apart c.w tS tR el ht size hz ⟨(c.ρ i).1,(c.ρ i).2+off*n,none⟩ ⟨(c.ρ j).1,(c.ρ j).2+off'*n',none⟩ len cap len' cap' hne Ti Tj ai.size aj.size (by simp[World.shape?,b1]) (by simp[World.shape?,b3]) (by omega) (by simp[World.frozen?,b1]) (by simp[World.frozen?,b1]);rw[show ([(Value.slice (some ⟨(c.ρ i).1,(c.ρ i).2+off*n,none⟩) len cap),(Value.slice (some ⟨(c.ρ j).1,(c.ρ j).2+off'*n',none⟩) len' cap')]:List Value).toArray= #[.slice (some ⟨(c.ρ i).1,(c.ρ i).2+off*n,none⟩) len cap,.slice (some ⟨(c.ρ j).1,(c.ρ j).2+off'*n',none⟩) len' cap'] from rfl,this];rfl
theorem Iu{H:aA}{F:Nat->Prop}{σ:Nat->Nat}{nh n m d:Nat}{a rows junk:List (List D1)}(hi: ∀r∈a,∀x∈r,x.eW=true)(h:rows=a++junk)(hm:d=m)(b:n≠0):CvO H F σ nh ⟨n,d,a⟩ ⟨n,m,rows⟩:=by subst h;subst hm;refine⟨rfl,rfl,by simp,fun e _=>absurd e b,fun i r c=> ?_⟩;refine⟨r,?_,xV fun x f=>hi r (adI c) x f⟩;rw[ae9 (adB.1 c).1];exact c
end Go.AM
namespace Go.AM
@[reducible,go_sem] def rq (t:Nat) (o:AOp) (i:Nat):bB:=⟨i,some t,o,none,[],[],false⟩
@[reducible,go_sem] def rn (o:AOp) (i:Nat):bB:=⟨i,none,o,none,[],[],false⟩
@[reducible,go_sem] def ki (n:Int):aZ:=.kv (.int .i64 n)
@[reducible,go_sem] def RM (t a i:Nat):bB:=rq t (.move (.tm a)) i
@[reducible,go_sem] def RF (t k a i:Nat):bB:=rq t (.fld k (.tm a)) i
@[reducible,go_sem] def RL (t a i:Nat):bB:=rq t (.load 1 false (.tm a)) i
@[reducible,go_sem] def RK (t a i:Nat):bB:=rq t (.zO (.tm a)) i
@[reducible,go_sem] def GQ (t:Nat) (o:AOp) (g:Nat) (b:Bool) (i:Nat):bB:=⟨i,some t,o,some (g,b),[],[],false⟩
@[reducible,go_sem] def VZ:D1:=.v (.int .i64 0)
@[reducible,go_sem] def OZ:D1:=.osl 0 0 0 0 0
def aR(P:Program)(f:FuncId)(fn:Func)(ac:AC)(rs:List aX):Prop:=
 ∀{args:List D} {H:aA} {nx:Nat} {b:ag2} (_hl:Nat.ble args.length fn.ntmps=true)
  (_h: ∀Q:AQ,(∀ex c H2 a d nh d2 e F σ,ex= .normal\/ex= .ret->nP H2 c rs=some d->CvR nx d H2 nh d2 e F σ->b d2 e nh->Q ex c H2 a)->aK P fn.ntmps [ac] (Env.args 0 args) H nx Q),aC P f args H nx b
theorem aR.mk{P:Program}{f:FuncId}{fn:Func}{ac:AC}{rs:List aX}{cs:List Cert}
 (b:P.funcs[f]?=some fn) (a:vX P f=true) (hc:aS P fn cs=some (ac,rs)):aR P f fn ac rs:=
 fun hl h=>aC.body b a hc (agV hl) h
theorem dbT{p:Prop}[Decidable p](h:p):D1.v (.bool (decide p))= .v (.bool true):=by rw[decide_eq_true h]
theorem dbE{p q:Prop}[Decidable p][Decidable q](h:p↔q):D1.v (.bool (decide p))= .v (.bool (decide q)):=by rw[decide_eq_decide.2 h]
theorem diE{a b:Int}(h:a=b):D1.v (.int .i64 a)= .v (.int .i64 b):=by rw[h]
abbrev C0:=@Zf
abbrev D0:=@Yl
abbrev C1:=@T2
abbrev C2:=@gH
abbrev C3:=@cG
abbrev C4:=@aH
abbrev C5:=@xp
abbrev C7:=@xx
abbrev C9:=@oH
abbrev CJ:=@sn
abbrev CA:=@aE
abbrev CB:=@bE
abbrev CC:=@Uo
abbrev CQ:=@gG
abbrev CE:=@xt
abbrev CR:=@zm
abbrev CF:=@yA
abbrev CG:=@abP
abbrev CH:=@Ay
abbrev CI:=@dd
abbrev Z1:=@aK.seq
abbrev Z2:=@aK.skip
abbrev Z3:=@aK.block
abbrev Z4:=@acA
abbrev Z5:=@ab4
abbrev Z7:=@acV
abbrev Y2:=@aK.reg
abbrev Y3:=@aK.Xt
abbrev Y4:=@Zc
abbrev Y5:=@aaR
abbrev Y6:=@abX
abbrev Y7:=@Xw
abbrev Y8:=@aK.ret
abbrev Y9:=@aK.exit
abbrev Y0:=@aK.nil
abbrev Iw:=@IntWalk.i64_in
end Go.AM
namespace Go.AM
open Go.RowKit
inductive Tg(zs:List AC)(Q:AQ):Type where
 |mk
@[reducible] def Fy (P:Program) (T:Nat) (zs:List AC) (Q:AQ) (_:Tg zs Q):Env->aA->Nat->Prop:=fun e H nx=>aK P T zs e H nx Q
def vd(P:Program)(T:Nat)(x y:AC)(zs:List AC)(e:Env)(H:aA)(nx:Nat)(Q:AQ)(_:Tg (x::y::zs) Q)(d:D):Prop:=cK (aK P T (x::zs) e H nx Q) (aK P T (y::zs) e H nx Q) d
def vc(P:Program)(T:Nat):List AC->Env->aA->Nat->AQ->Prop
 | [],e,H,nx,Q=>Q .normal e H nx
 | .skip::zs,e,H,nx,Q=>aK P T zs e H nx Q
 | .region ops n live::zs,e,H,nx,Q=>wv P nx live (Fy P T zs Q .mk) ops e H (nx+n) []
 | .seq x y::zs,e,H,nx,Q=>aK P T (x::y::zs) e H nx Q
 | .cond c x y::zs,e,H,nx,Q=>vd P T x y zs e H nx Q .mk (c.ev e)
 | .block id x::zs,e,H,nx,Q=>aK P T [x] e H nx (AQ.blk id (Fy P T zs Q .mk) Q)
 | .loop x::zs,e,H,nx,Q=>aK P T (.loop x::zs) e H nx Q
 | .exit id::_,e,H,nx,Q=>Q (.exit id) e H nx
 | .ret::_,e,H,nx,Q=>Q .ret e H nx
section
variable{P:Program}{T:Nat}{live:List Nat}{ops:List bB}{n id:Nat}{c:aZ}{e:Env}{H:aA}{nx:Nat}{Q:AQ}{x y:AC}{zs:List AC}{K:Env -> aA -> Nat -> Prop}
theorem kI(h:aK P T zs e H nx Q):Fy P T zs Q .mk e H nx:=h
theorem vI(h:vc P T zs e H nx Q):aK P T zs e H nx Q:=by
 cases zs with
 |nil=>exact h
 |cons x zs=>
  cases x with
  |skip=>exact aK.skip h
  |region ops n live=>exact AWP.region h
  |seq x y=>exact aK.seq h
  |cond c x y=>
   refine aK.Xt fun A B f hB=> ?_;have h:cK (aK P T (x::zs) e H nx Q) (aK P T (y::zs) e H nx Q) (c.ev e):=h;unfold cK at h;unfold cK;split at h;·rename_i t g;exact⟨fun b=>f (h.1 b),fun b=>hB (h.2 b)⟩
   ·exact h.elim
  |block id x=>
   refine aK.block fun K d=>AWP.mono h fun ex e' H' nx' _ a=> ?_
   cases ex with
   |normal=>exact d _ _ _ a
   |exit i=>
    simp only[AQ.then,AQ.blk] at a ⊢;split;·rename_i hi;rw[if_pos hi] at a;exact d _ _ _ a
    ·rename_i hi;rw[if_neg hi] at a;exact a
   |ret=>exact a
  |loop x=>exact h
  |exit id=>exact aK.exit h
  |ret=>exact aK.ret h
theorem Zx:vc P T [] e H nx Q=Q .normal e H nx:=rfl
theorem Wp:vc P T (.skip::zs) e H nx Q=aK P T zs e H nx Q:=rfl
theorem Zg:vc P T (.region ops n live::zs) e H nx Q=wv P nx live (Fy P T zs Q .mk) ops e H (nx+n) []:=rfl
theorem aaQ:vc P T (.seq x y::zs) e H nx Q=aK P T (x::y::zs) e H nx Q:=rfl
theorem Vw:vc P T (.cond c x y::zs) e H nx Q=vd P T x y zs e H nx Q .mk (c.ev e):=rfl
theorem Ot:vc P T (.block id x::zs) e H nx Q=aK P T [x] e H nx (AQ.blk id (Fy P T zs Q .mk) Q):=rfl
theorem Ui:vc P T (.exit id::zs) e H nx Q=Q (.exit id) e H nx:=rfl
theorem aaK:vc P T (.ret::zs) e H nx Q=Q .ret e H nx:=rfl
theorem acQ{g:Tg (x::y::zs) Q}:vd P T x y zs e H nx Q g (.one (.c (.v (.bool true))))=aK P T (x::zs) e H nx Q:=aa0
theorem acX{g:Tg (x::y::zs) Q}:vd P T x y zs e H nx Q g (.one (.c (.v (.bool false))))=aK P T (y::zs) e H nx Q:=Za
theorem abF{g:Tg (x::y::zs) Q}{p:Prop}[Decidable p](h:p):vd P T x y zs e H nx Q g (.one (.c (.v (.bool (decide p)))))=aK P T (x::zs) e H nx Q:=by rw[decide_eq_true h];exact aa0
theorem abB{g:Tg (x::y::zs) Q}{p:Prop}[Decidable p](h: ¬p):vd P T x y zs e H nx Q g (.one (.c (.v (.bool (decide p)))))=aK P T (y::zs) e H nx Q:=by rw[decide_eq_false h];exact Za
theorem iR{g:Tg (x::y::zs) Q}{p:Prop}[Decidable p](a:p->aK P T (x::zs) e H nx Q)(b: ¬p->aK P T (y::zs) e H nx Q):vd P T x y zs e H nx Q g (.one (.c (.v (.bool (decide p))))):=acF a b
theorem CK{g:Tg (x::y::zs) Q}{t:Bool}(a:t=true->aK P T (x::zs) e H nx Q)(b:t=false->aK P T (y::zs) e H nx Q):vd P T x y zs e H nx Q g (.one (.c (.v (.bool t)))):=acY a b
theorem Yu:AQ.then K Q .normal=K:=rfl
theorem Yx:AQ.then K Q .ret=Q .ret:=rfl
theorem Zq:AQ.then K Q (.exit id)=Q (.exit id):=rfl
theorem ab3{i:Nat}:AQ.blk i K Q .normal=K:=rfl
theorem abD{i:Nat}:AQ.blk i K Q .ret=Q .ret:=rfl
theorem abT{i j:Nat}(h: ¬j=i):AQ.blk i K Q (.exit j)=Q (.exit j):=by simp[AQ.blk,h]
attribute [go_sem] acQ acX Yu Yx Zq ab3 abD
attribute [go_sem ↓] Zx Wp Zg aaQ Vw Ot Ui aaK
end
def acP(o:bB):Nat×List Nat×List Nat×Bool:=(o.ix,o.mask,o.La,o.look)
def bA:AC->List Cert
 | .region ops _ live=>[⟨ops.map acP,live⟩]
 | .seq x y=>bA x++bA y
 | .cond _ x y=>bA x++bA y
 | .block _ x=>bA x
 | .loop x=>bA x
 |_=>[]
instance {n:Nat}:OfNat aZ n:=⟨.tm n⟩
theorem aaZ{n:Nat}:(OfNat.ofNat n:aZ)= .tm n:=rfl
attribute [go_sem] aaZ
section
variable{P:Program}{T:Nat}{e:Env}{H:aA}{nx:Nat}{Q:AQ}{x y:AC}{zs:List AC}{K:Env -> aA -> Nat -> Prop}
theorem vT{g:Tg (x::y::zs) Q}{p:Prop}[Decidable p](h:p)(a:aK P T (x::zs) e H nx Q):vd P T x y zs e H nx Q g (.one (.c (.v (.bool (decide p))))):=by rw[abF h];exact a
theorem vF{g:Tg (x::y::zs) Q}{p:Prop}[Decidable p](h: ¬p)(a:aK P T (y::zs) e H nx Q):vd P T x y zs e H nx Q g (.one (.c (.v (.bool (decide p))))):=by rw[abB h];exact a
theorem bX{i j:Nat}(h:Nat.beq j i=false)(a:Q (.exit j) e H nx):AQ.blk i K Q (.exit j) e H nx:=by rw[abT (fun he=>by rw[he] at h;simp at h)];exact a
end
section
variable {H : aA} {F : Nat -> Prop} {σ : Nat -> Nat} {nh t : Nat} {e : Env} {l : List (Nat × D)}
theorem xqI{d:D}(a:d.imm=true)(he:e t=d)(h:CvE H F σ nh (en l) e):CvE H F σ nh (en ((t,d)::l)) e:=gH h (by rw[he];exact aE a)
theorem xqP{n a id row b:Nat}(hl:a<nh)(hs:σ a=id)(he:e t= .one (.c (.ptr n id row b)))(h:CvE H F σ nh (en l) e):CvE H F σ nh (en ((t,.one (.c (.ptr n a row b)))::l)) e:=gH h (by rw[he];exact sn (xt hl hs))
theorem xqO{n b id off len a cap:Nat}(hl:b<nh)(hs:σ b=id)(he:e t= .one (.c (.osl n id off len cap)))(d:a=len)(h:CvE H F σ nh (en l) e):CvE H F σ nh (en ((t,.one (.c (.osl n b off a cap)))::l)) e:=gH h (by rw[he];exact sn (gG hl hs rfl d rfl))
theorem xqV{a b:Int}(he:e t= .one (.c (.v (.int .i64 b))))(d:a=b)(h:CvE H F σ nh (en l) e):CvE H F σ nh (en ((t,.one (.c (.v (.int .i64 a))))::l)) e:=gH h (by rw[he,d];exact aE rfl)
end
def vcR(P:Program)(T:Nat):List AC->Env->aA->Nat->AQ->Prop
 | .seq (.region ops n live) y::zs,e,H,nx,Q=>wv P nx live (Fy P T (y::zs) Q .mk) ops e H (nx+n) []
 |zs,e,H,nx,Q=>vc P T zs e H nx Q
section
variable{P:Program}{T:Nat}{live:List Nat}{ops:List bB}{n id:Nat}{c:aZ}{e:Env}{H:aA}{nx:Nat}{Q:AQ}{x y:AC}{zs:List AC}
theorem vR(h:vcR P T zs e H nx Q):aK P T zs e H nx Q:=by
 unfold vcR at h;split at h;·exact aK.seq (AWP.region h)
 ·exact vI h
theorem Yt:vcR P T (.seq (.region ops n live) y::zs) e H nx Q=wv P nx live (Fy P T (y::zs) Q .mk) ops e H (nx+n) []:=rfl
theorem Vm:vcR P T [] e H nx Q=vc P T [] e H nx Q:=rfl
theorem Pe:vcR P T (.skip::zs) e H nx Q=vc P T (.skip::zs) e H nx Q:=rfl
theorem Xm:vcR P T (.region ops n live::zs) e H nx Q=vc P T (.region ops n live::zs) e H nx Q:=rfl
theorem Sy:vcR P T (.cond c x y::zs) e H nx Q=vc P T (.cond c x y::zs) e H nx Q:=rfl
theorem Mo:vcR P T (.block id x::zs) e H nx Q=vc P T (.block id x::zs) e H nx Q:=rfl
theorem Qi:vcR P T (.exit id::zs) e H nx Q=vc P T (.exit id::zs) e H nx Q:=rfl
theorem Up:vcR P T (.ret::zs) e H nx Q=vc P T (.ret::zs) e H nx Q:=rfl
attribute [go_sem ↓] Yt Vm Pe Xm Sy Mo Qi Up
end
theorem nL:(∀a b c:Nat,a+b+c=a+(b+c))/\(∀{a b:Nat},a=a+b↔b=0)/\ ∀{a b:Nat},a+b=a↔b=0:=⟨ac2,ac3,ac5⟩
@[reducible,go_sem] def kF:aZ:=.kv (.bool false)
@[reducible,go_sem] def kT:aZ:=.kv (.bool true)
@[reducible,go_sem] def RX (t:Nat) (o:AOp) (m s:List Nat) (k:Bool) (i:Nat):bB:=⟨i,some t,o,none,m,s,k⟩
@[reducible,go_sem] def RY (t:Option Nat) (o:AOp) (g:Option (Nat×Bool)) (m s:List Nat) (k:Bool) (i:Nat):bB:=⟨i,t,o,g,m,s,k⟩
@[reducible,go_sem] def RB (t:Nat) (b:BinOp) (x y:aZ) (i:Nat):bB:=rq t (.bin b x y) i
@[reducible,go_sem] def RV (t:Nat) (x:aZ) (i:Nat):bB:=rq t (.move x) i
@[reducible,go_sem] def RI (t n:Nat) (x y:aZ) (i:Nat):bB:=rq t (.idx n x y) i
@[reducible,go_sem] def RN (t:Nat) (x:aZ) (i:Nat):bB:=rq t (.len false x) i
@[reducible,go_sem] def RP (t:Nat) (c x y:aZ) (i:Nat):bB:=rq t (.pick c x y) i
@[reducible,go_sem] def RU (t:Nat) (x:aZ) (i:Nat):bB:=rq t (.un .not x) i
@[reducible,go_sem] def RO (t:Nat) (x:aZ) (i:Nat):bB:=rq t (.box true x) i
@[reducible,go_sem] def RC (t:Nat) (f:FuncId) (l:List aZ) (i:Nat):bB:=rq t (.call f l) i
@[reducible,go_sem] def RA (t:Nat) (l:List D1) (i:Nat):bB:=rq t (.alloc l) i
@[reducible,go_sem] def RD (t n:Nat) (x:aZ) (i:Nat):bB:=rq t (.load n true x) i
@[reducible,go_sem] def WS (n:Nat) (b:Bool) (x y:aZ) (i:Nat):bB:=rn (.store n b x y) i
@[reducible,go_sem] def RW (t:Nat) (x:aZ) (m s:List Nat) (k:Bool) (i:Nat):bB:=RX t (.load 1 false x) m s k i
@[reducible,go_sem] def GF (t k:Nat) (x:aZ) (g:Nat) (b:Bool) (i:Nat):bB:=GQ t (.fld k x) g b i
@[reducible,go_sem] def GL (t:Nat) (x:aZ) (g:Nat) (b:Bool) (i:Nat):bB:=GQ t (.load 1 false x) g b i
@[reducible,go_sem] def GM (t:Nat) (x:aZ) (g:Nat) (b:Bool) (i:Nat):bB:=GQ t (.move x) g b i
@[reducible,go_sem] def GB (t:Nat) (o:BinOp) (x y:aZ) (g:Nat) (b:Bool) (i:Nat):bB:=GQ t (.bin o x y) g b i
@[reducible,go_sem] def GU (t:Nat) (x:aZ) (g:Nat) (b:Bool) (i:Nat):bB:=GQ t (.un .not x) g b i
@[reducible,go_sem] def GI (t n:Nat) (x y:aZ) (g:Nat) (b:Bool) (i:Nat):bB:=GQ t (.idx n x y) g b i
def nb:Nat->List (Nat->bB)->List bB
 |_,[]=>[]
 |i,f::l=>f i::nb (i+1) l
def ln:List (Nat->bB)->Nat
 | []=>0
 |_::l=>ln l+1
theorem aa2{i:Nat}:nb i []=[]:=rfl
theorem Vy{i:Nat}{f:Nat->bB}{l:List (Nat->bB)}:nb i (f::l)=f i::nb (i+1) l:=rfl
theorem aaB:ln []=0:=rfl
theorem Vt{f:Nat->bB}{l:List (Nat->bB)}:ln (f::l)=ln l+1:=rfl
attribute [go_sem] aa2 Vy aaB Vt
@[reducible] def RG (ops:List (Nat->bB)) (live:List Nat):AC:=.region (nb 0 ops) (ln ops) live
@[reducible] def SR (ops:List (Nat->bB)) (live:List Nat) (y:AC):AC:=.seq (RG ops live) y
end Go.AM
namespace Go.Proofs.YtlncecohbakleaaGreat
open Go Go.AM
def K7:Nat:=6
def tZ:Nat:=31
def G8:Nat:=33
def rS:Nat:=34
def GG:Nat:=35
def qA:Nat:=46
def rN:Nat:=47
def ED:Nat:=48
def BW:Nat:=49
def BJ:Nat:=50
def sY:Nat:=51
def wQ:Nat:=52
def EX:Nat:=73
def HQ:Nat:=75
def FR:Nat:=77
def xF:Nat:=91
def C8:Nat:=92
def AR:Nat:=93
def cT:Nat:=94
def JY:Nat:=95
def iP:Nat:=96
def lZ:Nat:=97
def fJ:Nat:=98
def KC:Nat:=99
def sJ:Nat:=100
def oU:Nat:=101
def AG:Nat:=103
def wU:Nat:=104
def yE:Nat:=105
def HI:Nat:=106
def kP:Nat:=107
def EK:Nat:=109
def dL:Nat:=112
def oA:Nat:=114
def CY:Nat:=117
def uI:Nat:=119
def sO:Nat:=120
def A6:Nat:=121
def xE:Nat:=122
def A8:Nat:=123
def D6:Nat:=124
def xQ:Nat:=125
def D7:Nat:=126
def HS:Nat:=127
def FH:Nat:=128
def KE:Nat:=129
def IB:Nat:=130
def EU:Nat:=131
def cS:Nat:=132
def wS:Nat:=133
def l5:Nat:=134
def dV:Nat:=135
def bP:Nat:=136
def EI:Nat:=164
def IE:Nat:=165
def oR:Nat:=166
def tC:Nat:=167
def E5:Nat:=173
def IP:Nat:=177
def aD:Nat:=178
def AS:Nat:=179
def sS:Nat:=180
def iO:Nat:=181
def iX:Nat:=182
def iQ:Nat:=183
def iU:Nat:=184
def iB:Nat:=185
def gS:Nat:=186
def qK:Nat:=187
def qH:Nat:=188
def rY:Nat:=189
def sB:Nat:=190
def EC:Nat:=191
def mF:Nat:=192
def gQ:Nat:=193
def ES:Nat:=194
def EW:Nat:=195
def lV:Nat:=196
def lA:Nat:=197
def mX:Nat:=198
def fB:Nat:=199
def sH:Nat:=200
def cF:Nat:=201
def bZ:Nat:=203
def mD:Nat:=204
def mE:Nat:=205
def HX:Nat:=208
def G7:Nat:=209
def HZ:Nat:=210
def K1:Nat:=211
def xA:Nat:=212
def rM:Nat:=213
def oT:Nat:=214
def HY:Nat:=215
def uV:Nat:=216
def oC:Nat:=217
def IF:Nat:=218
def uL:Nat:=219
def rT:Nat:=220
def j8:Nat:=221
def mJ:Nat:=222
def eK:Nat:=223
def i9:Nat:=224
def jG:Nat:=225
def KH:Nat:=226
def pA:Nat:=227
def EG:Nat:=247
def mG:Nat:=248
def wY:Nat:=249
def tB:Nat:=250
def wP:Nat:=253
def sM:Nat:=255
def fY:Nat:=256
def fL:Nat:=257
def fG:Nat:=258
def eZ:Nat:=259
def jD:Nat:=260
def kH:Nat:=261
def jP:Nat:=262
def gW:Nat:=263
def gL:Nat:=264
def nV:Nat:=265
def fZ:Nat:=266
def gI:Nat:=267
def sG:Nat:=268
def sW:Nat:=269
def J8:Nat:=270
def KD:Nat:=271
def GA:Nat:=272
def dR:Nat:=273
def FN:Nat:=274
def eG:Nat:=275
def z7:Nat:=276
def KZ:Nat:=277
def K3:Nat:=278
def FX:Nat:=279
def fX:Nat:=280
def j7:Nat:=281
def dC:Nat:=282
def xG:Nat:=283
def BF:Nat:=284
def oD:Nat:=285
def iJ:Nat:=286
def qD:Nat:=287
def tG:Nat:=288
def wA:Nat:=289
def xJ:Nat:=290
def s6:Nat:=291
def tN:Nat:=292
def dF:Nat:=293
def F4:Nat:=294
def eH:Nat:=295
def oX:Nat:=296
def cE:Nat:=297
def gB:Nat:=298
def jK:Nat:=299
def kB:Nat:=300
def S1:Nat:=301
def kY:Nat:=302
def eE:Nat:=303
def mL:Nat:=304
def tV:Nat:=305
def EL:Nat:=314
def AT:Nat:=315
def FL:Nat:=316
def gY:Nat:=317
def gO:Nat:=318
def dD:Nat:=319
def FC:Nat:=320
def eF:Nat:=321
def oY:Nat:=322
def cZ:Nat:=323
def FJ:Nat:=324
def eN:Nat:=325
def fA:Nat:=326
def oO:Nat:=327
def GD:Nat:=328
def IC:Nat:=329
def sZ:Nat:=330
def E8:Nat:=331
def DK:Nat:=332
def mY:Nat:=333
def cN:Nat:=337
def z8:Nat:=338
def vZ:Nat:=339
def HP:Nat:=340
def EV:AC:= (SR [RV 0 kF] [] (SR [RC 1 wU [(ki 5),(ki 1),kF],RM 0 1] [0] .ret))
def UO:List aX:=[.tm 0]
theorem yp:aS ag0 Tryz.f33 (bA EV)=some (EV,UO):=by kernel_rfl
def yD:AC:= (SR [RO 3 0,RO 4 1,RA 6 [OZ,OZ,OZ,OZ,OZ,OZ],RV 7 (ki 0)] [2,3,4,6] (.seq (SR [RD 11 3 3,RD 12 6 4,RC 13 EU [11,12],RU 14 13,RM 15 14,GM 16 2 15 false,GQ 17 (.len false 16) 15 false,GB 18 .gtr 17 (ki 200) 15 false,RP 19 15 kT 18] [2,3,4,6,19] (.cond 19 (SR [rq 20 (.build [OZ,OZ,OZ,OZ,OZ,OZ] []),WS 6 true 6 20,rq 7 (.move (.kv (.int .i64 (-1))))] [6,7] .ret) .skip)) (SR [RD 21 6 4,RC 22 cS [21],RA 8 [OZ,OZ,OZ,OZ,OZ,OZ],WS 6 true 8 22] [2,3,6,8] (.seq (SR [RM 23 2,RN 24 23,RV 25 (ki 0)] [2,3,6,8,23,24,25] (.block 0 (.loop (SR [RB 26 .lss 25 24] [2,3,6,8,23,24,25,26] (.seq (.cond 26 .skip (.exit 0)) (.seq (.block 1 (SR [RM 27 25,RI 28 3 23 25,RD 29 3 28,RA 10 [VZ,VZ,VZ],RM 9 27,WS 3 true 10 29] [2,3,6,8,9,10,23,24,25] (.seq (SR [RD 30 3 3,RD 31 6 8,RD 32 3 10,RC 33 wS [30,31,32],RB 34 .neq 33 (ki 0)] [2,3,6,8,9,10,23,24,25,34] (.cond 34 (SR [RD 35 6 8,RC 36 cS [35],RM 37 9,WS 6 true 6 36,RM 7 37] [6,7] .ret) .skip)) (RG [RD 38 3 3,RD 39 3 10,RC 40 l5 [38,8,39]] [2,3,6,8,23,24,25])))) (RG [RB 41 .add 25 (ki 1),RM 25 41] [2,3,6,8,23,24,25]))))))) (SR [RD 42 6 8,RC 43 cS [42],RM 44 2,RN 45 44,WS 6 true 6 43,RM 7 45] [6,7] .ret)))))
def OH:List aX:=[.cell 6 6 true,.tm 7]
theorem il:aS ag0 Tryz.f50 (bA yD)=some (yD,OH):=by kernel_rfl
def uA:AC:= (SR [RV 2 (.kv (.pointer none))] [0] (.seq (SR [RM 3 0,RN 4 3,RB 5 .gtr 4 (ki 2000)] [0,5] (.cond 5 (RG [RM 6 0,rq 7 (.slc 1 6 none (some (ki 2000)) none),RM 0 7] [0]) .skip)) (SR [RM 8 0,rq 9 (.build [OZ,VZ] [(0,1,8)]),RO 10 9,RM 2 10] [2] .ret)))
def K9:List aX:=[.tm 2]
theorem X1:aS ag0 Tryz.f91 (bA uA)=some (uA,K9):=by kernel_rfl
def lR:AC:= (SR [RV 4 kF] [0,1] (SR [RM 5 1,RB 6 .lss 5 (ki 9000),RM 7 6,GM 8 0 7 true,GM 9 1 7 true,GQ 10 (.call aD [8,9]) 7 true,GM 11 1 7 true,GB 12 .sub 11 (ki 1) 7 true,GB 13 .eql 10 12 7 true,RP 14 7 13 kF,RM 4 14] [4] .ret))
def G4:List aX:=[.tm 4]
theorem T4:aS ag0 Tryz.f94 (bA lR)=some (lR,G4):=by kernel_rfl
theorem G5:aR ag0 cT Tryz.f94 lR G4:=aR.mk Tryz.func94 (by kernel_rfl) T4
def BT:AC:= (SR [RV 6 kF] [0,1,2] (SR [RM 7 1,RB 8 .eql 7 (ki 1),RM 9 8,GM 10 1 9 false,GB 11 .eql 10 (ki 2) 9 false,RP 12 9 kT 11,RM 13 12,GM 14 1 13 false,GB 15 .eql 14 (ki 4) 13 false,RP 16 13 kT 15,RM 17 16,GM 18 0 17 true,GQ 19 (.call dL [18,(ki 0),(ki 63)]) 17 true,RP 20 17 19 kF,RM 21 20,GM 22 2 21 true,GM 23 22 21 true,GM 24 0 23 false,GM 25 1 23 false,GB 26 .add 24 25 23 false,GB 27 .sub 26 (ki 1) 23 false,GB 28 .leq 27 (ki 63) 23 false,GQ 29 (.pick 23 kT 28) 21 true,RP 30 21 29 kF,RM 6 30] [6] .ret))
def R5:List aX:=[.tm 6]
theorem ks:aS ag0 Tryz.f104 (bA BT)=some (BT,R5):=by kernel_rfl
def KY:AC:= (SR [RV 6 kF] [0,1,2] (SR [RM 7 0,RM 8 1,RB 9 .geq 7 8,RM 10 9,GM 11 0 10 true,GM 12 2 10 true,GB 13 .leq 11 12 10 true,RP 14 10 13 kF,RM 6 14] [6] .ret))
def bx:List aX:=[.tm 6]
theorem Cn:aS ag0 Tryz.f112 (bA KY)=some (KY,bx):=by kernel_rfl
def BA:AC:= (SR [RO 2 0,RO 3 1,RV 4 kF] [2,3] (SR [RD 5 3 2,RC 6 ES [5],RM 7 6,GQ 8 (.load 3 true 2) 7 true,GQ 9 (.load 6 true 3) 7 true,GQ 10 (.call mX [8,9]) 7 true,RP 11 7 10 kF,RM 4 11] [4] .ret))
def RJ:List aX:=[.tm 4]
theorem sk:aS ag0 Tryz.f131 (bA BA)=some (BA,RJ):=by kernel_rfl
def iC:AC:= (SR [RO 1 0,RA 2 [OZ,OZ,OZ,OZ,OZ,OZ]] [1,2] (.seq (.region [RF 3 0 1 0,RD 4 2 3 1,RF 6 2 1 3,RW 7 6 [] [] true 4,RF 9 3 1 6,RW 10 9 [] [] true 7,RF 12 4 1 9,RW 13 12 [] [] true 10,RF 15 5 1 12,RW 16 15 [] [] true 13,RX 5 (.call iO [4]) [] [4,7,10,13] false 2,RX 8 (.call iB [7]) [] [7,10,13] false 5,RX 11 (.call iU [10]) [] [10,13] false 8,RX 14 (.call iU [13]) [] [13] false 11,RC 17 iU [16] 14,rq 18 (.build [OZ,OZ,OZ,OZ,OZ,OZ] [(0,2,5),(2,1,8),(3,1,11),(4,1,14),(5,1,17)]) 15,WS 6 true 2 18 16] 17 [2]) .ret))
def uT:List aX:=[.cell 2 6 true]
theorem JV:aS ag0 Tryz.f132 (bA iC)=some (iC,uT):=by kernel_rfl
theorem uZ:aR ag0 cS Tryz.f132 iC uT:=aR.mk Tryz.func132 (by kernel_rfl) JV
def oF:AC:= (SR [RO 3 0,RO 4 1,RO 5 2,RV 6 (ki 0)] [3,4,5] (.seq (SR [RD 7 3 3,RF 8 1 5,RL 9 8,RF 10 2 5,RL 11 10,RC 12 uL [7,9,11],RU 13 12,RM 14 13,GF 15 0 5 14 false,GL 16 15 14 false,GQ 17 (.call dL [16,(ki 1),(ki 3)]) 14 false,GU 18 17 14 false,RP 19 14 kT 18] [3,4,5,19] (.cond 19 (SR [RV 6 (ki 1)] [6] .ret) .skip)) (.seq (SR [RF 20 0 5,RL 21 20] [3,4,5,21] (.block 0 (SR [RB 23 .eql 21 (ki 1),RM 22 23] [3,4,5,21,22] (.cond 22 (SR [RF 24 2 5,RL 25 24,RF 26 2 4,RL 27 26,RF 28 1 5,RL 29 28,RI 30 1 27 29,RL 31 30,RB 32 .neq 25 31] [32] (.cond 32 (SR [RV 6 (ki 2)] [6] .ret) .skip)) (SR [RB 34 .eql 21 (ki 2),RM 33 34] [3,4,5,21,33] (.cond 33 (.block 1 (SR [RF 36 3 4,RL 37 36,RF 38 1 5,RL 39 38,RF 40 2 5,RL 41 40,RC 42 rT [37,39,41],RB 43 .lss 42 (ki 0),RM 35 43] [3,4,5,35] (.cond 35 (SR [RV 6 (ki 3)] [6] .ret) (SR [RD 45 3 3,RF 46 3 4,RL 47 46,RD 48 3 5,RC 49 j8 [45,47,48],RM 44 49] [44] (.cond 44 (SR [RV 6 (ki 4)] [6] .ret) .skip))))) (SR [RB 51 .eql 21 (ki 3),RM 50 51] [3,4,5,50] (.cond 50 (.block 2 (SR [RF 53 4 4,RL 54 53,RF 55 1 5,RL 56 55,RF 57 2 5,RL 58 57,RC 59 rT [54,56,58],RB 60 .lss 59 (ki 0),RM 52 60] [3,4,5,52] (.cond 52 (SR [RV 6 (ki 5)] [6] .ret) (SR [RD 62 3 3,RF 63 3 4,RL 64 63,RD 65 3 5,RC 66 j8 [62,64,65],RM 67 66,GQ 68 (.load 3 true 3) 67 false,GF 69 4 4 67 false,GL 70 69 67 false,GQ 71 (.load 3 true 5) 67 false,GQ 72 (.call j8 [68,70,71]) 67 false,RP 73 67 kT 72,RM 61 73] [61] (.cond 61 (SR [RV 6 (ki 6)] [6] .ret) .skip))))) .skip)))))))) (SR [RV 6 (ki 0)] [6] .ret))))
def FU:List aX:=[.tm 6]
theorem SO:aS ag0 Tryz.f133 (bA oF)=some (oF,FU):=by kernel_rfl
def lC:AC:= (SR [RO 3 0,RO 5 2] [1,3,5] (SR [RF 8 0 5,RL 9 8] [1,3,5,9] (.block 0 (SR [RB 11 .eql 9 (ki 1),RM 10 11] [1,3,5,9,10] (.cond 10 (SR [RM 12 1,RK 13 12,RF 14 2 13,RL 15 14,RF 16 1 5,RL 17 16,RI 18 1 15 17,RL 19 18,RB 20 .add 19 (ki 1),RI 21 1 15 17,WS 1 false 21 20] [1,5] (RG [RM 22 1,RM 23 1,RK 24 23,RF 25 3 24,RL 26 25,RF 27 1 5,RL 28 27,RF 29 2 5,RL 30 29,rq 31 (.build [VZ,VZ,VZ,VZ,OZ] [(0,1,28),(1,1,30)]),RC 32 mJ [26,31],RK 33 22,RF 34 3 33,WS 1 false 34 32] [])) (SR [RB 36 .eql 9 (ki 2),RM 35 36] [1,3,5,9,35] (.cond 35 (SR [RM 37 1,RK 38 37,RF 39 3 38,RL 40 39,RF 41 1 5,RL 42 41,RF 43 2 5,RL 44 43,RC 45 rT [40,42,44],RM 6 45] [1,3,5,6] (SR [RM 46 1,RM 47 1,RK 48 47,RF 49 3 48,RL 50 49,RM 51 6,RM 52 6,RB 53 .add 52 (ki 1),RC 54 eK [50,51,53],RK 55 46,RF 56 3 55,WS 1 false 56 54] [1,3,5] (RG [RM 57 1,RM 58 1,RK 59 58,RF 60 4 59,RW 61 60 [] [] true,RF 62 1 5,RW 63 62 [] [] true,RF 64 2 5,RW 65 64 [] [] true,RM 66 1,RK 67 66,RF 68 0 67,RF 69 0 3,RL 70 69,RF 71 1 5,RL 72 71,RF 73 2 3,RL 74 73,RF 75 1 5,RL 76 75,RI 77 1 74 76,RL 78 77,RF 79 2 5,RL 80 79,RI 81 7 78 80,RD 82 7 81,RX 83 (.call i9 [68,70,72,82]) [] [4,6,8] false,rq 84 (.build [VZ,VZ,VZ,VZ,OZ] [(0,1,63),(1,1,65),(2,3,83)]),RC 85 mJ [61,84],RK 86 57,RF 87 4 86,WS 1 false 87 85] []))) (SR [RB 89 .eql 9 (ki 3),RM 88 89] [1,5,88] (.cond 88 (SR [RM 90 1,RK 91 90,RF 92 4 91,RL 93 92,RF 94 1 5,RL 95 94,RF 96 2 5,RL 97 96,RC 98 rT [93,95,97],RM 7 98] [1,7] (SR [RM 99 1,RM 100 1,RK 101 100,RF 102 5 101,RW 103 102 [12] [] false,RM 104 1,RK 105 104,RF 106 4 105,RL 107 106,RM 108 7,RI 109 5 107 108,RD 110 5 109,rq 111 (.aV 5 1 [VZ,VZ,VZ,VZ,OZ] [(0,5,110)]),rq 112 (.append 5 103 111),RK 113 99,RF 114 5 113,WS 1 false 114 112] [1,7] (RG [RM 115 1,RM 116 1,RK 117 116,RF 118 4 117,RL 119 118,RM 120 7,RM 121 7,RB 122 .add 121 (ki 1),RC 123 eK [119,120,122],RK 124 115,RF 125 4 124,WS 1 false 125 123] []))) .skip)))))))))
def zD:List aX:=[]
theorem MA:aS ag0 Tryz.f134 (bA lC)=some (lC,zD):=by kernel_rfl
def mV:AC:= (SR [RO 2 0,RO 3 1,RV 4 (ki 0)] [2,3] (.seq (.region [RF 5 0 2 0,RL 6 5 1,RF 7 0 3 2,RL 8 7 3,RF 10 1 2 5,RW 11 10 [10] [] true 6,RF 12 1 3 7,RW 13 12 [10] [] true 8,RX 9 (.call pA [6,8]) [] [6,8] false 4,RC 14 pA [11,13] 9,rq 15 (.aV 1 2 [VZ] [(0,1,9),(1,1,14)]) 10,RC 16 KH [15] 11,RM 4 16 12] 13 [4]) .ret))
def DW:List aX:=[.tm 4]
theorem PV:aS ag0 Tryz.f136 (bA mV)=some (mV,DW):=by kernel_rfl
def vY:AC:= (SR [RA 0 [OZ,OZ]] [0] (SR [RC 3 mG [],rq 4 (.build [OZ,OZ] [(0,1,3)]),RA 1 [OZ,OZ],WS 2 true 1 4] [0,1] (.seq (SR [RV 2 (ki 0)] [0,1,2] (.block 0 (.loop (.seq (SR [RM 5 2,RB 6 .lss 5 (ki 6)] [0,1,2,6] (.cond 6 .skip (.exit 0))) (.seq (.block 1 (RG [RF 9 1 1,RL 10 9,rq 11 (.aV 1 1 [VZ] [(0,1,(.kv (.int .i64 (-1))))]),rq 12 (.append 1 10 11),RF 13 1 1,WS 1 false 13 12] [0,1,2])) (RG [RM 7 2,RB 8 .add 7 (ki 1),RM 2 8] [0,1,2])))))) (SR [RD 14 2 1,WS 2 true 0 14] [0] .ret))))
def N9:List aX:=[.cell 0 2 true]
theorem bu:aS ag0 Tryz.f166 (bA vY)=some (vY,N9):=by kernel_rfl
def n6:AC:= (SR [RV 4 (ki 0)] [0,1] (SR [RM 7 0,RM 8 0,RK 9 8,RF 10 1 9,RL 11 10,RB 12 .add 11 (ki 1),RK 13 7,RF 14 1 13,WS 1 false 14 12] [0,1] (.seq (SR [RM 15 1,RB 16 .lss 15 (ki 1),RM 17 16,GM 18 0 17 false,GQ 19 (.zO 18) 17 false,GF 20 0 19 17 false,GL 21 20 17 false,GQ 22 (.len false 21) 17 false,GB 23 .eql 22 (ki 0) 17 false,RP 24 17 kT 23] [0,1,24] (.cond 24 (SR [RV 4 (ki 0)] [4] .ret) .skip)) (SR [RM 25 0,RK 26 25,RF 27 1 26,RL 28 27,RB 29 .sub 28 (ki 1),RM 5 29] [0,1,5] (.seq (SR [RM 30 5,RM 31 0,RK 32 31,RF 33 0 32,RL 34 33,RN 35 34,RB 36 .lss 30 35] [0,1,5,36] (.cond 36 (SR [RM 37 0,RK 38 37,RF 39 0 38,RL 40 39,RM 41 5,RI 42 1 40 41,RL 43 42,rq 44 (.conv .i64 43),RM 45 1,RB 46 .rem 44 45,RM 4 46] [4] .ret) .skip)) (SR [RM 47 0,RK 48 47,RF 49 0 48,RL 50 49,RM 51 5,RM 52 0,RK 53 52,RF 54 0 53,RL 55 54,RN 56 55,RB 57 .rem 51 56,RI 58 1 50 57,RL 59 58,rq 60 (.conv .i64 59),RB 61 .mul 60 (ki 131),RM 62 0,RK 63 62,RF 64 0 63,RL 65 64,RM 66 5,RB 67 .mul 66 (ki 7),RB 68 .add 67 (ki 3),RM 69 0,RK 70 69,RF 71 0 70,RL 72 71,RN 73 72,RB 74 .rem 68 73,RI 75 1 65 74,RL 76 75,rq 77 (.conv .i64 76),RB 78 .mul 77 (ki 1117),RB 79 .add 61 78,RM 80 5,RB 81 .mul 80 (ki 29),RB 82 .add 79 81,RM 83 5,RM 84 0,RK 85 84,RF 86 0 85,RL 87 86,RN 88 87,RB 89 .quo 83 88,RB 90 .mul 89 (ki 53),RB 91 .add 82 90,RM 6 91] [1,6] (SR [RM 92 6,RM 93 6,RB 94 .quo 93 (ki 64),RB 95 .xor 92 94,RM 6 95] [1,6] (SR [RM 96 6,RM 97 1,RB 98 .rem 96 97,RM 4 98] [4] .ret))))))))
def F5:List aX:=[.tm 4]
theorem SU:aS ag0 Tryz.f178 (bA n6)=some (n6,F5):=by kernel_rfl
def jM:AC:= (SR [RO 1 0,RA 2 [OZ,OZ]] [1,2] (.seq (.region [RF 3 0 1 0,RF 4 0 3 1,RL 5 4 2,RF 8 1 1 5,RW 9 8 [] [] true 6,RX 6 (.call iB [5]) [] [6] false 3,rq 7 (.build [OZ] [(0,1,6)]) 4,RC 10 iB [9] 7,rq 11 (.build [OZ,OZ] [(0,1,7),(1,1,10)]) 8,WS 2 true 2 11 9] 10 [2]) .ret))
def uU:List aX:=[.cell 2 2 true]
theorem JF:aS ag0 Tryz.f181 (bA jM)=some (jM,uU):=by kernel_rfl
def qR:AC:= (SR [RV 2 (.kv (.slice none 0 0))] [0] (SR [RM 6 0,RC 7 jD [6],RM 3 7] [3] (.seq (SR [RM 8 3,RN 9 8,RV 10 (ki 0)] [3,8,9,10] (.block 0 (.loop (SR [RB 11 .lss 10 9] [3,8,9,10,11] (.seq (.cond 11 .skip (.exit 0)) (.seq (.block 1 (SR [RM 12 10,RI 13 5 8 10,RD 14 5 13,RA 5 [VZ,VZ,VZ,VZ,OZ],RM 4 12,WS 5 true 5 14] [3,4,5,8,9,10] (RG [RM 15 3,RM 16 4,RF 17 2 5,RF 18 2 17,RL 19 18,RC 20 iB [19],RI 21 5 15 16,RF 22 2 21,RF 23 2 22,WS 1 false 23 20] [3,8,9,10]))) (RG [RB 24 .add 10 (ki 1),RM 10 24] [3,8,9,10]))))))) (SR [RM 25 3,RM 2 25] [2] .ret))))
def JB:List aX:=[.tm 2]
theorem V8:aS ag0 Tryz.f184 (bA qR)=some (qR,JB):=by kernel_rfl
def pF:AC:= (SR [RV 2 (.kv (.slice none 0 0))] [0] (SR [RM 3 0,RC 4 jP [3],RC 5 kH [4],RM 2 5] [2] .ret))
def HH:List aX:=[.tm 2]
theorem UJ:aS ag0 Tryz.f185 (bA pF)=some (pF,HH):=by kernel_rfl
def nA:AC:= (SR [RO 1 0,RA 2 [OZ,OZ]] [1,2] (.seq (.region [RF 3 0 1 0,RX 4 (.load 1 true 3) [3] [] false 1,rq 6 (.aV 1 0 [VZ] []) 3,RF 7 1 1 4,RW 8 7 [3] [] true 5,RX 5 (.call sW [4]) [3] [5] false 2,rq 9 (.append 1 6 8) 6,rq 10 (.build [OZ,OZ] [(0,1,5),(1,1,9)]) 7,WS 2 true 2 10 8] 9 [2]) .ret))
def FO:List aX:=[.cell 2 2 true]
theorem N1:aS ag0 Tryz.f192 (bA nA)=some (nA,FO):=by kernel_rfl
def mZ:AC:= (SR [RV 2 (.kv (.slice none 0 0))] [0] (SR [rq 5 (.aV 5 0 [VZ,VZ,VZ,VZ,OZ] []),RM 3 5] [0,3] (.seq (SR [RV 4 (ki 0)] [0,3,4] (.block 0 (.loop (.seq (SR [RM 6 4,RM 7 0,RN 8 7,RB 9 .lss 6 8] [0,3,4,9] (.cond 9 .skip (.exit 0))) (.seq (.block 1 (RG [RM 12 3,RM 13 0,RM 14 4,RI 15 5 13 14,RF 16 0 15,RW 17 16 [18] [] true,RM 18 0,RM 19 4,RI 20 5 18 19,RF 21 1 20,RW 22 21 [18] [] true,RM 23 0,RM 24 4,RI 25 5 23 24,RF 26 2 25,RD 27 3 26,RX 28 (.call J8 [27]) [] [5,10] false,rq 29 (.build [VZ,VZ,VZ,VZ,OZ] [(0,1,17),(1,1,22),(2,3,28)]),rq 30 (.aV 5 1 [VZ,VZ,VZ,VZ,OZ] [(0,5,29)]),rq 31 (.append 5 12 30),RM 3 31] [0,3,4])) (RG [RM 10 4,RB 11 .add 10 (ki 1),RM 4 11] [0,3,4])))))) (SR [RM 32 3,RM 2 32] [2] .ret))))
def FK:List aX:=[.tm 2]
theorem MS:aS ag0 Tryz.f193 (bA mZ)=some (mZ,FK):=by kernel_rfl
def AN:AC:= (SR [RO 1 0,RV 2 kF] [1] (SR [RF 3 0 1,RL 4 3,RC 5 KD [4],RM 6 5,GF 7 1 1 6 true,GL 8 7 6 true,GQ 9 (.len false 8) 6 true,GB 10 .eql 9 (ki 4) 6 true,RP 11 6 10 kF,RM 12 11,GF 13 1 1 12 true,GL 14 13 12 true,GQ 15 (.call cF [14,(.fn GA)]) 12 true,GU 16 15 12 true,RP 17 12 16 kF,RM 18 17,GF 19 2 1 18 true,GL 20 19 18 true,GQ 21 (.len false 20) 18 true,GB 22 .eql 21 (ki 3) 18 true,RP 23 18 22 kF,RM 24 23,GF 25 2 1 24 true,GL 26 25 24 true,GQ 27 (.call dR [26,(.fn FN)]) 24 true,GU 28 27 24 true,RP 29 24 28 kF,RM 2 29] [2] .ret))
def P6:List aX:=[.tm 2]
theorem nk:aS ag0 Tryz.f194 (bA AN)=some (AN,P6):=by kernel_rfl
def AK:AC:= (SR [RO 1 0,RV 2 kF] [1] (SR [RF 3 0 1,RD 4 1 3,RC 5 K3 [4],RM 6 5,GF 7 1 1 6 true,GL 8 7 6 true,GQ 9 (.len false 8) 6 true,GB 10 .eql 9 (ki 6) 6 true,RP 11 6 10 kF,RM 12 11,GF 13 1 1 12 true,GL 14 13 12 true,GQ 15 (.call cF [14,(.fn FX)]) 12 true,GU 16 15 12 true,RP 17 12 16 kF,RM 2 17] [2] .ret))
def QC:List aX:=[.tm 2]
theorem ky:aS ag0 Tryz.f195 (bA AK)=some (AK,QC):=by kernel_rfl
def lY:AC:= (SR [RO 2 0,RO 3 1,RV 4 kF] [2,3] (.seq (SR [RF 13 0 3,RD 14 2 13,RC 15 EW [14],RU 16 15,RM 17 16,GF 18 2 3 17 false,GL 19 18 17 false,GQ 20 (.len false 19) 17 false,GB 21 .neq 20 (ki 3) 17 false,RP 22 17 kT 21,RM 23 22,GF 24 3 3 23 false,GL 25 24 23 false,GQ 26 (.call BF [25]) 23 false,GU 27 26 23 false,RP 28 23 kT 27,RM 29 28,GF 30 4 3 29 false,GL 31 30 29 false,GQ 32 (.call BF [31]) 29 false,GU 33 32 29 false,RP 34 29 kT 33] [2,3,34] (.cond 34 (SR [RV 4 kF] [4] .ret) .skip)) (SR [RV 5 (ki 0)] [2,3,5] (.seq (SR [RF 35 2 3,RL 36 35,RN 37 36,RV 38 (ki 0)] [2,3,5,36,37,38] (.block 0 (.loop (SR [RB 39 .lss 38 37] [2,3,5,36,37,38,39] (.seq (.cond 39 .skip (.exit 0)) (.seq (.block 1 (SR [RM 40 38,RI 41 1 36 38,RL 42 41,RM 6 40,RM 7 42] [2,3,5,6,7,36,37,38] (.seq (SR [RM 43 7,RF 44 2 2,RL 45 44,RM 46 6,RI 47 1 45 46,RL 48 47,RN 49 48,RC 50 dL [43,(ki 0),49],RU 51 50] [2,3,5,7,36,37,38,51] (.cond 51 (SR [RV 4 kF] [4] .ret) .skip)) (RG [RM 52 5,RM 53 7,RB 54 .add 52 53,RM 5 54] [2,3,5,36,37,38])))) (RG [RB 55 .add 38 (ki 1),RM 38 55] [2,3,5,36,37,38]))))))) (SR [rq 56 (.xop (.LX 2 true) []),RM 8 56] [2,3,5,8] (.seq (SR [RF 57 3 3,RL 58 57,RF 59 4 3,RL 60 59,RF 61 5 3,RL 62 61,rq 63 (.aV 1 3 [OZ] [(0,1,58),(1,1,60),(2,1,62)]),RN 64 63,RV 65 (ki 0)] [2,3,5,8,63,64,65] (.block 2 (.loop (SR [RB 66 .lss 65 64] [2,3,5,8,63,64,65,66] (.seq (.cond 66 .skip (.exit 2)) (.seq (.block 3 (SR [RM 67 65,RI 68 1 63 65,RL 69 68,RM 9 67,RM 10 69] [2,3,5,8,9,10,63,64,65] (SR [RM 70 10,RN 71 70,RV 72 (ki 0)] [2,3,5,8,9,63,64,65,70,71,72] (.block 4 (.loop (SR [RB 73 .lss 72 71] [2,3,5,8,9,63,64,65,70,71,72,73] (.seq (.cond 73 .skip (.exit 4)) (.seq (.block 5 (SR [RI 74 5 70 72,RD 75 5 74,RA 12 [VZ,VZ,VZ,VZ,OZ],WS 5 true 12 75] [2,3,5,8,9,12,63,64,65,70,71,72] (.seq (SR [RF 76 0 12,RL 77 76,RC 78 j7 [77],RU 79 78,RM 80 79,GF 81 1 12 80 false,GL 82 81 80 false,GF 83 2 3 80 false,GL 84 83 80 false,GF 85 0 12 80 false,GL 86 85 80 false,GI 87 1 84 86 80 false,GL 88 87 80 false,GB 89 .sub 88 (ki 1) 80 false,GQ 90 (.call dL [82,(ki 0),89]) 80 false,GU 91 90 80 false,RP 92 80 kT 91,RM 93 92,GM 94 8 93 false,GF 95 0 12 93 false,GL 96 95 93 false,GF 97 1 12 93 false,GL 98 97 93 false,GQ 99 (.build [VZ,VZ] [(0,1,96),(1,1,98)]) 93 false,GQ 100 (.xop (.wL 2 true false) [94,99]) 93 false,RP 101 93 kT 100] [2,3,5,8,9,12,63,64,65,70,71,72,101] (.cond 101 (SR [RV 4 kF] [4] .ret) .skip)) (SR [RM 102 8,RF 103 0 12,RL 104 103,RF 105 1 12,RL 106 105,rq 107 (.build [VZ,VZ] [(0,1,104),(1,1,106)]),rn (.xop (.DE 2 true) [102,107,kT])] [2,3,5,8,9,12,63,64,65,70,71,72] (SR [RM 108 9,RB 109 .eql 108 (ki 0),RM 110 109,GF 111 2 12 110 true,GQ 112 (.load 3 true 111) 110 true,GQ 113 (.call oD [112]) 110 true,GU 114 113 110 true,RP 115 110 114 kF,RM 116 115,GM 117 9 116 false,GB 118 .gtr 117 (ki 0) 116 false,GM 119 118 116 false,GF 120 2 12 119 true,GQ 121 (.load 3 true 120) 119 true,GQ 122 (.call xG [121]) 119 true,GU 123 122 119 true,GM 124 123 119 true,GF 125 2 12 124 false,GF 126 0 125 124 false,RY (some 127) (.load 1 false 126) (some (124,false)) [] [] true,GQ 128 (.load 3 true 2) 124 false,GF 129 0 12 124 false,GL 130 129 124 false,GF 131 1 12 124 false,GL 132 131 124 false,RY (some 133) (.call fX [128,130,132]) (some (124,false)) [] [19] false,GB 134 .neq 127 133 124 false,GQ 135 (.pick 124 kT 134) 119 true,GQ 136 (.pick 119 135 kF) 116 false,RP 137 116 kT 136] [2,3,5,8,9,63,64,65,70,71,72,137] (.cond 137 (SR [RV 4 kF] [4] .ret) .skip)))))) (RG [RB 138 .add 72 (ki 1),RM 72 138] [2,3,5,8,9,63,64,65,70,71,72]))))))))) (RG [RB 139 .add 65 (ki 1),RM 65 139] [2,3,5,8,63,64,65]))))))) (SR [RM 140 8,rq 141 (.xop .zL [140]),RM 142 5,RB 143 .eql 141 142,RM 4 143] [4] .ret)))))))
def BV:List aX:=[.tm 4]
theorem OG:aS ag0 Tryz.f198 (bA lY)=some (lY,BV):=by kernel_rfl
def wB:AC:= (SR [RA 4 [OZ,OZ,OZ]] [0,1,4] (SR [RM 11 0,RC 12 mD [11,(ki 99999)],rq 13 (.build [OZ,OZ,OZ] [(0,1,12)]),RA 5 [OZ,OZ,OZ],WS 3 true 5 13] [0,1,4,5] (.seq (SR [RV 6 (ki 0)] [0,1,4,5,6] (.block 0 (.loop (.seq (SR [RM 14 6,RB 15 .leq 14 (ki 3)] [0,1,4,5,6,15] (.cond 15 .skip (.exit 0))) (.seq (.block 1 (RG [RF 18 1 5,RW 19 18 [4] [] true,RM 20 0,RX 21 (.call aD [20,(ki 4)]) [] [1] false,rq 22 (.aV 1 1 [VZ] [(0,1,21)]),rq 23 (.append 1 19 22),RF 24 1 5,WS 1 false 24 23] [0,1,4,5,6])) (RG [RM 16 6,RB 17 .add 16 (ki 1),RM 6 17] [0,1,4,5,6])))))) (.seq (SR [RV 7 (ki 0)] [0,1,4,5,7] (.block 2 (.loop (.seq (SR [RM 25 7,RB 26 .lss 25 (ki 3)] [0,1,4,5,7,26] (.cond 26 .skip (.exit 2))) (.seq (.block 3 (SR [rq 29 (.aV 7 0 [VZ,VZ,VZ,VZ,(.v (.bool false)),OZ,OZ] []),RM 8 29] [0,1,4,5,7,8] (.seq (SR [RM 30 0,RM 31 1,RB 32 .add 31 (ki 1),RC 33 aD [30,32],RM 9 33] [0,1,4,5,7,8,9] (.block 4 (.loop (.seq (SR [RM 34 9,RB 35 .gtr 34 (ki 0)] [0,1,4,5,7,8,9,35] (.cond 35 .skip (.exit 4))) (.seq (.block 5 (SR [RM 38 0,RC 39 mE [38,(ki 99999)],RA 10 [VZ,VZ,VZ,VZ,(.v (.bool false)),OZ,OZ],WS 7 true 10 39] [0,1,4,5,7,8,9,10] (.seq (SR [RF 40 1 10,RL 41 40,RB 42 .eql 41 (ki 4),RM 43 42,GM 44 8 43 true,GQ 45 (.len false 44) 43 true,GB 46 .gtr 45 (ki 0) 43 true,RP 47 43 46 kF,RM 48 47,GM 49 0 48 true,GQ 50 (.call aD [49,(ki 2)]) 48 true,GB 51 .eql 50 (ki 0) 48 true,RP 52 48 51 kF] [0,1,4,5,7,8,9,10,52] (.cond 52 (RG [RM 53 8,RF 54 0 10,RL 55 54,RF 56 2 10,RL 57 56,rq 58 (.build [VZ,VZ,VZ,VZ,(.v (.bool false)),OZ,OZ] [(0,1,55),(1,1,(ki 3)),(2,1,57),(3,1,(ki 1))]),rq 59 (.aV 7 1 [VZ,VZ,VZ,VZ,(.v (.bool false)),OZ,OZ] [(0,7,58)]),rq 60 (.append 7 53 59),RM 8 60] [0,1,4,5,7,8,9,10]) .skip)) (RG [RM 61 8,RD 62 7 10,rq 63 (.aV 7 1 [VZ,VZ,VZ,VZ,(.v (.bool false)),OZ,OZ] [(0,7,62)]),rq 64 (.append 7 61 63),RM 8 64] [0,1,4,5,7,8,9])))) (RG [RM 36 9,RB 37 .sub 36 (ki 1),RM 9 37] [0,1,4,5,7,8,9])))))) (RG [RF 65 2 5,RW 66 65 [7] [] false,RM 67 8,RM 68 8,RN 69 68,rq 70 (.mmx true 69 (ki 12)),rq 71 (.slc 7 67 none (some 70) none),rq 72 (.aV 1 1 [OZ] [(0,1,71)]),rq 73 (.append 1 66 72),RF 74 2 5,WS 1 false 74 73] [0,1,4,5,7])))) (RG [RM 27 7,RB 28 .add 27 (ki 1),RM 7 28] [0,1,4,5,7])))))) (SR [RD 75 3 5,WS 3 true 4 75] [4] .ret)))))
def M6:List aX:=[.cell 4 3 true]
theorem Z9:aS ag0 Tryz.f200 (bA wB)=some (wB,M6):=by kernel_rfl
def eX:AC:= (SR [RV 2 (.kv (.slice none 0 0))] [0] (SR [RM 3 0,RM 4 0,RN 5 4,RM 6 0,RN 7 6,rq 8 (.slc 3 3 none (some 5) (some 7)),RM 2 8] [2] .ret))
def lL:List aX:=[.tm 2]
theorem vO:aS ag0 Tryz.f98 (bA eX)=some (eX,lL):=by kernel_rfl
def oP:AC:= (SR [RO 3 0,RO 4 1,RO 5 2,RA 6 [OZ,OZ,OZ,OZ,OZ]] [3,4,5,6] (.seq (SR [RD 8 3 3,RD 9 5 4,RC 10 yE [8,9],RU 11 10,RM 12 11,GQ 13 (.load 3 true 5) 12 false,GQ 14 (.call HI [13]) 12 false,GU 15 14 12 false,RP 16 12 kT 15] [3,4,5,6,16] (.cond 16 (SR [rq 17 (.build [OZ,OZ,OZ,OZ,OZ] []),WS 5 true 6 17] [6] .ret) .skip)) (SR [RD 18 5 4,RC 19 iP [18],RA 7 [OZ,OZ,OZ,OZ,OZ],WS 5 true 7 19] [3,5,6,7] (SR [RD 20 3 3,RD 21 3 5,RC 22 lZ [7,20,21]] [6,7] (SR [RD 23 5 7,RC 24 iP [23],WS 5 true 6 24] [6] .ret)))))
def K5:List aX:=[.cell 6 5 true]
theorem X4:aS ag0 Tryz.f35 (bA oP)=some (oP,K5):=by kernel_rfl
def rR:AC:= (SR [RO 3 1,RV 4 (ki 0)] [0,3] (.seq (SR [RM 6 0,RC 7 EI [6],RU 8 7,RM 9 8,GQ 10 (.load 7 true 3) 9 false,GQ 11 (.call EG [10]) 9 false,GU 12 11 9 false,RP 13 9 kT 12] [0,3,13] (.cond 13 (SR [rq 4 (.move (.kv (.int .i64 (-1))))] [4] .ret) .skip)) (SR [RM 14 0,RF 15 2 3,RL 16 15,RF 17 3 3,RL 18 17,RF 19 4 3,RL 20 19,RC 21 tB [16,18,20],RC 22 wY [14,21],RM 5 22] [0,5] (.seq (SR [RM 23 5,RB 24 .lss 23 (ki 0)] [0,5,24] (.cond 24 (SR [RV 4 (ki 3)] [4] .ret) .skip)) (SR [RM 25 0,RM 26 5,RI 27 4 25 26,RF 28 2 27,RL 29 28,RM 4 29] [4] .ret)))))
def JM:List aX:=[.tm 4]
theorem VX:aS ag0 Tryz.f167 (bA rR)=some (rR,JM):=by kernel_rfl
def yK:AC:= (SR [RV 4 (.kv (.slice none 0 0))] [0,1] (SR [rq 8 (.aV 3 0 [OZ,OZ,OZ] []),RM 5 8] [0,1,5] (SR [rq 9 (.aV 1 4 [VZ] [(0,1,(ki 2)),(1,1,(ki 3)),(2,1,(ki 5)),(3,1,(ki 20))]),RM 10 0,RC 11 aD [10,(ki 4)],RI 12 1 9 11,RL 13 12,RM 6 13] [0,1,5,6] (.seq (SR [RM 14 0,RM 15 1,RC 16 aD [14,15],RM 7 16] [0,5,6,7] (.block 0 (.loop (.seq (SR [RM 17 7,RB 18 .gtr 17 (ki 0)] [0,5,6,7,18] (.cond 18 .skip (.exit 0))) (.seq (.block 1 (RG [RM 21 5,RM 22 0,RM 23 6,RC 24 EK [22,23],rq 25 (.aV 3 1 [OZ,OZ,OZ] [(0,3,24)]),rq 26 (.append 3 21 25),RM 5 26] [0,5,6,7])) (RG [RM 19 7,RB 20 .sub 19 (ki 1),RM 7 20] [0,5,6,7])))))) (SR [RM 27 5,RM 4 27] [4] .ret)))))
def N5:List aX:=[.tm 4]
theorem gh:aS ag0 Tryz.f93 (bA yK)=some (yK,N5):=by kernel_rfl
def BI:AC:= (SR [RA 0 [OZ,OZ,OZ]] [0] (SR [rq 1 (.aV 1 3 [(.v (.bool false))] [(0,1,kT),(1,1,kT),(2,1,kT)]),rq 2 (.aV 1 4 [(.v (.bool false))] [(0,1,kF),(1,1,kF),(2,1,kF),(3,1,kF)]),rq 3 (.aV 1 3 [(.v (.bool false))] [(0,1,kT),(1,1,kT),(2,1,kT)]),rq 4 (.build [OZ,OZ,OZ] [(0,1,1),(1,1,2),(2,1,3)]),WS 3 true 0 4] [0] .ret))
def P8:List aX:=[.cell 0 3 true]
theorem ly:aS ag0 Tryz.f95 (bA BI)=some (BI,P8):=by kernel_rfl
def BR:AC:= (SR [RA 4 [OZ,OZ,OZ]] [0,1,4] (SR [RC 8 JY [],RA 5 [OZ,OZ,OZ],WS 3 true 5 8] [0,1,4,5] (.seq (SR [RV 6 (ki 0)] [0,1,4,5,6] (.block 0 (.loop (.seq (SR [RM 9 6,RB 10 .lss 9 (ki 3)] [0,1,4,5,6,10] (.cond 10 .skip (.exit 0))) (.seq (.block 1 (SR [RF 13 0 5,RW 14 13 [] [] true,RM 15 6,RM 16 0,RM 17 1,RX 18 (.call aD [16,17]) [] [1] false,RB 19 .gtr 18 (ki 0),RI 20 1 14 15,WS 1 false 20 19] [0,1,4,5,6] (RG [RF 21 2 5,RW 22 21 [] [] true,RM 23 6,RM 24 0,RM 25 1,RX 26 (.call aD [24,25]) [] [1] false,RB 27 .gtr 26 (ki 0),RI 28 1 22 23,WS 1 false 28 27] [0,1,4,5,6]))) (RG [RM 11 6,RB 12 .add 11 (ki 1),RM 6 12] [0,1,4,5,6])))))) (.seq (SR [RV 7 (ki 0)] [0,1,4,5,7] (.block 2 (.loop (.seq (SR [RM 29 7,RB 30 .leq 29 (ki 3)] [0,1,4,5,7,30] (.cond 30 .skip (.exit 2))) (.seq (.block 3 (RG [RF 33 1 5,RW 34 33 [] [] true,RM 35 7,RM 36 0,RM 37 1,RX 38 (.call aD [36,37]) [] [1] false,RB 39 .eql 38 (ki 0),RI 40 1 34 35,WS 1 false 40 39] [0,1,4,5,7])) (RG [RM 31 7,RB 32 .add 31 (ki 1),RM 7 32] [0,1,4,5,7])))))) (SR [RD 41 3 5,WS 3 true 4 41] [4] .ret)))))
def QO:List aX:=[.cell 4 3 true]
theorem kq:aS ag0 Tryz.f109 (bA BR)=some (BR,QO):=by kernel_rfl
end Go.Proofs.YtlncecohbakleaaGreat
