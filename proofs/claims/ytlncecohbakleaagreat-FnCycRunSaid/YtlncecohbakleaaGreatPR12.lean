/- Rules and contracts. -/
import Derived.Test.YtlncecohbakleaaGreatPR7
import Derived.Test.YtlncecohbakleaaGreatPR8
set_option linter.unusedVariables false
set_option linter.unusedSimpArgs false
set_option maxRecDepth 100000
set_option maxHeartbeats 8000000
namespace Go.AM
theorem pY{L:List (List D1)}(h: ∀r∈L,∃v:Int,r=[.v (.int .i64 v)]){x:Int}(c:0<=x)(d:x<L.length): ∃v:Int,L[x.toNat]?=some [.v (.int .i64 v)]:=by
 have a:x.toNat<L.length:=by omega
 obtain⟨v,b⟩:=h _ (adB a);exact⟨v,by rw[abO a,b]⟩
theorem Qa{L:List (List D1)}{lo hi:Int}(h: ∀r∈L,∃v:Int,r=[.v (.int .i64 v)]/\lo<=v/\v<=hi){x:Int}(d:0<=x)(e:x<L.length): ∃v:Int,L[x.toNat]?=some [.v (.int .i64 v)]/\lo<=v/\v<=hi:=by
 have a:x.toNat<L.length:=by omega
 obtain⟨v,b,c⟩:=h _ (adB a);exact⟨v,by rw[abO a,b],c⟩
end Go.AM
namespace Go.Proofs.YtlncecohbakleaaGreat
open Go Go.AM
attribute [local irreducible] aJ wv aC vd wvH
section
variable{H:aA}{nx:Nat}{K:afC}
def rq0(id kind addr many:Int)(wrap:Bool):List D1:=[cI id,cI kind,cI addr,cI many,cB wrap,.osl 0 0 0 0 0,.osl 0 0 0 0 0]
structure Rq where
 id:Int
 kind:Int
 addr:Int
 many:Int
 wrap:Bool
 p:Nat
def rqB(a b c1 c2:Nat)(q:Req):List D1:=[cI q.id,cI q.kind,cI q.addr,cI q.many,cB q.wrap,.osl 1 a 0 q.data.length c1,.osl 1 b 0 q.lanes.length c2]
variable{l:List Int}
theorem ZH{n:Int}{p:Nat}{Q:AQ}(t: ∀ex c H2 b d nh d2 r F σ,ex=AEx.normal\/ex=AEx.ret->mT H2 c wQ=some d->CvR 1 d H2 nh d2 r F σ->(nh=1/\ ∃o',r=hp [(0,o')]/\l9 o'/\ ∃(a:Nat) (q:Req),o'=rdO l a/\p<=a/\a<=p+45/\d2=dA (dM q)/\((n=99999->cR q/\a<=p+40)/\q.data.length<=8/\q.lanes.length<=8))->Q ex c H2 b)
 {c:Env} {H2:aA} {b g h e f c1 c2 m1 u a:Nat} {id kind addr many:Int} {wrap:Bool} {D L:List Int} (v:mT H2 c wQ=some (dA [cI id,cI kind,cI addr,cI many,cB wrap,.osl 1 g 0 e c1,.osl 1 h 0 f c2])) (w:H2 0=some (rdO l a)) (x:H2 g=some ⟨1,m1,D.map aH⟩) (y:H2 h=some ⟨1,u,L.map aH⟩)
 (s:p<=a/\a<=p+45) (z:e=D.length/\f=L.length) (i:e<=c1/\f<=c2/\g≠0/\h≠0/\e<=8/\f<=8) (j:n=99999->cR ⟨id,kind,addr,many,wrap,D,L⟩/\a<=p+40):Q .ret c H2 b:=by
 obtain⟨i,A,B,k,m,o⟩:=i
 obtain⟨rfl,rfl⟩:=z
 exact jS t (dA (dM ⟨id,kind,addr,many,wrap,D,L⟩)) _ _ v (aG (bE rfl) (aG (bE rfl) (aG (bE rfl) (aG (bE rfl) (aG (bE rfl) (aG (cP aV x rfl i (by simpa using B)) (aG (cP aV y rfl A (by simpa using k)) cJ))))))) w (bU _ _) ⟨a,_,rfl,s.1,s.2,rfl,j,m,o⟩
theorem dm(l:List Int)(p:Nat)(n:Int)(hn:n=99999\/0<n/\n<9000)(hl:fW l)(aa:p+45<2^50):afB lS [dP 2 0,dI n] (hp [(0,rdO l p)]) 1
 fun rr H' n'=>n'=1/\ ∃o',H'=hp [(0,o')]/\l9 o'/\ ∃(K:Nat) (q:Req),o'=rdO l K/\p<=K/\K<=p+45/\rr=dA (dM q)/\((n=99999->cR q/\K<=p+40)/\q.data.length<=8/\q.lanes.length<=8):=by
 refine aR.mk Tryz.func205 (by kernel_rfl) cj rfl fun Q A=> ?_
 unfold wY
 (apply vR);(simp only[go_sem];try simp (disch:=omega) only[Iw]);(apply kI)
 refine aJ.join 2 (α:={u:Rq//(0<=u.id/\u.id<=1)/\(1<=u.kind/\u.kind<=4)/\(0<=u.addr/\u.addr<=63)/\(u.many=1\/u.many=2\/u.many=4)/\p<=u.p/\u.p<=p+11})
  (fun b u=>en [(5,dP 7 (b+1)),(4,dP 7 b),(1,dI n),(0,dP 2 0)]) (fun b u=>hp [(0,rdO l u.1.p),(b,⟨7,1,[rq0 0 0 0 0 false]⟩),(b+1,⟨7,1,[rq0 u.1.id u.1.kind u.1.addr u.1.many u.1.wrap]⟩)]) (fun R a=> ?_) ?_
 ·repeat' first| (first|apply vI|refine aM hl (by omega) (by omega) (by omega) rfl (fun x e B=> ?_)|refine MH hl (by omega) (by omega) rfl (fun M z ao aw bh=> ?_))<;>(simp only[go_sem];try simp (disch:=omega) only[Iw])|refine⟨by omega,?_⟩|fail
  have s:x=0\/x=1\/x=2\/x=3:=by omega
  rcases s with rfl|rfl|rfl|rfl;all_goals simp only[go_sem];try simp (disch:=omega) only[Iw]
  all_goals repeat' first| (first|apply vI|refine aM hl (by omega) (by omega) (by omega) rfl (fun x e B=> ?_))<;>(simp only[go_sem])|fail
  all_goals rename_i id ab ad kind N O _ _
  ·refine a _ _ _ ⟨⟨id,1+kind,z,1,decide (x=0),M+1+1⟩,by dsimp only;omega,by dsimp only;omega,by dsimp only;omega,by dsimp only;omega,by dsimp only;omega,by dsimp only;omega⟩ (by(refine eM [1,18,0] (by omega) (by repeat' first|exact C1|refine xqI rfl rfl ?_|refine xqP (by omega) rfl rfl ?_|fail) ⟨⟨by simp,by simp[sgL],_,rfl,eD (bU _ _)⟩,⟨by simp,by simp[sgL],_,rfl,bA (by(try unfold rq0);repeat' first|exact C1| (with_reducible first|exact C3|apply C4)| ((with_reducible apply C0);first|exact CB rfl|exact CC)|fail)⟩,⟨by simp,by simp[sgL],_,rfl,bA (by(try unfold rq0);repeat' first|exact C1| (with_reducible first|exact C3|apply C4)| ((with_reducible apply C0);first|exact CB rfl|exact CC)|fail)⟩,trivial⟩ (by simp[sgL])))
  ·refine a _ _ _ ⟨⟨id,1+kind,z,1,decide (x=0),M+1+1⟩,by dsimp only;omega,by dsimp only;omega,by dsimp only;omega,by dsimp only;omega,by dsimp only;omega,by dsimp only;omega⟩ (by(refine eM [1,18,0] (by omega) (by repeat' first|exact C1|refine xqI rfl rfl ?_|refine xqP (by omega) rfl rfl ?_|fail) ⟨⟨by simp,by simp[sgL],_,rfl,eD (bU _ _)⟩,⟨by simp,by simp[sgL],_,rfl,bA (by(try unfold rq0);repeat' first|exact C1| (with_reducible first|exact C3|apply C4)| ((with_reducible apply C0);first|exact CB rfl|exact CC)|fail)⟩,⟨by simp,by simp[sgL],_,rfl,bA (by(try unfold rq0);repeat' first|exact C1| (with_reducible first|exact C3|apply C4)| ((with_reducible apply C0);first|exact CB rfl|exact CC)|fail)⟩,trivial⟩ (by simp[sgL])))
  ·refine a _ _ _ ⟨⟨id,1+kind,z,2,decide (x=0),M+1+1⟩,by dsimp only;omega,by dsimp only;omega,by dsimp only;omega,by dsimp only;omega,by dsimp only;omega,by dsimp only;omega⟩ (by(refine eM [1,18,0] (by omega) (by repeat' first|exact C1|refine xqI rfl rfl ?_|refine xqP (by omega) rfl rfl ?_|fail) ⟨⟨by simp,by simp[sgL],_,rfl,eD (bU _ _)⟩,⟨by simp,by simp[sgL],_,rfl,bA (by(try unfold rq0);repeat' first|exact C1| (with_reducible first|exact C3|apply C4)| ((with_reducible apply C0);first|exact CB rfl|exact CC)|fail)⟩,⟨by simp,by simp[sgL],_,rfl,bA (by(try unfold rq0);repeat' first|exact C1| (with_reducible first|exact C3|apply C4)| ((with_reducible apply C0);first|exact CB rfl|exact CC)|fail)⟩,trivial⟩ (by simp[sgL])))
  ·refine a _ _ _ ⟨⟨id,1+kind,z,4,decide (x=0),M+1+1⟩,by dsimp only;omega,by dsimp only;omega,by dsimp only;omega,by dsimp only;omega,by dsimp only;omega,by dsimp only;omega⟩ (by(refine eM [1,18,0] (by omega) (by repeat' first|exact C1|refine xqI rfl rfl ?_|refine xqP (by omega) rfl rfl ?_|fail) ⟨⟨by simp,by simp[sgL],_,rfl,eD (bU _ _)⟩,⟨by simp,by simp[sgL],_,rfl,bA (by(try unfold rq0);repeat' first|exact C1| (with_reducible first|exact C3|apply C4)| ((with_reducible apply C0);first|exact CB rfl|exact CC)|fail)⟩,⟨by simp,by simp[sgL],_,rfl,bA (by(try unfold rq0);repeat' first|exact C1| (with_reducible first|exact C3|apply C4)| ((with_reducible apply C0);first|exact CB rfl|exact CC)|fail)⟩,trivial⟩ (by simp[sgL])))
 rintro⟨⟨id,kind,addr,many,wrap,q⟩,t,w,S,f4,C,E⟩
 dsimp only at t w S f4 C E
 refine aJ.join 2 (α:={u:Rq//((0<=u.id/\u.id<=1)/\(1<=u.kind/\u.kind<=4)/\(0<=u.addr/\u.addr<=63)/\(u.many=1\/u.many=2\/u.many=4)/\p<=u.p/\u.p<=p+12)/\(3<=u.kind->u.many=1)})
  (fun b u=>en [(5,dP 7 (b+1)),(4,dP 7 b),(1,dI n),(0,dP 2 0)]) (fun b u=>hp [(0,rdO l u.1.p),(b,⟨7,1,[rq0 0 0 0 0 false]⟩),(b+1,⟨7,1,[rq0 u.1.id u.1.kind u.1.addr u.1.many u.1.wrap]⟩)]) (fun R a=> ?_) ?_
 ·repeat' first| (first|apply vI|refine aM hl (by omega) (by omega) (by omega) rfl (fun x e B=> ?_))<;>(simp only[go_sem,rq0])|refine iE (fun h=> ?_) fun h=> ?_|refine⟨by omega,?_⟩|fail
  ·have s:x=0\/x=1\/x=2\/x=3:=(by omega);rcases s with rfl|rfl|rfl|rfl;all_goals simp only[go_sem];try simp (disch:=omega) only[Iw]
   all_goals repeat' first|apply vI<;>(simp only[go_sem])|fail
   ·refine a _ _ _ ⟨⟨id,kind,0,1,wrap,q+1⟩,by dsimp only;omega,by dsimp only;omega⟩ (by(refine eM [2,3,0] (by omega) (by repeat' first|exact C1|refine xqI rfl rfl ?_|refine xqP (by omega) rfl rfl ?_|fail) ⟨⟨by simp,by simp[sgL],_,rfl,eD (bU _ _)⟩,⟨by simp,by simp[sgL],_,rfl,bA (by(try unfold rq0);repeat' first|exact C1| (with_reducible first|exact C3|apply C4)| ((with_reducible apply C0);first|exact CB rfl|exact CC)|fail)⟩,⟨by simp,by simp[sgL],_,rfl,bA (by(try unfold rq0);repeat' first|exact C1| (with_reducible first|exact C3|apply C4)| ((with_reducible apply C0);first|exact CB rfl|exact CC)|fail)⟩,trivial⟩ (by simp[sgL])))
   ·refine a _ _ _ ⟨⟨id,kind,1,1,wrap,q+1⟩,by dsimp only;omega,by dsimp only;omega⟩ (by(refine eM [2,3,0] (by omega) (by repeat' first|exact C1|refine xqI rfl rfl ?_|refine xqP (by omega) rfl rfl ?_|fail) ⟨⟨by simp,by simp[sgL],_,rfl,eD (bU _ _)⟩,⟨by simp,by simp[sgL],_,rfl,bA (by(try unfold rq0);repeat' first|exact C1| (with_reducible first|exact C3|apply C4)| ((with_reducible apply C0);first|exact CB rfl|exact CC)|fail)⟩,⟨by simp,by simp[sgL],_,rfl,bA (by(try unfold rq0);repeat' first|exact C1| (with_reducible first|exact C3|apply C4)| ((with_reducible apply C0);first|exact CB rfl|exact CC)|fail)⟩,trivial⟩ (by simp[sgL])))
   ·refine a _ _ _ ⟨⟨id,kind,16,1,wrap,q+1⟩,by dsimp only;omega,by dsimp only;omega⟩ (by(refine eM [2,3,0] (by omega) (by repeat' first|exact C1|refine xqI rfl rfl ?_|refine xqP (by omega) rfl rfl ?_|fail) ⟨⟨by simp,by simp[sgL],_,rfl,eD (bU _ _)⟩,⟨by simp,by simp[sgL],_,rfl,bA (by(try unfold rq0);repeat' first|exact C1| (with_reducible first|exact C3|apply C4)| ((with_reducible apply C0);first|exact CB rfl|exact CC)|fail)⟩,⟨by simp,by simp[sgL],_,rfl,bA (by(try unfold rq0);repeat' first|exact C1| (with_reducible first|exact C3|apply C4)| ((with_reducible apply C0);first|exact CB rfl|exact CC)|fail)⟩,trivial⟩ (by simp[sgL])))
   ·refine a _ _ _ ⟨⟨id,kind,32,1,wrap,q+1⟩,by dsimp only;omega,by dsimp only;omega⟩ (by(refine eM [2,3,0] (by omega) (by repeat' first|exact C1|refine xqI rfl rfl ?_|refine xqP (by omega) rfl rfl ?_|fail) ⟨⟨by simp,by simp[sgL],_,rfl,eD (bU _ _)⟩,⟨by simp,by simp[sgL],_,rfl,bA (by(try unfold rq0);repeat' first|exact C1| (with_reducible first|exact C3|apply C4)| ((with_reducible apply C0);first|exact CB rfl|exact CC)|fail)⟩,⟨by simp,by simp[sgL],_,rfl,bA (by(try unfold rq0);repeat' first|exact C1| (with_reducible first|exact C3|apply C4)| ((with_reducible apply C0);first|exact CB rfl|exact CC)|fail)⟩,trivial⟩ (by simp[sgL])))
  ·refine a _ _ _ ⟨⟨id,kind,addr,many,wrap,q⟩,by dsimp only;omega,by dsimp only;omega⟩ (by(refine eM [2,3,0] (by omega) (by repeat' first|exact C1|refine xqI rfl rfl ?_|refine xqP (by omega) rfl rfl ?_|fail) ⟨⟨by simp,by simp[sgL],_,rfl,eD (bU _ _)⟩,⟨by simp,by simp[sgL],_,rfl,bA (by(try unfold rq0);repeat' first|exact C1| (with_reducible first|exact C3|apply C4)| ((with_reducible apply C0);first|exact CB rfl|exact CC)|fail)⟩,⟨by simp,by simp[sgL],_,rfl,bA (by(try unfold rq0);repeat' first|exact C1| (with_reducible first|exact C3|apply C4)| ((with_reducible apply C0);first|exact CB rfl|exact CC)|fail)⟩,trivial⟩ (by simp[sgL])))
 rintro⟨⟨id,kind,addr,many,wrap,q⟩,⟨t,w,S,f4,C,E⟩,T⟩
 dsimp only at t w S f4 C E T
 refine aJ.join 2 (α:={u:Rq//((0<=u.id/\u.id<=1)/\(1<=u.kind/\u.kind<=4)/\p<=u.p/\u.p<=p+12)/\(3<=u.kind->u.many=1)/\pF u.addr u.many u.wrap})
  (fun b u=>en [(5,dP 7 (b+1)),(4,dP 7 b),(1,dI n),(0,dP 2 0)]) (fun b u=>hp [(0,rdO l u.1.p),(b,⟨7,1,[rq0 0 0 0 0 false]⟩),(b+1,⟨7,1,[rq0 u.1.id u.1.kind u.1.addr u.1.many u.1.wrap]⟩)]) (fun R a=> ?_) ?_
 ·repeat' first| (first|apply vI| (refine Y7 (fun h=> ?_) (fun h=> ?_)<;>try subst h))<;>(simp only[go_sem,rq0];try simp (disch:=omega) only[Iw])|refine iE (fun h=> ?_) fun h=> ?_|fail
  ·refine a _ _ _ ⟨⟨id,kind,63-many+1,many,wrap,q⟩,by dsimp only;omega,by dsimp only;omega,by dsimp only;exact⟨by omega,by omega,.inr (by omega)⟩⟩ (by(refine eM [4,5,0] (by omega) (by repeat' first|exact C1|refine xqI rfl rfl ?_|refine xqP (by omega) rfl rfl ?_|fail) ⟨⟨by simp,by simp[sgL],_,rfl,eD (bU _ _)⟩,⟨by simp,by simp[sgL],_,rfl,bA (by(try unfold rq0);repeat' first|exact C1| (with_reducible first|exact C3|apply C4)| ((with_reducible apply C0);first|exact CB rfl|exact CC)|fail)⟩,⟨by simp,by simp[sgL],_,rfl,bA (by(try unfold rq0);repeat' first|exact C1| (with_reducible first|exact C3|apply C4)| ((with_reducible apply C0);first|exact CB rfl|exact CC)|fail)⟩,trivial⟩ (by simp[sgL])))
  ·refine a _ _ _ ⟨⟨id,kind,addr,many,wrap,q⟩,by dsimp only;omega,by dsimp only;omega,by dsimp only;exact⟨by omega,by omega,.inr (by omega)⟩⟩ (by(refine eM [4,5,0] (by omega) (by repeat' first|exact C1|refine xqI rfl rfl ?_|refine xqP (by omega) rfl rfl ?_|fail) ⟨⟨by simp,by simp[sgL],_,rfl,eD (bU _ _)⟩,⟨by simp,by simp[sgL],_,rfl,bA (by(try unfold rq0);repeat' first|exact C1| (with_reducible first|exact C3|apply C4)| ((with_reducible apply C0);first|exact CB rfl|exact CC)|fail)⟩,⟨by simp,by simp[sgL],_,rfl,bA (by(try unfold rq0);repeat' first|exact C1| (with_reducible first|exact C3|apply C4)| ((with_reducible apply C0);first|exact CB rfl|exact CC)|fail)⟩,trivial⟩ (by simp[sgL])))
  ·refine a _ _ _ ⟨⟨id,kind,addr,many,wrap,q⟩,by dsimp only;omega,by dsimp only;omega,by dsimp only;exact⟨by omega,by omega,.inl (by simp_all)⟩⟩ (by(refine eM [4,5,0] (by omega) (by repeat' first|exact C1|refine xqI rfl rfl ?_|refine xqP (by omega) rfl rfl ?_|fail) ⟨⟨by simp,by simp[sgL],_,rfl,eD (bU _ _)⟩,⟨by simp,by simp[sgL],_,rfl,bA (by(try unfold rq0);repeat' first|exact C1| (with_reducible first|exact C3|apply C4)| ((with_reducible apply C0);first|exact CB rfl|exact CC)|fail)⟩,⟨by simp,by simp[sgL],_,rfl,bA (by(try unfold rq0);repeat' first|exact C1| (with_reducible first|exact C3|apply C4)| ((with_reducible apply C0);first|exact CB rfl|exact CC)|fail)⟩,trivial⟩ (by simp[sgL])))
 rintro⟨⟨id,kind,addr,many,wrap,q⟩,⟨t,w,C,E⟩,T,P⟩
 dsimp only at t w C E T P
 have f4:=P.1
 refine aJ.mM 1 (aJ.mM 1 ?_)
 refine aJ.join 4 (α:={u:Req×Nat×Nat×Nat//(cR u.1/\u.1.data.length<=4/\u.1.lanes.length<=4/\u.1.data.length<=u.2.2.1/\u.1.lanes.length<=u.2.2.2)/\p<=u.2.1/\u.2.1<=p+40})
  (fun b u=>en [(5,dP 7 (b+1)),(4,dP 7 b),(1,dI n),(0,dP 2 0)]) (fun b u=>hp [(0,rdO l u.1.2.1),(b,⟨7,1,[rq0 0 0 0 0 false]⟩),(b+1,⟨7,1,[rqB (b+2) (b+3) u.1.2.2.1 u.1.2.2.2 u.1.1]⟩),(b+2,⟨1,u.1.2.2.1,u.1.1.data.map aH⟩),(b+3,⟨1,u.1.2.2.2,u.1.1.lanes.map aH⟩)]) (fun R a=> ?_) ?_
 ·repeat' first| (first|apply vI|refine Y6 (fun h=> ?_) fun h=> ?_)<;>(simp only[go_sem,rq0])|refine iE (fun h=> ?_) fun h=> ?_|fail
  rotate_left 2
  ·refine a _ _ _ ⟨(⟨id,kind,addr,many,wrap,[],[]⟩,q,0,0),⟨⟨t,w,P,?_,?_,?_,?_,by dsimp only;omega⟩,by simp,by simp,by simp,by simp⟩,by dsimp only;omega,by dsimp only;omega⟩ (by(refine eM [6,7,8,9,0] (by omega) (by repeat' first|exact C1|refine xqI rfl rfl ?_|refine xqP (by omega) rfl rfl ?_|fail) ⟨⟨by simp,by simp[sgL],_,rfl,eD (bU _ _)⟩,⟨by simp,by simp[sgL],_,rfl,bA (by(try unfold rq0);repeat' first|exact C1| (with_reducible first|exact C3|apply C4)| ((with_reducible apply C0);first|exact CB rfl|exact CC)|fail)⟩,⟨by simp,by simp[sgL],_,rfl,bA (by(try unfold rq0 rqB);repeat' first|exact C1| (with_reducible first|exact C3|apply C4)| ((with_reducible apply C0);first|exact CB rfl|exact CC)|apply C4|fail)⟩,⟨by simp,by simp[sgL],_,rfl,cD (aN aV _) rfl rfl⟩,⟨by simp,by simp[sgL],_,rfl,cD (aN aV _) rfl rfl⟩,trivial⟩ (by simp[sgL])));·simp only[nG];rw[if_neg (by omega)];rfl
   ·simp only[nG];rw[if_neg (by omega)];rfl
   ·intro x s;simp at s
   ·intro x s;simp at s
  all_goals
   have f:kind=2\/kind=4:=by omega
   refine aJ.B2 4 (β:=(Nat×Nat)×(List Int×Nat)×(List Int×Nat))
    (fun b u=>en [(6,dI u.1.1),(5,dP 7 (b+1)),(4,dP 7 b),(1,dI n),(0,dP 2 0)])
    (fun b u=>hp [(0,rdO l u.1.2),(b,⟨7,1,[rq0 0 0 0 0 false]⟩),(b+1,⟨7,1,[[cI id,cI kind,cI addr,cI many,cB wrap,.osl 1 (b+2) 0 u.1.1 u.2.1.2,.osl 1 (b+3) 0 u.1.1 u.2.2.2]]⟩),(b+2,⟨1,u.2.1.2,u.2.1.1.map aH⟩),(b+3,⟨1,u.2.2.2,u.2.2.1.map aH⟩)])
    (fun u=>((u.1.1:Int)<=many/\u.1.2<=q+4*u.1.1/\q<=u.1.2)/\(u.2.1.1.length=u.1.1/\All u.2.1.1 0 65535/\u.1.1<=u.2.1.2)/\(u.2.2.1.length=u.1.1/\All u.2.2.1 0 3/\u.1.1<=u.2.2.2))
    (fun u=>many.toNat-u.1.1) ((0,q),([],0),([],0)) ?_ ⟨⟨by dsimp only;omega,by dsimp only;omega,by dsimp only;omega⟩,⟨rfl,by simp[All],by simp⟩,⟨rfl,by simp[All],by simp⟩⟩ ?_
   · (refine eM [6,7,8,9,0] (by omega) (by repeat' first|exact C1|refine xqI rfl rfl ?_|refine xqP (by omega) rfl rfl ?_|fail) ⟨⟨by simp,by simp[sgL],_,rfl,eD (bU _ _)⟩,⟨by simp,by simp[sgL],_,rfl,bA (by unfold rq0;repeat' first|exact C1| (with_reducible first|exact C3|apply C4)| ((with_reducible apply C0);first|exact CB rfl|exact CC)|fail)⟩,⟨by simp,by simp[sgL],_,rfl,bA (by(try unfold rq0);repeat' first|exact C1| (with_reducible first|exact C3|apply C4)| ((with_reducible apply C0);first|exact CB rfl|exact CC)|fail)⟩,⟨by simp,by simp[sgL],_,rfl,cD (aN aV _) rfl rfl⟩,⟨by simp,by simp[sgL],_,rfl,cD (aN aV _) rfl rfl⟩,trivial⟩ (by simp[sgL]))
   ·rintro⟨⟨k,q'⟩,⟨j,ca⟩,⟨m,cl⟩⟩ ⟨⟨U,V,W⟩,⟨X,F,Y⟩,⟨g7,Z,g9⟩⟩ KL ah;dsimp only at U V W X F Y g7 Z g9;have y:j.take k=j:=abM (by omega);have c:m.take k=m:=abM (by omega);by_cases bk:k<many.toNat
    ·repeat' first| (first|apply vI|refine aM hl (by omega) (by omega) (by omega) rfl (fun x e B=> ?_))<;>(simp only[go_sem,rq0];try simp (disch:=omega) only[Iw])|apply vT (by omega)|refine⟨by omega,?_⟩|fail
     rename_i z bp br xb bw cc;obtain⟨v,g,G⟩:=Qa (lo:=0) (hi:=65535) (L:=[[.v (.int .i64 (z*257))],[.v (.int .i64 xb)],[.v (.int .i64 65535)],[.v (.int .i64 0)]]) (by intro r hr;simp only[abQ,acG,or_false] at hr;rcases hr with rfl|rfl|rfl|rfl<;>exact⟨_,rfl,by omega,by omega⟩) e (by simp;omega);simp only[go_sem,g,y];repeat' first| (first|apply vI|refine aM hl (by omega) (by omega) (by omega) rfl (fun x e B=> ?_))<;>(simp only[go_sem,y,c])| (with_reducible first|refine fun(cap:Nat) (o:_<=cap)=> ?_|refine fun(H:_<=cap)=> ?_)|refine⟨by omega,?_⟩|fail
     obtain⟨u,hu,I⟩:=Qa (lo:=0) (hi:=3) (L:=[[.v (.int .i64 3)],[.v (.int .i64 3)],[.v (.int .i64 1)],[.v (.int .i64 2)],[.v (.int .i64 0)]]) (by intro r hr;simp only[abQ,acG,or_false] at hr;rcases hr with rfl|rfl|rfl|rfl|rfl<;>exact⟨_,rfl,by omega,by omega⟩) e (by simp;omega);simp only[go_sem,hu,c];repeat' first|apply vI<;>(simp only[go_sem,y,c];try simp (disch:=omega) only[Iw])| (with_reducible first|refine fun(cap:Nat) (o:_<=cap)=> ?_|refine fun(H:_<=cap)=> ?_)|refine⟨by omega,?_⟩|fail
     exact ah _ _ _ ((k+1,_),(j++[_],_),(m++[_],_)) (by omega) (by(refine eM [19,20,40,51,0] (by omega) (by repeat' first|exact C1|refine xqI rfl rfl ?_|refine xqP (by omega) rfl rfl ?_|fail) ⟨⟨by simp,by simp[sgL],_,rfl,eD (bU _ _)⟩,⟨by simp,by simp[sgL],_,rfl,bA (by unfold rq0;repeat' first|exact C1| (with_reducible first|exact C3|apply C4)| ((with_reducible apply C0);first|exact CB rfl|exact CC)|fail)⟩,⟨by simp,by simp[sgL],_,rfl,bA (by repeat' first|exact C1| (with_reducible first|exact C3|apply C4)| ((with_reducible apply C0);first|exact CB rfl|exact CQ (by omega) rfl rfl (by rfl) rfl)|fail)⟩,⟨by simp,by simp[sgL],_,rfl,cD (aN aV _) rfl rfl⟩,⟨by simp,by simp[sgL],_,rfl,cD (aN aV _) rfl rfl⟩,trivial⟩ (by simp[sgL])))
      ⟨⟨by dsimp only;omega,by dsimp only;omega,by dsimp only;omega⟩,⟨by simp;omega,eg F G.1 G.2,by dsimp only;omega⟩,⟨by simp;omega,eg Z I.1 I.2,by dsimp only;omega⟩⟩ (by dsimp only;omega)
    ·repeat' first|apply vI<;>(simp only[go_sem,rq0])|apply vF (by omega)|fail
     refine a _ _ _ ⟨(⟨id,kind,addr,many,wrap,j,m⟩,q',ca,cl),⟨⟨t,w,P,?_,?_,F,Z,by dsimp only;omega⟩,by dsimp only;omega,by dsimp only;omega,by dsimp only;omega,by dsimp only;omega⟩,by dsimp only;omega,by dsimp only;omega⟩ (by(refine eM [19,20,21,22,0] (by omega) (by repeat' first|exact C1|refine xqI rfl rfl ?_|refine xqP (by omega) rfl rfl ?_|fail) ⟨⟨by simp,by simp[sgL],_,rfl,eD (bU _ _)⟩,⟨by simp,by simp[sgL],_,rfl,bA (by(try unfold rq0);repeat' first|exact C1| (with_reducible first|exact C3|apply C4)| ((with_reducible apply C0);first|exact CB rfl|exact CC)|fail)⟩,⟨by simp,by simp[sgL],_,rfl,bA (by(try unfold rq0 rqB);repeat' first|exact C1| (with_reducible first|exact C3|apply C4)| ((with_reducible apply C0);first|exact CB rfl|exact CQ (by omega) rfl rfl (by first|rfl|omega) rfl)|apply C4|fail)⟩,⟨by simp,by simp[sgL],_,rfl,cD (aN aV _) rfl rfl⟩,⟨by simp,by simp[sgL],_,rfl,cD (aN aV _) rfl rfl⟩,trivial⟩ (by simp[sgL])));·simp only[nG];rw[if_pos f];omega
     ·simp only[nG];rw[if_pos f];omega
 rintro⟨⟨⟨id,kind,addr,many,wrap,j,m⟩,q',ca,cl⟩,⟨J,U,V,W,X⟩,F,Y⟩
 dsimp only at J U V W X F Y
 have d:j.take j.length=j:=acI
 have c:m.take m.length=m:=acI
 by_cases i:n=99999
 ·subst i;repeat' first| (first|apply vI|refine pM (by omega) rfl ?_)<;>(simp only[go_sem,rqB,rq0,d,c])|fail
  exact ZH A rfl rfl rfl rfl (by omega) ⟨rfl,rfl⟩ (by omega) (fun _=>⟨J,by omega⟩)
 repeat' first| (first|apply vI|refine eX (n:=n) (by omega) hl (by omega) (by omega) rfl (fun p1 bb cd cf _=> ?_)|refine aM hl (by omega) (by omega) (by omega) rfl (fun x e B=> ?_))<;>(simp only[go_sem,rqB,rq0,d,c])|refine iE (fun h=> ?_) fun h=> ?_| (with_reducible first|refine fun(cap:Nat) (o:_<=cap)=> ?_|refine fun(H:_<=cap)=> ?_)| ((refine y5 (fun h=> ?_) (fun h=> ?_))<;>try subst h)|refine⟨by omega,?_⟩|fail
 all_goals first
  | (obtain⟨v,g⟩:=pY (L:=[[.v (.int .i64 (-1))],[.v (.int .i64 2)]]) (by simp) e (by simp;omega);simp only[g];simp only[go_sem,d,c])
  | (obtain⟨v,g⟩:=pY (L:=[[.v (.int .i64 0)],[.v (.int .i64 5)]]) (by simp) e (by simp;omega);simp only[g];simp only[go_sem,d,c])
  | (obtain⟨v,g⟩:=pY (L:=[[.v (.int .i64 (-1))],[.v (.int .i64 64)],[.v (.int .i64 63)]]) (by simp) e (by simp;omega);simp only[g];simp only[go_sem,d,c])
  | (obtain⟨v,g⟩:=pY (L:=[[.v (.int .i64 0)],[.v (.int .i64 3)],[.v (.int .i64 8)],[.v (.int .i64 4)]]) (by simp) e (by simp;omega);simp only[g];simp only[go_sem,d,c])
  | (obtain⟨v,g⟩:=pY (L:=[[.v (.int .i64 (-1))],[.v (.int .i64 65536)]]) (by simp) e (by simp;omega);simp only[g];simp only[go_sem,d,c])
  |skip
 all_goals try repeat' first|apply vI<;>(simp only[go_sem,rqB,rq0,d,c])|refine⟨by omega,?_⟩|fail
 all_goals first
  |exact ZH A rfl rfl rfl rfl (by omega) ⟨rfl,rfl⟩ (by omega) (fun h=>absurd h i)
  |exact ZH A (D:=j++[5]) rfl rfl rfl rfl (by omega) ⟨by simp,rfl⟩ (by omega) (fun h=>absurd h i)
  |exact ZH A (L:=m++[1]) rfl rfl rfl rfl (by omega) ⟨rfl,by simp⟩ (by omega) (fun h=>absurd h i)
  |exact ZH A (D:=j.set 0 _) rfl rfl rfl rfl (by omega) ⟨by simp,rfl⟩ (by omega) (fun h=>absurd h i)
theorem LQ{p i:Nat}{n:Int}(c:n=99999\/0<n/\n<9000)(hl:fW l)(b:p+45<2^50)(hi:i<nx)(e:H i=some (rdO l p))(h: ∀(a:Nat) (q:Req),p<=a->a<=p+45->((n=99999->cR q/\a<=p+40)/\q.data.length<=8/\q.lanes.length<=8)->K (dA (dM q)) (H.set i (rdO l a)) nx):
 afB lS [dP 2 i,dI n] H nx K:=
 (dm l p n c hl b).LD i rfl (eF ⟨AO (by omega) rfl,aF rfl,trivial⟩) hi e (bU l p) fun r o' ⟨a,q,f,g,j,k,m⟩=>by subst f;subst k;exact BG (A:=fun d=>K d (H.set i (rdO l a)) nx) rfl (h a q g j m)
theorem lg{p i:Nat}(hl:fW l)(a:p+45<2^50)(hi:i<nx)(d:H i=some (rdO l p))(h: ∀(b:Nat) (q:Req),p<=b->b<=p+40->cR q->K (dA (dM q)) (H.set i (rdO l b)) nx):
 afB lS [dP 2 i,dI 99999] H nx K:=
 LQ (n:=99999) (.inl rfl) hl a hi d fun b q e _ c=>h b q e (c.1 rfl).2 (c.1 rfl).1
theorem db{p i:Nat}(hl:fW l)(a:p+45<2^50)(hi:i<nx)(c:H i=some (rdO l p))(h: ∀(b:Nat) (q:Req),p<=b->b<=p+45->(q.data.length<=8/\q.lanes.length<=8)->K (dA (dM q)) (H.set i (rdO l b)) nx):
 afB lS [dP 2 i,dI 1] H nx K:=
 LQ (n:=1) (.inr (by omega)) hl a hi c fun b q d e f=>h b q d e f.2
theorem JS{l:List Rng}(hl:l.length<2^40)(h:K (dB (decide (oC l))) H nx):afB DD [dS (l.map cX)] H nx K:=by
 refine aC.pure (args0:=[dS (l.map cX)]) (R:=fun A=>A=dB (decide (oC l))) ?_ rfl (aK ⟨aF rfl,trivial⟩) (fun r hr=>hr▸h);clear h;refine aR.mk Tryz.func164 (by kernel_rfl) jr rfl fun Q g=> ?_;unfold AP;by_cases m:(l.length:Int)<=4
 ·repeat' first|apply vI<;>(simp only[go_sem])|apply vF (by omega)|fail
  refine aJ.cG (β:=Nat) (fun k=>en [(3,dI k),(0,dS (l.map cX))]) (fun k _ _=>k<=l.length/\ ∀i,i<k->ZK l i) (fun k=>l.length-k) 0 ⟨noF,_,by repeat' first|exact C1|refine xqI rfl rfl ?_|fail,aE,by omega,fun i hi=>by omega⟩ ?_;rintro k H1 n w ⟨F,hinv⟩ G p;by_cases o:k<l.length
  ·obtain⟨r,hr⟩: ∃r,r=l.getD k default:=⟨_,rfl⟩
   have e:l.getD k default=r:=hr.symm;have a: ¬D7 r->¬oC l:=fun h hm=>h (by rw[hr];exact(hm.2 k o).1);repeat' first| (first|apply vI|refine Y6 (fun h=> ?_) fun h=> ?_|apply bB)<;>(simp only[go_sem,e,nL])|apply vT (by omega)|refine iE (fun h=> ?_) fun h=> ?_|refine⟨by omega,?_⟩|fail
   ·exact aP g (dB false) rfl rfl (fX (a fun hm=>by unfold D7 at hm;omega))
   ·exact aP g (dB false) rfl rfl (fX (a fun hm=>by unfold D7 at hm;omega))
   ·exact aP g (dB false) rfl rfl (fX (a fun hm=>by unfold D7 at hm;omega))
   have q:D7 r:=(by unfold D7;omega);refine aJ.cG (β:=Nat) (fun j=>en [(5,dI j),(4,.one (.c (.ptr 4 (n+8) 0 0))),(3,dI k),(0,dS (l.map cX))]) (fun j H2 _=>(j<=k/\ ∀i,i<j->pt (l.getD i default) r=false)/\H2 (n+8)=some ⟨4,1,[cX r]⟩) (fun j=>k-j) 0 ⟨noF,_,by repeat' first|exact C1|refine xqI rfl rfl ?_|refine xqP (by omega) rfl rfl ?_|fail,aE,⟨by omega,fun i hi=>by omega⟩,by simp only[aA.set,if_true]⟩ ?_;rintro j H2 B y ⟨⟨I,b⟩,z⟩ J s;by_cases C:j<k
   ·obtain⟨t,u⟩: ∃t,t=l.getD j default:=⟨_,rfl⟩
    have d:l.getD j default=t:=u.symm;repeat' first| (first|apply vI|refine Y6 (fun h=> ?_) fun h=> ?_)<;>(simp only[go_sem,d,z];try simp (disch:=omega) only[Iw])|apply vT (by omega)|refine iE (fun h=> ?_) fun h=> ?_|refine⟨by omega,?_⟩|fail
    ·refine aP g (dB false) rfl rfl (fX fun hm=> ?_);have D:=(hm.2 k o).2;refine D (cU.2 ⟨l.getD j default,ab6.2 ⟨j,by simp;omega,by simp[List.getD,show j<l.length by omega]⟩,decide_eq_true ?_⟩);rw[d,e];omega
    all_goals exact s _ _ _ (j+1) noF _ (by omega) (by omega) (by repeat' first|exact C1|refine xqI rfl rfl ?_|refine xqP (by omega) rfl rfl ?_|fail) aE ⟨⟨by omega,bL b (by rw[d];exact decide_eq_false (by omega))⟩,z⟩
   ·repeat' first|apply vI<;>(simp only[go_sem];try simp (disch:=omega) only[Iw])|apply vF (by omega)|fail
    refine p _ _ _ (k+1) noF _ (by omega) (by omega) (by repeat' first|exact C1|refine xqI rfl rfl ?_|fail) aE ⟨by omega,bL hinv ⟨by rw[e];exact q,fun hc=> ?_⟩⟩;obtain⟨x,E,f⟩:=cU.1 hc;obtain⟨i,hi,rfl⟩:=ab6.1 E;have hi':i<k:=(by simp at hi;omega);have:=b i (by omega);simp only[List.getD,show i<l.length by omega,abO,Option.getD_some] at this;rw[e] at f;simp only[adX] at f;rw[this] at f;cases f
  ·repeat' first|apply vI<;>(simp only[go_sem])|apply vF (by omega)|fail
   have v:k=l.length:=(by omega);subst v;exact aP g (dB true) rfl rfl (l8 ⟨m,hinv⟩)
 ·repeat' first|apply vI<;>(simp only[go_sem])|apply vT (by omega)|fail
  exact aP g (dB false) rfl rfl (fX fun h=>m h.1)
theorem pS{lo:Int}{up:Int}(hl:l.length<2^40)(h:K (dB (decide (All l lo up))) H nx):afB nE [dS (l.map aH),dI lo,dI up] H nx K:=by
 refine aC.pure (args0:=[dS (l.map aH),dI lo,dI up]) (R:=fun d=>d=dB (decide (All l lo up))) ?_ rfl (aK ⟨aF rfl,aF rfl,aF rfl,trivial⟩) (fun r hr=>hr▸h);clear h;refine aR.mk Tryz.func114 (by kernel_rfl) lp rfl fun Q c=> ?_;unfold AT;repeat' first|apply vI<;>(simp only[go_sem])|fail
 (refine aJ.loop (α:={k:Nat//k<=l.length/\(∀i,i<k->lo<=l.getD i default/\l.getD i default<=up)}) (fun u=>en [(7,dI u.1),(2,dI up),(1,dI lo),(0,dS (l.map aH))]) (fun _=>.nil) _ (fun u=>l.length-u.1) ⟨0,by omega,(by intros;first|trivial|omega)⟩ (bF (abG _) (by repeat' first|exact C1|refine xqI rfl rfl ?_|fail)) ?_);(rintro⟨k,f,hinv⟩ g a);by_cases b:k<l.length
 ·repeat' first| (first|apply vI|apply bB)<;>(simp only[go_sem];try simp (disch:=omega) only[Iw])|apply vT (by omega)|refine iE (fun h=> ?_) fun h=> ?_|refine⟨by omega,?_⟩|fail
  ·exact aP c (dB false) rfl rfl (fX fun e=>by have:=fu e b;omega)
  · (refine a _ _ _ ⟨k+1,by omega,bL hinv (by omega)⟩ (by omega) (by(try dsimp only);omega) (bF (abG _) (by repeat' first|exact C1|refine xqI rfl rfl ?_|fail)))
 ·repeat' first|apply vI<;>(simp only[go_sem])|apply vF (by omega)|fail
  exact aP c (dB true) rfl rfl (l8 (VO fun i hi=>hinv i (by omega)))
theorem S8{q:Req}(b:q.data.length<2^40)(hl:q.lanes.length<2^40)(h:K (dB (decide (cR q))) H nx):afB CL [dA (dM q)] H nx K:=by
 refine aC.pure (args0:=[dA (dM q)]) (R:=fun c=>c=dB (decide (cR q))) ?_ rfl (aK ⟨aF rfl,trivial⟩) (fun r hr=>hr▸h);clear h;refine aR.mk Tryz.func247 (by kernel_rfl) ld rfl fun Q a=> ?_;unfold AJ;repeat' first| (first|apply vI|refine Y6 (fun h=> ?_) fun h=> ?_|apply bB|apply J6|apply SS|apply pS (l:=q.data) b|apply pS (l:=q.lanes) hl)<;>(simp only[go_sem])|refine iE (fun h=> ?_) fun h=> ?_| ((refine y5 (fun h=> ?_) (fun h=> ?_))<;>try subst h)|fail
 all_goals first|with_reducible refine aP a _ rfl rfl ?_|skip
 all_goals
  have d:wrM q=true↔(q.kind=2\/q.kind=4):=by simp[wrM]
  have e:All ([]:List Int) 0 65535:=by simp[All]
  have f:All ([]:List Int) 0 3:=by simp[All]
  have g:q.data.length=0->q.data=[]:=acX.1
  have i:q.lanes.length=0->q.lanes=[]:=acX.1
  clear a
  first|exact fX (by unfold cR nG;grind)|exact l8 (by unfold cR nG;grind)|exact nU (by unfold cR nG;grind)
theorem nH{r:Rsp}(hr:r.data.length<2^40)(h:K (dB (decide (jU r))) H nx):afB pR [dA (mS r)] H nx K:=by
 refine aC.pure (args0:=[dA (mS r)]) (R:=fun a=>a=dB (decide (jU r))) ?_ rfl (aK ⟨aF rfl,trivial⟩) (fun r hr=>hr▸h);clear h;refine aR.mk Tryz.func213 (by kernel_rfl) lx rfl fun Q b=> ?_;unfold zZ;repeat' first| (first|apply vI|refine Y6 (fun h=> ?_) fun h=> ?_|apply bB|apply pS (l:=r.data) hr)<;>(simp only[go_sem])|fail
 all_goals first|with_reducible refine aP b _ rfl rfl ?_|skip
 all_goals first|exact fX (by unfold jU;grind)|exact nU (by unfold jU;grind)|exact l8 (by unfold jU;grind)
theorem kr{p:Prog}(hp:p.length<2^40)(d: ∀q∈p,q.data.length<2^40/\q.lanes.length<2^40)(h:K (dB (decide (∀q∈p,cR q))) H nx):afB GA [dS (p.map dM)] H nx K:=by
 refine aC.pure (args0:=[dS (p.map dM)]) (R:=fun e=>e=dB (decide (∀q∈p,cR q))) ?_ rfl (aK ⟨aF rfl,trivial⟩) (fun r hr=>hr▸h);clear h;refine aR.mk Tryz.func165 (by kernel_rfl) X8 rfl fun Q c=> ?_;unfold vQ;repeat' first|apply vI<;>(simp only[go_sem])|fail
 (refine aJ.loop (α:={k:Nat//k<=p.length/\(∀i,i<k->cR (p.getD i default))}) (fun u=>en [(3,dI u.1),(0,dS (p.map dM))]) (fun _=>.nil) _ (fun u=>p.length-u.1) ⟨0,by omega,(by intros;first|trivial|omega)⟩ (bF (abG _) (by repeat' first|exact C1|refine xqI rfl rfl ?_|fail)) ?_);(rintro⟨k,g,hinv⟩ j b);by_cases a:k<p.length
 ·have hm:=d _ (bT a);repeat' first| (first|apply vI|apply S8 hm.1 hm.2)<;>(simp only[go_sem];try simp (disch:=omega) only[Iw])|apply vT (by omega)|refine iE (fun h=> ?_) fun h=> ?_|refine⟨by omega,?_⟩|fail
  ·exact aP c (dB false) rfl rfl (fX fun f=>by have:=f _ (bT a);simp_all)
  · (refine b _ _ _ ⟨k+1,by omega,bL hinv (by simp_all)⟩ (by omega) (by(try dsimp only);omega) (bF (abG _) (by repeat' first|exact C1|refine xqI rfl rfl ?_|fail)))
 ·repeat' first|apply vI<;>(simp only[go_sem])|apply vF (by omega)|fail
  exact aP c (dB true) rfl rfl (l8 (iK fun i hi=>hinv i (by omega)))
theorem lE{c:Cfg}(hc:iN c)(h:K (dB (decide (bH c))) H nx):afB DE [dA (bI c)] H nx K:=by
 refine aC.pure (args0:=[dA (bI c)]) (R:=fun o=>o=dB (decide (bH c))) ?_ rfl (aK ⟨aF rfl,trivial⟩) (fun r hr=>hr▸h);clear h;refine aR.mk Tryz.func73 (by kernel_rfl) mc rfl fun Q b=> ?_;unfold zD;have a:bH c↔oC c.map/\(c.lat.length:Int)=4/\All c.lat 0 3/\(c.cN.length:Int)=3/\ ∀p∈c.cN,(p.length:Int)<=12/\ ∀q∈p,cR q:=by unfold bH pN;simp only[cU,not_exists,not_and,decide_eq_true_eq,Classical.not_imp,Classical.not_not]
 by_cases d:oC c.map/\(c.lat.length:Int)=4/\All c.lat 0 3/\(c.cN.length:Int)=3
 ·obtain⟨m,s,n,t⟩:=d;repeat' first| (first|apply vI|apply Y5 (by omega)|apply JS hc.map|apply pS (l:=c.lat) hc.lat)<;>(simp only[go_sem,eq_true m,eq_true n])|apply vF (by omega)|fail
  (refine aJ.loop (α:={k:Nat//k<=3/\(∀i,i<k->((c.cN.getD i default).length:Int)<=12/\ ∀q∈c.cN.getD i default,cR q)}) (fun u=>en [(3,dI u.1),(1,.one (.c (.fF (bI c))))]) (fun _=>.nil) _ (fun u=>3-u.1) ⟨0,by omega,(by intros;first|trivial|omega)⟩ (bF (abG _) (by repeat' first|exact C1|refine xqI rfl rfl ?_| (with_reducible apply C2)| ((with_reducible apply D0);exact CI rfl (by simp) rfl rfl rfl)|fail)) ?_);(rintro⟨k,w,hinv⟩ x e);by_cases v:k<3
  ·have hm:c.cN.getD k default∈c.cN:=bT (by omega);have f:=hc.prog _ hm;have g:=hc.req _ hm;repeat' first| (first|apply vI|refine Y6 (fun h=> ?_) fun h=> ?_|apply kr f g)<;>(simp only[go_sem];try simp (disch:=omega) only[Iw])|apply vT (by omega)|refine iE (fun h=> ?_) fun h=> ?_|refine⟨by omega,?_⟩|fail
   ·exact aP b (dB false) rfl rfl (fX fun hB=>by have:=((a.1 hB).2.2.2.2 _ hm).1;omega)
   ·exact aP b (dB false) rfl rfl (fX fun hB=>by have:=((a.1 hB).2.2.2.2 _ hm).2;simp_all)
   · (refine e _ _ _ ⟨k+1,by omega,bL hinv ⟨by omega,by simp_all⟩⟩ (by omega) (by(try dsimp only);omega) (bF (abG _) (by repeat' first|exact C1|refine xqI rfl rfl ?_|fail)))
  ·repeat' first|apply vI<;>(simp only[go_sem])|apply vF (by omega)|fail
   exact aP b (dB true) rfl rfl (l8 (a.2 ⟨m,s,n,t,iK fun i hi=>hinv i (by omega)⟩))
 ·have j: ¬bH c:=fun hB=>d ⟨(a.1 hB).1,(a.1 hB).2.1,(a.1 hB).2.2.1,(a.1 hB).2.2.2.1⟩;repeat' first| (first|apply vI|refine Y6 (fun h=> ?_) fun h=> ?_|apply JS hc.map|apply pS (l:=c.lat) hc.lat)<;>(simp only[go_sem])|refine iE (fun h=> ?_) fun h=> ?_|fail
  all_goals first|exact aP b (dB false) rfl rfl (fX j)|exact absurd ⟨by simp_all,by omega,by simp_all,by omega⟩ d
theorem sh(hl:l.length<2^40)(h:K (dB (decide ((l.length:Int)=64/\All l 0 65535))) H nx):afB JQ [dA [.isl (l.map aH)]] H nx K:=by
 refine aC.pure (args0:=[dA [.isl (l.map aH)]]) (R:=fun f=>f=dB (decide ((l.length:Int)=64/\All l 0 65535))) ?_ rfl (aK ⟨aF rfl,trivial⟩) (fun r hr=>hr▸h);clear h;refine aR.mk Tryz.func211 (by kernel_rfl) lh rfl fun Q a=> ?_;unfold zO;repeat' first|apply vI<;>(simp only[go_sem])|refine iE (fun h=> ?_) fun h=> ?_|fail
 ·exact aP a (dB false) rfl rfl (fX fun e=>by omega)
 (refine aJ.loop (α:={k:Nat//k<=l.length/\(∀i,i<k->0<=l.getD i default/\l.getD i default<=65535)}) (fun u=>en [(3,dI u.1),(1,.one (.c (.fF [.isl (l.map aH)])))]) (fun _=>.nil) _ (fun u=>l.length-u.1) ⟨0,by omega,(by intros;first|trivial|omega)⟩ (bF (abG _) (by repeat' first|exact C1|refine xqI rfl rfl ?_| (with_reducible apply C2)| ((with_reducible apply D0);exact CI rfl (by simp) rfl rfl rfl)|fail)) ?_);(rintro⟨k,g,hinv⟩ j b);by_cases d:k<l.length
 ·repeat' first| (first|apply vI|apply bB)<;>(simp only[go_sem];try simp (disch:=omega) only[Iw])|apply vT (by omega)|refine iE (fun h=> ?_) fun h=> ?_|refine⟨by omega,?_⟩|fail
  ·exact aP a (dB false) rfl rfl (fX fun e=>by have:=fu e.2 d;omega)
  · (refine b _ _ _ ⟨k+1,by omega,bL hinv (by omega)⟩ (by omega) (by(try dsimp only);omega) (bF (abG _) (by repeat' first|exact C1|refine xqI rfl rfl ?_|fail)))
 ·repeat' first|apply vI<;>(simp only[go_sem])|apply vF (by omega)|fail
  exact aP a (dB true) rfl rfl (l8 ⟨by omega,VO fun i hi=>hinv i (by omega)⟩)
theorem qP{w:List Int}{u:List Int}(hw:w.length<2^40)(hu:u.length<2^40)(h:K (dB (decide (o7 w u))) H nx):afB DB [dA [.isl (w.map aH),.isl (u.map aH)]] H nx K:=by
 refine aC.pure (args0:=[dA [.isl (w.map aH),.isl (u.map aH)]]) (R:=fun a=>a=dB (decide (o7 w u))) ?_ rfl (aK ⟨aF rfl,trivial⟩) (fun r hr=>hr▸h);clear h;refine aR.mk Tryz.func126 (by kernel_rfl) nv rfl fun Q b=> ?_;unfold z8;repeat' first| (first|apply vI|refine Y6 (fun h=> ?_) fun h=> ?_|apply sh hw|apply pS (l:=u) hu)<;>(simp only[go_sem])|fail
 all_goals first|with_reducible refine aP b _ rfl rfl ?_|skip
 all_goals first|exact fX (by unfold o7;grind)|exact nU (by unfold o7;grind)
theorem Ei{q:Req}(h:cR q):q.data.length<2^40/\q.lanes.length<2^40:=by
 obtain⟨_,_,c,a,b,_,_,_⟩:=h;have d:=DY (addr:=q.addr) (many:=q.many) (wrap:=q.wrap);have e:=yI c;have hm:q.many<=4:=by omega
 unfold nG at a b;constructor;·split at a<;>omega
 ·split at b<;>omega
theorem mI{m:List Rng}{q:Req}(hm:oC m)(a:cR q)(hl:m.length<2^21)(h:K (dI (iV m q)) H nx):afB sM [dS (m.map cX),dA (dM q)] H nx K:=by
 refine aC.pure (args0:=[dS (m.map cX),dA (dM q)]) (R:=fun d=>d=dI (iV m q)) ?_ rfl (aK ⟨aF rfl,aF rfl,trivial⟩) (fun r hr=>hr▸h);clear h;refine aR.mk Tryz.func167 (by kernel_rfl) UJ rfl fun Q e=> ?_;unfold pV;have f:eL m (bO q.addr q.many q.wrap)<m.length:=by have g:=S1 (p:=(inR · ((bO q.addr q.many q.wrap).getD 0 default))) (l:=m);unfold eL;grind
 have c:=Ei a;have b:(bO q.addr q.many q.wrap).length<2^40:=by have:=DY (addr:=q.addr) (many:=q.many) (wrap:=q.wrap);omega
 have d1:=decide_eq_true hm;have d2:=decide_eq_true a;repeat' first| (first|apply vI|apply JS (by omega)|apply S8 c.1 c.2|apply KZ|apply M8 (by omega) b)<;>(simp only[go_sem,d1,d2,eq_true hm,eq_true a])|refine iE (fun h=> ?_) fun h=> ?_|refine⟨by omega,?_⟩|fail
 all_goals first|with_reducible refine aP e _ rfl rfl ?_|skip
 ·unfold iV;exact(congrArg dI (if_pos h)).symm
 ·unfold iV;exact(congrArg dI (if_neg h)).symm
theorem QF{c:Cfg}{s:CSt}{who:Nat}{st:Nat}(J:bH c)(hs:COk c s)(hw:who<3)(ad:st<4){d1:D}(M:CvD H (fun _=>True) id 0 (dA (bK s)) d1)(h:K (dB (decide (NM c s who st))) H nx):afB GN [dA (bI c),d1,dI who,dI st] H nx K:=by
 refine aC.pure (args0:=[dA (bI c),dA (bK s),dI who,dI st]) (R:=fun rr=>rr=dB (decide (NM c s who st))) ?_ rfl (aK ⟨aF rfl,M,aF rfl,aF rfl,trivial⟩) (fun r hr=>hr▸h);clear h;refine aR.mk Tryz.func210 (by kernel_rfl) dn rfl fun Q w=> ?_;unfold wV;obtain⟨g,N⟩:=eW J;have x:=N who;have y:oC c.map:=J.1;have ah:=J.1.1;have b:=hs.pl;have a:=hs.port who hw;obtain⟨p,hp⟩: ∃p,s.bC.getD who default=p:=⟨_,rfl⟩
 have z:aL s who=p:=hp;obtain⟨u,d⟩: ∃u,p.queue.getD 0 default=u:=⟨_,rfl⟩
 have v:NM c s who st↔(0<p.queue.length/\p.out.length<4/\iV c.map (bQ c who u)=st/\ ∀j∈p.out,(bQ c who j.n).id=(bQ c who u).id->j.left=st):=by unfold NM;rw[z,d]
 rw[z] at a;obtain⟨ao,O⟩:=a.next;obtain⟨aw,l⟩:=a.ql;have m:=a.queue 0;rw[d] at m;have bb:=a.ol;obtain⟨P,A⟩: ∃P,c.cN.getD who default=P:=⟨_,rfl⟩
 rw[A] at x O;have B: ∀n:Int,bQ c who n=P.getD n.toNat default:=fun n=>by unfold bQ;rw[Int.toNat_natCast,A]
 by_cases h0:p.queue.length=0
 ·have C:((p.queue.length:Int)=0)=True:=eq_true (by omega);repeat' first|apply vI<;>(simp only[go_sem,b,hp,C])|refine⟨by omega,?_⟩|fail
  exact aP w _ rfl rfl (fX (by rw[v];omega))
 have C:((p.queue.length:Int)=0)=False:=eq_false (by omega);by_cases h4:p.out.length=4
 ·have L:((p.out.length:Int)=4)=True:=eq_true (by omega);repeat' first|apply vI<;>(simp only[go_sem,b,hp,C,L])|refine⟨by omega,?_⟩|fail
  exact aP w _ rfl rfl (fX (by rw[v];omega))
 have L:((p.out.length:Int)=4)=False:=eq_false (by omega);have m:=m (by omega);obtain⟨q,S⟩: ∃q,P.getD u.toNat default=q:=⟨_,rfl⟩
 have E:bQ c who u=q:=by rw[B];exact S
 have F:cR q:=E▸H7 J (a.asks hw (by omega) (by omega));rw[E] at v;by_cases t:iV c.map q=st
 ·have T:(iV c.map q=(st:Int))=True:=eq_true t;repeat' first| (first|apply vI|apply mI y F (by omega))<;>(simp only[go_sem,b,g,hp,A,d,S,C,L,T])|refine⟨by omega,?_⟩|fail
  refine aJ.cG (β:=Nat) (fun k=>en [(11,dI k),(10,.one (.c (.ptr 7 31 0 0))),(9,.one (.c (.ptr 4 8 0 0))),(4,.one (.c (.ptr 3 0 0 0))),(3,dI st),(2,dI who)]) (fun k H1 _=>H1 0=some ⟨3,1,[bI c]⟩/\H1 8=some ⟨4,1,[dD p]⟩/\H1 31=some ⟨7,1,[dM q]⟩/\k<=p.out.length/\ ∀i,i<k->(bQ c who (p.out.getD i default).n).id=q.id->(p.out.getD i default).left=st) (fun k=>p.out.length-k) 0 ⟨noF,_,by repeat' first|exact C1|refine xqI rfl rfl ?_|refine xqP (by omega) rfl rfl ?_|fail,aE,rfl,rfl,rfl,by omega,fun i hi=>by omega⟩ ?_;rintro k H1 bh aa ⟨U,V,W,hk,hinv⟩ KL X;by_cases Y:k<p.out.length
  ·obtain⟨o,Z⟩: ∃o,p.out.getD k default=o:=⟨_,rfl⟩
   have G:o∈p.out:=(by rw[<-Z];exact bT Y);obtain⟨_,bk,_⟩:=a.out o G;obtain⟨q2,l⟩: ∃q2,P.getD o.n.toNat default=q2:=⟨_,rfl⟩
   have f:bQ c who o.n=q2:=(by rw[B];exact l);repeat' first| (first|apply vI|refine Y6 (fun h=> ?_) fun h=> ?_)<;>(simp only[go_sem,U,V,W,b,g,hp,A,d,Z,l];try simp (disch:=omega) only[Iw])|apply vT (by omega)|refine iE (fun h=> ?_) fun h=> ?_|refine⟨by omega,?_⟩|fail
   all_goals first
    | (refine aP w _ rfl rfl (fX ?_)
       rw[v]
       rintro⟨_,_,_,I⟩
       have:=I o G (by rw[f];omega)
       omega)
    |exact X _ _ _ (k+1) noF _ (by omega) (by omega) (by repeat' first|exact C1|refine xqI rfl rfl ?_|refine xqP (by omega) rfl rfl ?_|fail) aE ⟨U,V,W,by omega,fun i hi e=>by
     by_cases ab:i<k
     ·exact hinv i ab e
     ·have:i=k:=(by omega);subst this;rw[Z] at e ⊢;rw[f] at e;omega⟩
  ·repeat' first|apply vI<;>(simp only[go_sem,U,V,W])|apply vF (by omega)|fail
   refine aP w _ rfl rfl (l8 ?_);rw[v];refine⟨by omega,by omega,t,fun j hj e=> ?_⟩;obtain⟨i,hi,rfl⟩:=ab6.1 hj;have:=hinv i (by omega);rw[adI,abO hi,Option.getD_some] at this;exact this e
 ·have T:(iV c.map q=(st:Int))=False:=eq_false t;repeat' first| (first|apply vI|apply mI y F (by omega))<;>(simp only[go_sem,b,g,hp,A,d,S,C,L,T])|refine⟨by omega,?_⟩|fail
  exact aP w _ rfl rfl (fX (by rw[v];omega))
theorem yV{α:Type}[Inhabited α]{a b:List α}(hl:a.length=b.length)(h: ∀i,i<a.length->a.getD i default=b.getD i default):a=b:=by refine aeB hl fun i c d=> ?_;have:=h i c;simpa [List.getD,c,d] using this
theorem AB{a:List Int}{b:List Int}(g:a.length<2^40)(j:b.length<2^40)(h:K (dB (decide (a=b))) H nx):afB n6 [dS (a.map aH),dS (b.map aH)] H nx K:=by
 refine aC.pure (args0:=[dS (a.map aH),dS (b.map aH)]) (R:=fun e=>e=dB (decide (a=b))) ?_ rfl (aK ⟨aF rfl,aF rfl,trivial⟩) (fun r hr=>hr▸h);clear h;refine aR.mk Tryz.func101 (by kernel_rfl) cb rfl fun Q c=> ?_;unfold uL;by_cases hl:a.length=b.length
 ·repeat' first|apply vI<;>(simp only[go_sem])|apply vF (by omega)|fail
  (refine aJ.loop (α:={k:Nat//k<=a.length/\(∀i,i<k->a.getD i default=b.getD i default)}) (fun u=>en [(5,dI u.1),(1,dS (b.map aH)),(0,dS (a.map aH))]) (fun _=>.nil) _ (fun u=>a.length-u.1) ⟨0,by omega,(by intros;first|trivial|omega)⟩ (bF (abG _) (by repeat' first| (with_reducible first|exact C1|apply C2)| ((with_reducible apply D0);exact CA rfl)|fail)) ?_);(rintro⟨k,l,hinv⟩ m d);by_cases f:k<a.length
  ·repeat' first|apply vI<;>(simp only[go_sem];try simp (disch:=omega) only[Iw])|apply vT (by omega)|refine iE (fun h=> ?_) fun h=> ?_|refine⟨by omega,?_⟩|fail
   ·refine aP c _ rfl rfl (fX ?_);intro he;subst he;simp_all
   · (refine d _ _ _ ⟨k+1,by omega,bL hinv (by omega)⟩ (by omega) (by(try dsimp only);omega) (bF (abG _) (by repeat' first| (with_reducible first|exact C1|apply C2)| ((with_reducible apply D0);exact CA rfl)|fail)))
  ·repeat' first|apply vI<;>(simp only[go_sem])|apply vF (by omega)|refine bX rfl ?_|fail
   refine aP c _ rfl rfl (l8 (yV hl fun i hi=>hinv i (by omega)))
 ·repeat' first|apply vI<;>(simp only[go_sem])|apply vT (by omega)|fail
  refine aP c _ rfl rfl (fX fun he=>hl (by rw[he]))
theorem si{a:Rsp}{b:Rsp}(c:a.data.length<2^40)(d:b.data.length<2^40)(h:K (dB (decide (a=b))) H nx):afB CM [dA (mS a),dA (mS b)] H nx K:=by
 refine aC.pure (args0:=[dA (mS a),dA (mS b)]) (R:=fun e=>e=dB (decide (a=b))) ?_ rfl (aK ⟨aF rfl,aF rfl,trivial⟩) (fun r hr=>hr▸h);clear h;refine aR.mk Tryz.func191 (by kernel_rfl) ll rfl fun Q f=> ?_;unfold zX;repeat' first| (first|apply vI|refine Y6 (fun h=> ?_) fun h=> ?_|apply AB c d)<;>(simp only[go_sem])|fail
 all_goals first|with_reducible refine aP f _ rfl rfl ?_|skip
 all_goals (obtain⟨g,i,j⟩:=a;obtain⟨k,l,m⟩:=b;dsimp only at*;first|exact l8 (by simp_all)|exact fX (by simp_all)|exact nU (by simp_all))
theorem nw{a b:Rsp}(c:a.data.length<2^40)(d:b.data.length<2^40)(h:K (dB (decide (a=b))) H nx):afB CM [.one (.agg [cI a.id,cI a.code,.isl (a.data.map aH)]),.one (.agg [cI b.id,cI b.code,.isl (b.data.map aH)])] H nx K:=si c d h
theorem F6{a:List Job}{b:List Job}(t:a.length<2^40)(v:b.length<2^40)(e: ∀j∈a,j.rsp.data.length<2^40)(f: ∀j∈b,j.rsp.data.length<2^40)(h:K (dB (decide (a=b))) H nx):afB zF [dS (a.map aT),dS (b.map aT)] H nx K:=by
 refine aC.pure (args0:=[dS (a.map aT),dS (b.map aT)]) (R:=fun q=>q=dB (decide (a=b))) ?_ rfl (aK ⟨aF rfl,aF rfl,trivial⟩) (fun r hr=>hr▸h);clear h;refine aR.mk Tryz.func100 (by kernel_rfl) du rfl fun Q d=> ?_;unfold uN;by_cases hl:a.length=b.length
 ·repeat' first|apply vI<;>(simp only[go_sem])|apply vF (by omega)|fail
  (refine aJ.loop (α:={k:Nat//k<=a.length/\(∀i,i<k->a.getD i default=b.getD i default)}) (fun u=>en [(5,dI u.1),(1,dS (b.map aT)),(0,dS (a.map aT))]) (fun _=>.nil) _ (fun u=>a.length-u.1) ⟨0,by omega,(by intros;first|trivial|omega)⟩ (bF (abG _) (by repeat' first| (with_reducible first|exact C1|apply C2)| ((with_reducible apply D0);exact CA rfl)|fail)) ?_);(rintro⟨k,w,hinv⟩ z g);by_cases m:k<a.length
  ·have d1:=e _ (bT (l:=a) (k:=k) m);have d2:=f _ (bT (l:=b) (k:=k) (by omega));have c: ¬a.getD k default=b.getD k default->¬a=b:=fun o p=>o (by rw[p]);have heq:(a.getD k default).who=(b.getD k default).who->(a.getD k default).n=(b.getD k default).n->(a.getD k default).rsp=(b.getD k default).rsp->a.getD k default=b.getD k default:=(by generalize a.getD k default=x;generalize b.getD k default=y;obtain⟨A,x2,B⟩:=x;obtain⟨C,D,E⟩:=y;dsimp only;intro o p s;subst o;subst p;subst s;rfl);repeat' first| (first|apply vI|refine Y6 (fun h=> ?_) fun h=> ?_|apply nw (a:=(a.getD k default).rsp) (b:=(b.getD k default).rsp) d1 d2)<;>(simp only[go_sem];try simp (disch:=omega) only[Iw])|apply vT (by omega)|refine iE (fun h=> ?_) fun h=> ?_|refine⟨by omega,?_⟩|fail
   ·refine aP d _ rfl rfl (fX (c fun he=>absurd (congrArg Job.who he) (by assumption)))
   ·refine aP d _ rfl rfl (fX (c fun he=>absurd (congrArg Job.n he) (by assumption)))
   ·refine aP d _ rfl rfl (fX (c fun he=>absurd (congrArg Job.rsp he) (by assumption)))
   · (refine g _ _ _ ⟨k+1,by omega,bL hinv (heq (by omega) (by omega) (Classical.not_not.1 (by assumption)))⟩ (by omega) (by(try dsimp only);omega) (bF (abG _) (by repeat' first| (with_reducible first|exact C1|apply C2)| ((with_reducible apply D0);exact CA rfl)|fail)))
  ·repeat' first|apply vI<;>(simp only[go_sem])|apply vF (by omega)|refine bX rfl ?_|fail
   refine aP d _ rfl rfl (l8 (yV hl fun i hi=>hinv i (by omega)))
 ·repeat' first|apply vI<;>(simp only[go_sem])|apply vT (by omega)|fail
  refine aP d _ rfl rfl (fX fun he=>hl (by rw[he]))
theorem TH{a:List Int}{b:List Int}{u:List Int}{v:List Int}(c:a.length<2^40)(d:b.length<2^40)(hu:u.length<2^40)(e:v.length<2^40)(h:K (dB (decide (a=u/\b=v))) H nx):afB JP [.one (.agg [.isl (a.map aH),.isl (b.map aH)]),.one (.agg [.isl (u.map aH),.isl (v.map aH)])] H nx K:=by
 refine aC.pure (args0:=[.one (.agg [.isl (a.map aH),.isl (b.map aH)]),.one (.agg [.isl (u.map aH),.isl (v.map aH)])]) (R:=fun f=>f=dB (decide (a=u/\b=v))) ?_ rfl (aK ⟨aF rfl,aF rfl,trivial⟩) (fun r hr=>hr▸h);clear h;refine aR.mk Tryz.func99 (by kernel_rfl) nf rfl fun Q g=> ?_;unfold AA;repeat' first| (first|apply vI|refine Y6 (fun h=> ?_) fun h=> ?_|apply AB c hu|apply AB d e)<;>(simp only[go_sem])|fail
 all_goals first|with_reducible refine aP g _ rfl rfl ?_|skip
 all_goals first|exact l8 (by simp_all)|exact fX (by simp_all)|exact nU (by simp_all)
end
end Go.Proofs.YtlncecohbakleaaGreat
