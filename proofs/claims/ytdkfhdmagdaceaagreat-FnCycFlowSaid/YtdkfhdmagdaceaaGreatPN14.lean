/- Texts laid together by a program: rules, contracts and the walk that leads to the law. -/
import Derived.Test.YtdkfhdmagdaceaaGreatPN6
import Derived.Test.YtdkfhdmagdaceaaGreatPN12
import Derived.Test.YtdkfhdmagdaceaaGreatPN11
set_option linter.unusedVariables false
set_option linter.unusedSimpArgs false
set_option linter.unusedSectionVars false
set_option maxRecDepth 100000
set_option maxHeartbeats 8000000
namespace Go.AM
theorem aN1 {L:List (List D1)} (h: ∀r∈L,∃v:Int,r=[.v (.int .i64 v)]) {x:Int} (c:0≤x) (d:x<L.length): ∃v:Int,L[x.toNat]?=some [.v (.int .i64 v)]:=by
 have a:x.toNat<L.length:=by omega
 obtain⟨v,b⟩:=h _ (Z5 a);exact⟨v,by rw[n1 a,b]⟩
theorem Y1 {L:List (List D1)} {lo hi:Int} (h: ∀r∈L,∃v:Int,r=[.v (.int .i64 v)]∧lo≤v∧v≤hi) {x:Int} (d:0≤x) (e:x<L.length): ∃v:Int,L[x.toNat]?=some [.v (.int .i64 v)]∧lo≤v∧v≤hi:=by
 have a:x.toNat<L.length:=by omega
 obtain⟨v,b,c⟩:=h _ (Z5 a);exact⟨v,by rw[n1 a,b],c⟩
end Go.AM
namespace Go.Proofs.YtdkfhdmagdaceaaGreat
open Go Go.AM
attribute [local irreducible] aM wv aB vd wvH
section
variable {H : aA} {nx : Nat} {K : D → aA → Nat → Prop}
def rq0 (id kind addr many:Int) (wrap:Bool):List D1:=[cI id,cI kind,cI addr,cI many,cB wrap,.osl 0 0 0 0 0,.osl 0 0 0 0 0]
structure Rq where
 id:Int
 kind:Int
 addr:Int
 many:Int
 wrap:Bool
 p:Nat
def rqB (a b c1 c2:Nat) (q:Req):List D1:=[cI q.id,cI q.kind,cI q.addr,cI q.many,cB q.wrap,.osl 1 a 0 q.data.length c1,.osl 1 b 0 q.g6.length c2]
variable{l:List Int}
theorem aSU{n:Int}{p:Nat}{Q:AQ} (s: ∀ex c H2 b d nh d2 o F σ,ex=AEx.normal∨ex=AEx.ret→yT H2 c E5=some d→CvR 1 d H2 nh d2 o F σ→(nh=1∧ ∃o',o=hp [(0,o')]∧C7 o'∧ ∃(a:Nat) (q:Req),o'=rdO l a∧p≤a∧a≤p+45∧d2=boR (eB q)∧((n=99999→dH q∧a≤p+40)∧q.data.length≤8∧q.g6.length≤8))→Q ex c H2 b)
 {c:Env} {H2:aA} {b f g bp0 e c1 c2 m1 bp3 a:Nat} {id kind addr many:Int} {wrap:Bool} {D L:List Int} (t:yT H2 c E5=some (boR [cI id,cI kind,cI addr,cI many,cB wrap,.osl 1 f 0 bp0 c1,.osl 1 g 0 e c2])) (u:H2 0=some (rdO l a)) (v:H2 f=some ⟨1,m1,D.map aJ⟩) (w:H2 g=some ⟨1,bp3,L.map aJ⟩)
 (r:p≤a∧a≤p+45) (x:bp0=D.length∧e=L.length) (h:bp0≤c1∧e≤c2∧f≠0∧g≠0∧bp0≤8∧e≤8) (i:n=99999→dH ⟨id,kind,addr,many,wrap,D,L⟩∧a≤p+40):Q .ret c H2 b:=by
 obtain⟨h,y,z,j,k,m⟩:=h
 obtain⟨rfl,rfl⟩:=x
 exact lA s (boR (eB ⟨id,kind,addr,many,wrap,D,L⟩)) _ _ t (aH (bB rfl) (aH (bB rfl) (aH (bB rfl) (aH (bB rfl) (aH (bB rfl) (aH (bW bF v rfl h (by simpa using z)) (aH (bW bF w rfl y (by simpa using j)) eP))))))) u (aV _ _) ⟨a,_,rfl,r.1,r.2,rfl,i,k,m⟩
theorem Y0 (l:List Int) (p:Nat) (n:Int) (hn:n=99999∨0<n∧n<9000) (hl:kZ l) (S:p+45<2^50):aB Tryz.prog tS [bkP 2 0,boP n] (hp [(0,rdO l p)]) 1
 fun Y H' Z=>Z=1∧ ∃o',H'=hp [(0,o')]∧C7 o'∧ ∃(H:Nat) (q:Req),o'=rdO l H∧p≤H∧H≤p+45∧Y=boR (eB q)∧((n=99999→dH q∧H≤p+40)∧q.data.length≤8∧q.g6.length≤8):=by
 refine QN rfl fun Q z=> ?_
 unfold xW
 (apply boB);(simp only[go_sem];try simp (disch:=omega) only[Iw]);(apply bn0)
 refine aM.join 2 (α:={u:Rq//(0≤u.id∧u.id≤1)∧(1≤u.kind∧u.kind≤4)∧(0≤u.addr∧u.addr≤63)∧(u.many=1∨u.many=2∨u.many=4)∧p≤u.p∧u.p≤p+11})
  (fun b u=>en [(5,bkP 7 (b+1)),(4,bkP 7 b),(1,boP n),(0,bkP 2 0)]) (fun b u=>hp [(0,rdO l u.1.p),(b,⟨7,1,[rq0 0 0 0 0 false]⟩),(b+1,⟨7,1,[rq0 u.1.id u.1.kind u.1.addr u.1.many u.1.wrap]⟩)]) (fun bkT a=> ?_) ?_
 ·repeat' first| (first|apply bn1|refine aX hl (by omega) (by omega) (by omega) rfl (fun x e A=> ?_)|refine SE hl (by omega) (by omega) rfl (fun I y aa ab ad=> ?_))<;>(simp only[go_sem];try simp (disch:=omega) only[Iw])|refine⟨by omega,?_⟩|fail
  have s:x=0∨x=1∨x=2∨x=3:=by omega
  rcases s with rfl|rfl|rfl|rfl;all_goals simp only[go_sem];try simp (disch:=omega) only[Iw]
  all_goals repeat' first| (first|apply bn1|refine aX hl (by omega) (by omega) (by omega) rfl (fun x e A=> ?_))<;>(simp only[go_sem])|fail
  all_goals rename_i id T U kind J K _ _
  ·refine a _ _ _ ⟨⟨id,1+kind,y,1,decide (x=0),I+1+1⟩,by dsimp only;omega,by dsimp only;omega,by dsimp only;omega,by dsimp only;omega,by dsimp only;omega,by dsimp only;omega⟩ (by(refine cR [1,18,0] (by omega) (by repeat' first|exact bo2|refine xqI rfl rfl ?_|refine xqP (by omega) rfl rfl ?_|fail) ⟨⟨by simp,by simp[sgL],_,rfl,bS (aV _ _)⟩,⟨by simp,by simp[sgL],_,rfl,aP (by(try unfold rq0);repeat' first|exact bo2| (with_reducible first|exact bo4|apply bo5)| ((with_reducible apply bo0);first|exact bo9 rfl|exact bpA)|fail)⟩,⟨by simp,by simp[sgL],_,rfl,aP (by(try unfold rq0);repeat' first|exact bo2| (with_reducible first|exact bo4|apply bo5)| ((with_reducible apply bo0);first|exact bo9 rfl|exact bpA)|fail)⟩,trivial⟩ (by simp[sgL])))
  ·refine a _ _ _ ⟨⟨id,1+kind,y,1,decide (x=0),I+1+1⟩,by dsimp only;omega,by dsimp only;omega,by dsimp only;omega,by dsimp only;omega,by dsimp only;omega,by dsimp only;omega⟩ (by(refine cR [1,18,0] (by omega) (by repeat' first|exact bo2|refine xqI rfl rfl ?_|refine xqP (by omega) rfl rfl ?_|fail) ⟨⟨by simp,by simp[sgL],_,rfl,bS (aV _ _)⟩,⟨by simp,by simp[sgL],_,rfl,aP (by(try unfold rq0);repeat' first|exact bo2| (with_reducible first|exact bo4|apply bo5)| ((with_reducible apply bo0);first|exact bo9 rfl|exact bpA)|fail)⟩,⟨by simp,by simp[sgL],_,rfl,aP (by(try unfold rq0);repeat' first|exact bo2| (with_reducible first|exact bo4|apply bo5)| ((with_reducible apply bo0);first|exact bo9 rfl|exact bpA)|fail)⟩,trivial⟩ (by simp[sgL])))
  ·refine a _ _ _ ⟨⟨id,1+kind,y,2,decide (x=0),I+1+1⟩,by dsimp only;omega,by dsimp only;omega,by dsimp only;omega,by dsimp only;omega,by dsimp only;omega,by dsimp only;omega⟩ (by(refine cR [1,18,0] (by omega) (by repeat' first|exact bo2|refine xqI rfl rfl ?_|refine xqP (by omega) rfl rfl ?_|fail) ⟨⟨by simp,by simp[sgL],_,rfl,bS (aV _ _)⟩,⟨by simp,by simp[sgL],_,rfl,aP (by(try unfold rq0);repeat' first|exact bo2| (with_reducible first|exact bo4|apply bo5)| ((with_reducible apply bo0);first|exact bo9 rfl|exact bpA)|fail)⟩,⟨by simp,by simp[sgL],_,rfl,aP (by(try unfold rq0);repeat' first|exact bo2| (with_reducible first|exact bo4|apply bo5)| ((with_reducible apply bo0);first|exact bo9 rfl|exact bpA)|fail)⟩,trivial⟩ (by simp[sgL])))
  ·refine a _ _ _ ⟨⟨id,1+kind,y,4,decide (x=0),I+1+1⟩,by dsimp only;omega,by dsimp only;omega,by dsimp only;omega,by dsimp only;omega,by dsimp only;omega,by dsimp only;omega⟩ (by(refine cR [1,18,0] (by omega) (by repeat' first|exact bo2|refine xqI rfl rfl ?_|refine xqP (by omega) rfl rfl ?_|fail) ⟨⟨by simp,by simp[sgL],_,rfl,bS (aV _ _)⟩,⟨by simp,by simp[sgL],_,rfl,aP (by(try unfold rq0);repeat' first|exact bo2| (with_reducible first|exact bo4|apply bo5)| ((with_reducible apply bo0);first|exact bo9 rfl|exact bpA)|fail)⟩,⟨by simp,by simp[sgL],_,rfl,aP (by(try unfold rq0);repeat' first|exact bo2| (with_reducible first|exact bo4|apply bo5)| ((with_reducible apply bo0);first|exact bo9 rfl|exact bpA)|fail)⟩,trivial⟩ (by simp[sgL])))
 rintro⟨⟨id,kind,addr,many,wrap,q⟩,bpR,t,bpS,bpT,bpU,bpV⟩
 dsimp only at bpR t bpS bpT bpU bpV
 refine aM.join 2 (α:={u:Rq//((0≤u.id∧u.id≤1)∧(1≤u.kind∧u.kind≤4)∧(0≤u.addr∧u.addr≤63)∧(u.many=1∨u.many=2∨u.many=4)∧p≤u.p∧u.p≤p+12)∧(3≤u.kind→u.many=1)})
  (fun b u=>en [(5,bkP 7 (b+1)),(4,bkP 7 b),(1,boP n),(0,bkP 2 0)]) (fun b u=>hp [(0,rdO l u.1.p),(b,⟨7,1,[rq0 0 0 0 0 false]⟩),(b+1,⟨7,1,[rq0 u.1.id u.1.kind u.1.addr u.1.many u.1.wrap]⟩)]) (fun bkT a=> ?_) ?_
 ·repeat' first| (first|apply bn1|refine aX hl (by omega) (by omega) (by omega) rfl (fun x e A=> ?_))<;>(simp only[go_sem,rq0])|refine bnE (fun h=> ?_) fun h=> ?_|refine⟨by omega,?_⟩|fail
  ·have s:x=0∨x=1∨x=2∨x=3:=(by omega);rcases s with rfl|rfl|rfl|rfl;all_goals simp only[go_sem];try simp (disch:=omega) only[Iw]
   all_goals repeat' first|apply bn1<;>(simp only[go_sem])|fail
   ·refine a _ _ _ ⟨⟨id,kind,0,1,wrap,q+1⟩,by dsimp only;omega,by dsimp only;omega⟩ (by(refine cR [2,3,0] (by omega) (by repeat' first|exact bo2|refine xqI rfl rfl ?_|refine xqP (by omega) rfl rfl ?_|fail) ⟨⟨by simp,by simp[sgL],_,rfl,bS (aV _ _)⟩,⟨by simp,by simp[sgL],_,rfl,aP (by(try unfold rq0);repeat' first|exact bo2| (with_reducible first|exact bo4|apply bo5)| ((with_reducible apply bo0);first|exact bo9 rfl|exact bpA)|fail)⟩,⟨by simp,by simp[sgL],_,rfl,aP (by(try unfold rq0);repeat' first|exact bo2| (with_reducible first|exact bo4|apply bo5)| ((with_reducible apply bo0);first|exact bo9 rfl|exact bpA)|fail)⟩,trivial⟩ (by simp[sgL])))
   ·refine a _ _ _ ⟨⟨id,kind,1,1,wrap,q+1⟩,by dsimp only;omega,by dsimp only;omega⟩ (by(refine cR [2,3,0] (by omega) (by repeat' first|exact bo2|refine xqI rfl rfl ?_|refine xqP (by omega) rfl rfl ?_|fail) ⟨⟨by simp,by simp[sgL],_,rfl,bS (aV _ _)⟩,⟨by simp,by simp[sgL],_,rfl,aP (by(try unfold rq0);repeat' first|exact bo2| (with_reducible first|exact bo4|apply bo5)| ((with_reducible apply bo0);first|exact bo9 rfl|exact bpA)|fail)⟩,⟨by simp,by simp[sgL],_,rfl,aP (by(try unfold rq0);repeat' first|exact bo2| (with_reducible first|exact bo4|apply bo5)| ((with_reducible apply bo0);first|exact bo9 rfl|exact bpA)|fail)⟩,trivial⟩ (by simp[sgL])))
   ·refine a _ _ _ ⟨⟨id,kind,16,1,wrap,q+1⟩,by dsimp only;omega,by dsimp only;omega⟩ (by(refine cR [2,3,0] (by omega) (by repeat' first|exact bo2|refine xqI rfl rfl ?_|refine xqP (by omega) rfl rfl ?_|fail) ⟨⟨by simp,by simp[sgL],_,rfl,bS (aV _ _)⟩,⟨by simp,by simp[sgL],_,rfl,aP (by(try unfold rq0);repeat' first|exact bo2| (with_reducible first|exact bo4|apply bo5)| ((with_reducible apply bo0);first|exact bo9 rfl|exact bpA)|fail)⟩,⟨by simp,by simp[sgL],_,rfl,aP (by(try unfold rq0);repeat' first|exact bo2| (with_reducible first|exact bo4|apply bo5)| ((with_reducible apply bo0);first|exact bo9 rfl|exact bpA)|fail)⟩,trivial⟩ (by simp[sgL])))
   ·refine a _ _ _ ⟨⟨id,kind,32,1,wrap,q+1⟩,by dsimp only;omega,by dsimp only;omega⟩ (by(refine cR [2,3,0] (by omega) (by repeat' first|exact bo2|refine xqI rfl rfl ?_|refine xqP (by omega) rfl rfl ?_|fail) ⟨⟨by simp,by simp[sgL],_,rfl,bS (aV _ _)⟩,⟨by simp,by simp[sgL],_,rfl,aP (by(try unfold rq0);repeat' first|exact bo2| (with_reducible first|exact bo4|apply bo5)| ((with_reducible apply bo0);first|exact bo9 rfl|exact bpA)|fail)⟩,⟨by simp,by simp[sgL],_,rfl,aP (by(try unfold rq0);repeat' first|exact bo2| (with_reducible first|exact bo4|apply bo5)| ((with_reducible apply bo0);first|exact bo9 rfl|exact bpA)|fail)⟩,trivial⟩ (by simp[sgL])))
  ·refine a _ _ _ ⟨⟨id,kind,addr,many,wrap,q⟩,by dsimp only;omega,by dsimp only;omega⟩ (by(refine cR [2,3,0] (by omega) (by repeat' first|exact bo2|refine xqI rfl rfl ?_|refine xqP (by omega) rfl rfl ?_|fail) ⟨⟨by simp,by simp[sgL],_,rfl,bS (aV _ _)⟩,⟨by simp,by simp[sgL],_,rfl,aP (by(try unfold rq0);repeat' first|exact bo2| (with_reducible first|exact bo4|apply bo5)| ((with_reducible apply bo0);first|exact bo9 rfl|exact bpA)|fail)⟩,⟨by simp,by simp[sgL],_,rfl,aP (by(try unfold rq0);repeat' first|exact bo2| (with_reducible first|exact bo4|apply bo5)| ((with_reducible apply bo0);first|exact bo9 rfl|exact bpA)|fail)⟩,trivial⟩ (by simp[sgL])))
 rintro⟨⟨id,kind,addr,many,wrap,q⟩,⟨bpR,t,bpS,bpT,bpU,bpV⟩,bpW⟩
 dsimp only at bpR t bpS bpT bpU bpV bpW
 refine aM.join 2 (α:={u:Rq//((0≤u.id∧u.id≤1)∧(1≤u.kind∧u.kind≤4)∧p≤u.p∧u.p≤p+12)∧(3≤u.kind→u.many=1)∧o7 u.addr u.many u.wrap})
  (fun b u=>en [(5,bkP 7 (b+1)),(4,bkP 7 b),(1,boP n),(0,bkP 2 0)]) (fun b u=>hp [(0,rdO l u.1.p),(b,⟨7,1,[rq0 0 0 0 0 false]⟩),(b+1,⟨7,1,[rq0 u.1.id u.1.kind u.1.addr u.1.many u.1.wrap]⟩)]) (fun bkT a=> ?_) ?_
 ·repeat' first| (first|apply bn1| (refine bpM (fun h=> ?_) (fun h=> ?_)<;>try subst h))<;>(simp only[go_sem,rq0];try simp (disch:=omega) only[Iw])|refine bnE (fun h=> ?_) fun h=> ?_|fail
  ·refine a _ _ _ ⟨⟨id,kind,63-many+1,many,wrap,q⟩,by dsimp only;omega,by dsimp only;omega,by dsimp only;exact⟨by omega,by omega,.inr (by omega)⟩⟩ (by(refine cR [4,5,0] (by omega) (by repeat' first|exact bo2|refine xqI rfl rfl ?_|refine xqP (by omega) rfl rfl ?_|fail) ⟨⟨by simp,by simp[sgL],_,rfl,bS (aV _ _)⟩,⟨by simp,by simp[sgL],_,rfl,aP (by(try unfold rq0);repeat' first|exact bo2| (with_reducible first|exact bo4|apply bo5)| ((with_reducible apply bo0);first|exact bo9 rfl|exact bpA)|fail)⟩,⟨by simp,by simp[sgL],_,rfl,aP (by(try unfold rq0);repeat' first|exact bo2| (with_reducible first|exact bo4|apply bo5)| ((with_reducible apply bo0);first|exact bo9 rfl|exact bpA)|fail)⟩,trivial⟩ (by simp[sgL])))
  ·refine a _ _ _ ⟨⟨id,kind,addr,many,wrap,q⟩,by dsimp only;omega,by dsimp only;omega,by dsimp only;exact⟨by omega,by omega,.inr (by omega)⟩⟩ (by(refine cR [4,5,0] (by omega) (by repeat' first|exact bo2|refine xqI rfl rfl ?_|refine xqP (by omega) rfl rfl ?_|fail) ⟨⟨by simp,by simp[sgL],_,rfl,bS (aV _ _)⟩,⟨by simp,by simp[sgL],_,rfl,aP (by(try unfold rq0);repeat' first|exact bo2| (with_reducible first|exact bo4|apply bo5)| ((with_reducible apply bo0);first|exact bo9 rfl|exact bpA)|fail)⟩,⟨by simp,by simp[sgL],_,rfl,aP (by(try unfold rq0);repeat' first|exact bo2| (with_reducible first|exact bo4|apply bo5)| ((with_reducible apply bo0);first|exact bo9 rfl|exact bpA)|fail)⟩,trivial⟩ (by simp[sgL])))
  ·refine a _ _ _ ⟨⟨id,kind,addr,many,wrap,q⟩,by dsimp only;omega,by dsimp only;omega,by dsimp only;exact⟨by omega,by omega,.inl (by simp_all)⟩⟩ (by(refine cR [4,5,0] (by omega) (by repeat' first|exact bo2|refine xqI rfl rfl ?_|refine xqP (by omega) rfl rfl ?_|fail) ⟨⟨by simp,by simp[sgL],_,rfl,bS (aV _ _)⟩,⟨by simp,by simp[sgL],_,rfl,aP (by(try unfold rq0);repeat' first|exact bo2| (with_reducible first|exact bo4|apply bo5)| ((with_reducible apply bo0);first|exact bo9 rfl|exact bpA)|fail)⟩,⟨by simp,by simp[sgL],_,rfl,aP (by(try unfold rq0);repeat' first|exact bo2| (with_reducible first|exact bo4|apply bo5)| ((with_reducible apply bo0);first|exact bo9 rfl|exact bpA)|fail)⟩,trivial⟩ (by simp[sgL])))
 rintro⟨⟨id,kind,addr,many,wrap,q⟩,⟨bpR,t,bpU,bpV⟩,bpW,bpX⟩
 dsimp only at bpR t bpU bpV bpW bpX
 have bpT:=bpX.1
 refine aM.EJ 1 (aM.EJ 1 ?_)
 refine aM.join 4 (α:={u:Req×Nat×Nat×Nat//(dH u.1∧u.1.data.length≤4∧u.1.g6.length≤4∧u.1.data.length≤u.2.2.1∧u.1.g6.length≤u.2.2.2)∧p≤u.2.1∧u.2.1≤p+40})
  (fun b u=>en [(5,bkP 7 (b+1)),(4,bkP 7 b),(1,boP n),(0,bkP 2 0)]) (fun b u=>hp [(0,rdO l u.1.2.1),(b,⟨7,1,[rq0 0 0 0 0 false]⟩),(b+1,⟨7,1,[rqB (b+2) (b+3) u.1.2.2.1 u.1.2.2.2 u.1.1]⟩),(b+2,⟨1,u.1.2.2.1,u.1.1.data.map aJ⟩),(b+3,⟨1,u.1.2.2.2,u.1.1.g6.map aJ⟩)]) (fun bkT a=> ?_) ?_
 ·repeat' first| (first|apply bn1|refine bpL (fun h=> ?_) fun h=> ?_)<;>(simp only[go_sem,rq0])|refine bnE (fun h=> ?_) fun h=> ?_|fail
  rotate_left 2
  ·refine a _ _ _ ⟨(⟨id,kind,addr,many,wrap,[],[]⟩,q,0,0),⟨⟨bpR,t,bpX,?_,?_,?_,?_,by dsimp only;omega⟩,by simp,by simp,by simp,by simp⟩,by dsimp only;omega,by dsimp only;omega⟩ (by(refine cR [6,7,8,9,0] (by omega) (by repeat' first|exact bo2|refine xqI rfl rfl ?_|refine xqP (by omega) rfl rfl ?_|fail) ⟨⟨by simp,by simp[sgL],_,rfl,bS (aV _ _)⟩,⟨by simp,by simp[sgL],_,rfl,aP (by(try unfold rq0);repeat' first|exact bo2| (with_reducible first|exact bo4|apply bo5)| ((with_reducible apply bo0);first|exact bo9 rfl|exact bpA)|fail)⟩,⟨by simp,by simp[sgL],_,rfl,aP (by(try unfold rq0 rqB);repeat' first|exact bo2| (with_reducible first|exact bo4|apply bo5)| ((with_reducible apply bo0);first|exact bo9 rfl|exact bpA)|apply bo5|fail)⟩,⟨by simp,by simp[sgL],_,rfl,bP (aG bF _) rfl rfl⟩,⟨by simp,by simp[sgL],_,rfl,bP (aG bF _) rfl rfl⟩,trivial⟩ (by simp[sgL])));·simp only[n5];rw[if_neg (by omega)];rfl
   ·simp only[n5];rw[if_neg (by omega)];rfl
   ·intro x s;simp at s
   ·intro x s;simp at s
  all_goals
   have f:kind=2∨kind=4:=by omega
   refine aM.sG 4 (β:=(Nat×Nat)×(List Int×Nat)×(List Int×Nat))
    (fun b u=>en [(6,boP u.1.1),(5,bkP 7 (b+1)),(4,bkP 7 b),(1,boP n),(0,bkP 2 0)])
    (fun b u=>hp [(0,rdO l u.1.2),(b,⟨7,1,[rq0 0 0 0 0 false]⟩),(b+1,⟨7,1,[[cI id,cI kind,cI addr,cI many,cB wrap,.osl 1 (b+2) 0 u.1.1 u.2.1.2,.osl 1 (b+3) 0 u.1.1 u.2.2.2]]⟩),(b+2,⟨1,u.2.1.2,u.2.1.1.map aJ⟩),(b+3,⟨1,u.2.2.2,u.2.2.1.map aJ⟩)])
    (fun u=>((u.1.1:Int)≤many∧u.1.2≤q+4*u.1.1∧q≤u.1.2)∧(u.2.1.1.length=u.1.1∧All u.2.1.1 0 65535∧u.1.1≤u.2.1.2)∧(u.2.2.1.length=u.1.1∧All u.2.2.1 0 3∧u.1.1≤u.2.2.2))
    (fun u=>many.toNat-u.1.1) ((0,q),([],0),([],0)) ?_ ⟨⟨by dsimp only;omega,by dsimp only;omega,by dsimp only;omega⟩,⟨rfl,by simp[All],by simp⟩,⟨rfl,by simp[All],by simp⟩⟩ ?_
   · (refine cR [6,7,8,9,0] (by omega) (by repeat' first|exact bo2|refine xqI rfl rfl ?_|refine xqP (by omega) rfl rfl ?_|fail) ⟨⟨by simp,by simp[sgL],_,rfl,bS (aV _ _)⟩,⟨by simp,by simp[sgL],_,rfl,aP (by unfold rq0;repeat' first|exact bo2| (with_reducible first|exact bo4|apply bo5)| ((with_reducible apply bo0);first|exact bo9 rfl|exact bpA)|fail)⟩,⟨by simp,by simp[sgL],_,rfl,aP (by(try unfold rq0);repeat' first|exact bo2| (with_reducible first|exact bo4|apply bo5)| ((with_reducible apply bo0);first|exact bo9 rfl|exact bpA)|fail)⟩,⟨by simp,by simp[sgL],_,rfl,bP (aG bF _) rfl rfl⟩,⟨by simp,by simp[sgL],_,rfl,bP (aG bF _) rfl rfl⟩,trivial⟩ (by simp[sgL]))
   ·rintro⟨⟨k,V⟩,⟨j,W⟩,⟨m,X⟩⟩ ⟨⟨M,N,O⟩,⟨P,B,bkU⟩,⟨bkV,bp4,bp5⟩⟩ bpQ R;dsimp only at M N O P B bkU bkV bp4 bp5;have w:j.take k=j:=boL (by omega);have c:m.take k=m:=boL (by omega);by_cases ae:k<many.toNat
    ·repeat' first| (first|apply bn1|refine aX hl (by omega) (by omega) (by omega) rfl (fun x e A=> ?_))<;>(simp only[go_sem,rq0];try simp (disch:=omega) only[Iw])|apply bn2 (by omega)|refine⟨by omega,?_⟩|fail
     rename_i y af ag xb ah ai;obtain⟨v,g,C⟩:=Y1 (lo:=0) (hi:=65535) (L:=[[.v (.int .i64 (y*257))],[.v (.int .i64 xb)],[.v (.int .i64 65535)],[.v (.int .i64 0)]]) (by intro r hr;simp only[t3,bq7,or_false] at hr;rcases hr with rfl|rfl|rfl|rfl<;>exact⟨_,rfl,by omega,by omega⟩) e (by simp;omega);simp only[go_sem,g,w];repeat' first| (first|apply bn1|refine aX hl (by omega) (by omega) (by omega) rfl (fun x e A=> ?_))<;>(simp only[go_sem,w,c])| (with_reducible first|refine fun(cap:Nat) (o:_≤cap)=> ?_|refine fun(E:_≤cap)=> ?_)|refine⟨by omega,?_⟩|fail
     obtain⟨u,hu,F⟩:=Y1 (lo:=0) (hi:=3) (L:=[[.v (.int .i64 3)],[.v (.int .i64 3)],[.v (.int .i64 1)],[.v (.int .i64 2)],[.v (.int .i64 0)]]) (by intro r hr;simp only[t3,bq7,or_false] at hr;rcases hr with rfl|rfl|rfl|rfl|rfl<;>exact⟨_,rfl,by omega,by omega⟩) e (by simp;omega);simp only[go_sem,hu,c];repeat' first|apply bn1<;>(simp only[go_sem,w,c];try simp (disch:=omega) only[Iw])| (with_reducible first|refine fun(cap:Nat) (o:_≤cap)=> ?_|refine fun(E:_≤cap)=> ?_)|refine⟨by omega,?_⟩|fail
     exact R _ _ _ ((k+1,_),(j++[_],_),(m++[_],_)) (by omega) (by(refine cR [19,20,40,51,0] (by omega) (by repeat' first|exact bo2|refine xqI rfl rfl ?_|refine xqP (by omega) rfl rfl ?_|fail) ⟨⟨by simp,by simp[sgL],_,rfl,bS (aV _ _)⟩,⟨by simp,by simp[sgL],_,rfl,aP (by unfold rq0;repeat' first|exact bo2| (with_reducible first|exact bo4|apply bo5)| ((with_reducible apply bo0);first|exact bo9 rfl|exact bpA)|fail)⟩,⟨by simp,by simp[sgL],_,rfl,aP (by repeat' first|exact bo2| (with_reducible first|exact bo4|apply bo5)| ((with_reducible apply bo0);first|exact bo9 rfl|exact bpB (by omega) rfl rfl (by rfl) rfl)|fail)⟩,⟨by simp,by simp[sgL],_,rfl,bP (aG bF _) rfl rfl⟩,⟨by simp,by simp[sgL],_,rfl,bP (aG bF _) rfl rfl⟩,trivial⟩ (by simp[sgL])))
      ⟨⟨by dsimp only;omega,by dsimp only;omega,by dsimp only;omega⟩,⟨by simp;omega,KC B C.1 C.2,by dsimp only;omega⟩,⟨by simp;omega,KC bp4 F.1 F.2,by dsimp only;omega⟩⟩ (by dsimp only;omega)
    ·repeat' first|apply bn1<;>(simp only[go_sem,rq0])|apply bn3 (by omega)|fail
     refine a _ _ _ ⟨(⟨id,kind,addr,many,wrap,j,m⟩,V,W,X),⟨⟨bpR,t,bpX,?_,?_,B,bp4,by dsimp only;omega⟩,by dsimp only;omega,by dsimp only;omega,by dsimp only;omega,by dsimp only;omega⟩,by dsimp only;omega,by dsimp only;omega⟩ (by(refine cR [19,20,21,22,0] (by omega) (by repeat' first|exact bo2|refine xqI rfl rfl ?_|refine xqP (by omega) rfl rfl ?_|fail) ⟨⟨by simp,by simp[sgL],_,rfl,bS (aV _ _)⟩,⟨by simp,by simp[sgL],_,rfl,aP (by(try unfold rq0);repeat' first|exact bo2| (with_reducible first|exact bo4|apply bo5)| ((with_reducible apply bo0);first|exact bo9 rfl|exact bpA)|fail)⟩,⟨by simp,by simp[sgL],_,rfl,aP (by(try unfold rq0 rqB);repeat' first|exact bo2| (with_reducible first|exact bo4|apply bo5)| ((with_reducible apply bo0);first|exact bo9 rfl|exact bpB (by omega) rfl rfl (by first|rfl|omega) rfl)|apply bo5|fail)⟩,⟨by simp,by simp[sgL],_,rfl,bP (aG bF _) rfl rfl⟩,⟨by simp,by simp[sgL],_,rfl,bP (aG bF _) rfl rfl⟩,trivial⟩ (by simp[sgL])));·simp only[n5];rw[if_pos f];omega
     ·simp only[n5];rw[if_pos f];omega
 rintro⟨⟨⟨id,kind,addr,many,wrap,j,m⟩,V,W,X⟩,⟨G,M,N,O,P⟩,B,bkU⟩
 dsimp only at G M N O P B bkU
 have d:j.take j.length=j:=bq4
 have c:m.take m.length=m:=bq4
 by_cases i:n=99999
 ·subst i;repeat' first| (first|apply bn1|refine uA (by omega) rfl ?_)<;>(simp only[go_sem,rqB,rq0,d,c])|fail
  exact aSU z rfl rfl rfl rfl (by omega) ⟨rfl,rfl⟩ (by omega) (fun _=>⟨G,by omega⟩)
 repeat' first| (first|apply bn1|refine d6 (n:=n) (by omega) hl (by omega) (by omega) rfl (fun p1 bb aj ak _=> ?_)|refine aX hl (by omega) (by omega) (by omega) rfl (fun x e A=> ?_))<;>(simp only[go_sem,rqB,rq0,d,c])|refine bnE (fun h=> ?_) fun h=> ?_| (with_reducible first|refine fun(cap:Nat) (o:_≤cap)=> ?_|refine fun(E:_≤cap)=> ?_)| ((refine bnF (fun h=> ?_) (fun h=> ?_))<;>try subst h)|refine⟨by omega,?_⟩|fail
 all_goals first
  | (obtain⟨v,g⟩:=aN1 (L:=[[.v (.int .i64 (-1))],[.v (.int .i64 2)]]) (by simp) e (by simp;omega);simp only[g];simp only[go_sem,d,c])
  | (obtain⟨v,g⟩:=aN1 (L:=[[.v (.int .i64 0)],[.v (.int .i64 5)]]) (by simp) e (by simp;omega);simp only[g];simp only[go_sem,d,c])
  | (obtain⟨v,g⟩:=aN1 (L:=[[.v (.int .i64 (-1))],[.v (.int .i64 64)],[.v (.int .i64 63)]]) (by simp) e (by simp;omega);simp only[g];simp only[go_sem,d,c])
  | (obtain⟨v,g⟩:=aN1 (L:=[[.v (.int .i64 0)],[.v (.int .i64 3)],[.v (.int .i64 8)],[.v (.int .i64 4)]]) (by simp) e (by simp;omega);simp only[g];simp only[go_sem,d,c])
  | (obtain⟨v,g⟩:=aN1 (L:=[[.v (.int .i64 (-1))],[.v (.int .i64 65536)]]) (by simp) e (by simp;omega);simp only[g];simp only[go_sem,d,c])
  |skip
 all_goals try repeat' first|apply bn1<;>(simp only[go_sem,rqB,rq0,d,c])|refine⟨by omega,?_⟩|fail
 all_goals first
  |exact aSU z rfl rfl rfl rfl (by omega) ⟨rfl,rfl⟩ (by omega) (fun h=>absurd h i)
  |exact aSU z (D:=j++[5]) rfl rfl rfl rfl (by omega) ⟨by simp,rfl⟩ (by omega) (fun h=>absurd h i)
  |exact aSU z (L:=m++[1]) rfl rfl rfl rfl (by omega) ⟨rfl,by simp⟩ (by omega) (fun h=>absurd h i)
  |exact aSU z (D:=j.set 0 _) rfl rfl rfl rfl (by omega) ⟨by simp,rfl⟩ (by omega) (fun h=>absurd h i)
theorem KB{p i:Nat}{n:Int} (c:n=99999∨0<n∧n<9000) (hl:kZ l) (b:p+45<2^50) (hi:i<nx) (e:H i=some (rdO l p)) (h: ∀(a:Nat) (q:Req),p≤a→a≤p+45→((n=99999→dH q∧a≤p+40)∧q.data.length≤8∧q.g6.length≤8)→K (boR (eB q)) (H.set i (rdO l a)) nx):
 aB Tryz.prog tS [bkP 2 i,boP n] H nx K:=
 (Y0 l p n c hl b).OU i rfl (gW ⟨DG (by omega) rfl,aE rfl,trivial⟩) hi e (aV l p) fun r o' ⟨a,q,f,g,j,k,m⟩=>by subst f;subst k;exact EW (A:=fun d=>K d (H.set i (rdO l a)) nx) rfl (h a q g j m)
theorem ID{p i:Nat} (hl:kZ l) (a:p+45<2^50) (hi:i<nx) (d:H i=some (rdO l p)) (h: ∀(b:Nat) (q:Req),p≤b→b≤p+40→dH q→K (boR (eB q)) (H.set i (rdO l b)) nx):
 aB Tryz.prog tS [bkP 2 i,boP 99999] H nx K:=
 KB (n:=99999) (.inl rfl) hl a hi d fun b q e _ c=>h b q e (c.1 rfl).2 (c.1 rfl).1
theorem aRK{p i:Nat} (hl:kZ l) (a:p+45<2^50) (hi:i<nx) (c:H i=some (rdO l p)) (h: ∀(b:Nat) (q:Req),p≤b→b≤p+45→(q.data.length≤8∧q.g6.length≤8)→K (boR (eB q)) (H.set i (rdO l b)) nx):
 aB Tryz.prog tS [bkP 2 i,boP 1] H nx K:=
 KB (n:=1) (.inr (by omega)) hl a hi c fun b q d e f=>h b q d e f.2
end
end Go.Proofs.YtdkfhdmagdaceaaGreat
namespace Go.AM
def a5F (l:List Job):Prop:=l.Pairwise fun a b=>uL b a=false
theorem beB {a b:Job}:uL a b=false↔¬(a.who<b.who∨(a.who=b.who∧a.n<b.n)):=by rw[←Bool.not_eq_true,qL]
theorem beE {S:List Job} {x:Job} (hs:a5F S):a5F (BM S x):=by
 have k: ∀a∈S.take (S.findIdx (uL x)),uL x a=false:=fun a e=>by obtain⟨i,hi,rfl⟩:=bqY.1 e;rw[brU];have:=br9 (p:=uL x) (xs:=S) (i:=i) (by simp at hi;omega);simpa using this
 have hB: ∀b∈S.drop (S.findIdx (uL x)),uL x b=true:=fun b c=>by
  obtain⟨i,hi,rfl⟩:=bqY.1 c;rw[List.getElem_drop];simp only[CI] at hi;have f:S.findIdx (uL x)<S.length:=by omega
  have j:uL x S[S.findIdx (uL x)]=true:=bsA (w:=f);by_cases h:i=0;·subst h;exact j
  ·have g:=Z6.1 hs (S.findIdx (uL x)) (S.findIdx (uL x)+i) (by omega) (by omega) (by omega);rw[beB] at g;rw[qL] at j ⊢;omega
 have d:(S.take (S.findIdx (uL x))++S.drop (S.findIdx (uL x))).Pairwise fun a b=>uL b a=false:=by rw[boN];exact hs
 unfold BM a5F;rw[brM] at d ⊢;obtain⟨g,l,m⟩:=d;refine⟨g,G0.2 ⟨fun b c=> ?_,l⟩,fun a e b c=> ?_⟩;·have:=hB b c;rw[qL] at this;rw[beB];omega
 ·rcases t3.1 c with rfl|c;·exact k a e
  ·exact m a e b c
theorem bd2 (l:List Job):a5F (jX l):=by
 have h: ∀(l acc:List Job),a5F acc→a5F (l.foldl BM acc):=by
  intro l
  induction l with
  |nil=>intro acc h;exact h
  |cons x l a=>intro acc h;exact a _ (beE h)
 exact h l [] List.Pairwise.nil
theorem beW {S:List Job} {x:Job} {j:Nat} (h:j≤S.length) (hs:a5F S) (c:j=0∨uL x (S.getD (j-1) default)=false) (hB: ∀i,j≤i→i<S.length→uL x (S.getD i default)=true):MS S x j=BM S x:=by
 have hl:(S.take j).length=j:=by simp;omega
 conv=>rhs;rw[←boN j S]
 refine(abS (fun a d=> ?_) fun b e=> ?_).symm
 ·rcases c with rfl|c;·simp at d
  ·obtain⟨i,hi,rfl⟩:=bqY.1 d;rw[brU];by_cases he:i=j-1;·subst he;have:S.getD (j-1) default=S[j-1]:=(by simp[List.getD,show j-1<S.length by omega]);rw[this] at c;exact c
   ·have f:=Z6.1 hs i (j-1) (by omega) (by omega) (by omega);have g:S.getD (j-1) default=S[j-1]:=(by simp[List.getD,show j-1<S.length by omega]);rw[g] at c;rw[beB] at c f ⊢;omega
 ·obtain⟨i,hi,rfl⟩:=bqY.1 e;rw[List.getElem_drop];have:=hB (j+i) (by omega) (by simp at hi;omega);simpa [List.getD,show j+i<S.length by simp at hi;omega] using this
end Go.AM
namespace Go.Proofs.YtdkfhdmagdaceaaGreat
open Go Go.AM
attribute [local irreducible] aM wv aB vd wvH
section
variable {H : aA} {nx : Nat} {K : D → aA → Nat → Prop}
theorem a42 {l:List Job} {m cap i0:Nat} (hl:l.length<2^21) (hi:i0<nx) (G:H i0=some ⟨5,m,l.map aS⟩)
 (h: ∀H' nx',nx≤nx'→H' i0=some ⟨5,m,(jX l).map aS⟩→(∀id,id<nx→id≠i0→H' id=H id)→K (.tup []) H' nx'):
 aB Tryz.prog cL [.one (.c (.osl 5 i0 0 l.length cap)),boP 0,boP l.length,.one (.c (.clo bJ []))] H nx K:=by
 refine mY rfl fun Q I=> ?_
 unfold dU
 repeat' first|apply bn1<;>(simp only[go_sem];try simp (disch:=omega) only[Iw])|fail
 refine aM.gP (β:=Nat) (fun k=>en [(8,boP k),(3,.one (.c (.clo bJ []))),(2,boP l.length),(1,boP 0),(0,.one (.c (.osl 5 i0 0 l.length cap)))])
  (fun k H1 _=>1≤k∧(k≤1∨k≤l.length)∧H1 i0=some ⟨5,m,(A5 l k++l.drop k).map aS⟩∧ ∀id,id<nx→id≠i0→H1 id=H id) (fun k=>l.length+1-k) 1
  ⟨noF,_,by repeat' first|exact bo2|refine xqI rfl rfl ?_|refine xqO (by omega) rfl rfl (by rfl) ?_| (with_reducible apply bo3)| ((with_reducible apply bo0);exact bpG (by rfl))| ((with_reducible apply bo1);apply bo7)|fail,aK,by omega,.inl (by omega),by rw[ah3,boN];exact G,fun _ _ _=>rfl⟩ ?_
 rintro k H1 J L ⟨M,N,bqC,n⟩ bpQ s
 by_cases f:k<l.length
 ·repeat' first|apply bn1<;>(simp only[go_sem])|apply bn2 (by omega)|fail
  obtain⟨S,q⟩: ∃S,S=A5 l k:=⟨_,rfl⟩
  have O:S.length=k:=by rw[q];exact ahI (by omega)
  obtain⟨x,C⟩: ∃x,x=l.getD k default:=⟨_,rfl⟩
  have t:l.drop k=x::l.drop (k+1):=by rw[brB f,C];simp[List.getD,f]
  refine aM.gP (β:=Nat) (fun j=>en [(9,boP j),(8,boP k),(3,.one (.c (.clo bJ []))),(2,boP l.length),(1,boP 0),(0,.one (.c (.osl 5 i0 0 l.length cap)))])
   (fun j H2 _=>j≤k∧H2 i0=some ⟨5,m,(MS S x j++l.drop (k+1)).map aS⟩∧(∀i,j≤i→i<S.length→uL x (S.getD i default)=true)∧ ∀id,id<nx→id≠i0→H2 id=H id) (fun j=>j) k
   ⟨noF,_,by repeat' first|exact bo2|refine xqI rfl rfl ?_|refine xqO (by omega) rfl rfl (by rfl) ?_| (with_reducible apply bo3)| ((with_reducible apply bo0);exact bpG (by rfl))| ((with_reducible apply bo1);apply bo7)|fail,aK,m5 _,?_,fun i D r=>by omega,n⟩ ?_
  ·rw[bqC,←q,t];unfold MS;rw[boL (show S.length≤k by omega),show S.drop k=[] from brZ (by omega)];simp
  rintro j H2 g E ⟨V,bfZ,hB,d⟩ bqG u;have v:(MS S x j++l.drop (k+1)).length=l.length:=by rw[t2,amF (by omega),CI];omega
  have w: ∀b,(i0=g+b)=False:=fun b=>eq_false (by omega);have o: ∀b,(g+b=i0)=False:=fun b=>eq_false (by omega);have a: ∀{e:Env} {H':aA} {y:Nat},g≤y→(j=0∨uL x (S.getD (j-1) default)=false)→H'=H2→CvE H' noF id y (en [(8,boP (k+1)),(3,.one (.c (.clo bJ []))),(2,boP l.length),(1,boP 0),(0,.one (.c (.osl 5 i0 0 l.length cap)))]) e→bpQ e H' y:=fun D r P T=>by subst P;refine s _ _ _ (k+1) noF _ (by omega) (by omega) T aK ⟨by omega,.inr (by omega),?_,d⟩;rw[bfZ,beW (by omega) (by rw[q];exact bd2 _) r hB,q,ac8 f,C]
  by_cases p:0<j
  ·have z:=anT (S:=S) (R:=l.drop (k+1)) (x:=x) (j:=j) (by omega);have A:=adY (S:=S) (R:=l.drop (k+1)) (x:=x) p (by omega);have B:=ah1 (S:=S) (R:=l.drop (k+1)) (x:=x) p (by omega);have U:((j:Int)-1).toNat=j-1:=(by omega);repeat' first| (first|apply bn1|apply bpJ (by omega)|apply xM)<;>(simp only[go_sem,bfZ,z,A,U,v,w,o];try simp (disch:=omega) only[Iw])|refine bnE (fun h=> ?_) fun h=> ?_|refine⟨by omega,?_⟩|fail
   ·exact u _ _ _ (j-1) noF _ (by omega) (by omega) (by repeat' first|exact bo2|refine xqI rfl rfl ?_|refine xqO (by omega) rfl rfl (by rfl) ?_|refine xqV rfl (by omega) ?_| (with_reducible apply bo3)| ((with_reducible apply bo0);exact bpG (by rfl))| ((with_reducible apply bo1);apply bo7)|fail) aK ⟨by omega,by rw[B];exact aA.bH,fun i D r=>by
     by_cases he:i=j-1
     ·subst he;exact E7.1 (by assumption)
     ·exact hB i (by omega) r,fun id boU F=>by rw[aA.aC F];exact d id boU F⟩
   ·exact a (by omega) (.inr (by rw[←Bool.not_eq_true,←E7];assumption)) rfl (by repeat' first|exact bo2|refine xqI rfl rfl ?_|refine xqO (by omega) rfl rfl (by rfl) ?_| (with_reducible apply bo3)| ((with_reducible apply bo0);exact bpG (by rfl))| ((with_reducible apply bo1);apply bo7)|fail)
  ·repeat' first| (first|apply bn1|apply bpK (by omega))<;>(simp only[go_sem];try simp (disch:=omega) only[Iw])|fail
   exact a (by omega) (.inl (by omega)) rfl (by repeat' first|exact bo2|refine xqI rfl rfl ?_|refine xqO (by omega) rfl rfl (by rfl) ?_| (with_reducible apply bo3)| ((with_reducible apply bo0);exact bpG (by rfl))| ((with_reducible apply bo1);apply bo7)|fail)
 ·repeat' first|apply bn1<;>(simp only[go_sem])|apply bn3 (by omega)|fail
  have t:A5 l k++l.drop k=jX l:=by rw[brZ (by omega),bq6,←aiE];unfold A5;rw[boL (by omega),boL (by omega)]
  rw[t] at bqC;exact I _ _ _ _ _ (.inl rfl) rfl (h _ _ (by omega) bqC n)
theorem bb2 {l:List Job} {m cap i0:Nat} (hl:l.length<20) (hi:i0<nx) (d:H i0=some ⟨5,m,l.map aS⟩)
 (h: ∀H' nx',nx≤nx'→H' i0=some ⟨5,m,(jX l).map aS⟩→(∀id,id<nx→id≠i0→H' id=H id)→K (.tup []) H' nx'):
 aB Tryz.prog gL [.one (.c (.osl 5 i0 0 l.length cap)),boP l.length,.one (.c (.clo bJ []))] H nx K:=by
 refine tL rfl fun Q e=> ?_
 unfold gA
 repeat' first|apply bn1<;>(simp only[go_sem])|fail
 refine aM.gP (β:=Unit) (fun _=>en [(8,boP 20),(7,boP 0),(6,boP 20),(2,.one (.c (.clo bJ []))),(1,boP l.length),(0,.one (.c (.osl 5 i0 0 l.length cap)))]) (fun _ H1 _=>H1=H) (fun _=>0) () ⟨noF,_,by repeat' first|exact bo2|refine xqI rfl rfl ?_|refine xqO (by omega) rfl rfl (by rfl) ?_| (with_reducible apply bo3)| ((with_reducible apply bo0);exact bpG (by rfl))| ((with_reducible apply bo1);apply bo7)|fail,aK,rfl⟩ ?_
 rintro u H1 f g rfl bpQ i
 repeat' first| (first|apply bn1|refine a42 (by omega) (by omega) d (fun H' nx' j bfZ a=> ?_))<;>(simp only[go_sem])|apply bn3 (by omega)|fail
 refine aM.gP (β:=Unit) (fun _=>en [(6,boP 20),(2,.one (.c (.clo bJ []))),(1,boP l.length),(0,.one (.c (.osl 5 i0 0 l.length cap)))]) (fun _ H2 _=>H2=H') (fun _=>0) () ⟨noF,_,by repeat' first|exact bo2|refine xqI rfl rfl ?_|refine xqO (by omega) rfl rfl (by rfl) ?_| (with_reducible apply bo3)| ((with_reducible apply bo0);exact bpG (by rfl))| ((with_reducible apply bo1);apply bo7)|fail,aK,rfl⟩ ?_
 rintro u H2 k b rfl bqG n
 repeat' first|apply bn1<;>(simp only[go_sem])|apply bn3 (by omega)|fail
 exact e _ _ _ _ _ (.inl rfl) rfl (h _ _ (by omega) bfZ fun id boU o=>a id (by omega) o)
theorem a3D {l:List Job} {m cap i0:Nat} (hl:l.length<20) (hi:i0<nx) (b:H i0=some ⟨5,m,l.map aS⟩)
 (h: ∀H' nx',nx≤nx'→H' i0=some ⟨5,m,(jX l).map aS⟩→(∀id,id<nx→id≠i0→H' id=H id)→K (.tup []) H' nx'):
 aB Tryz.prog cG [.one (.c (.osl 5 i0 0 l.length cap)),.one (.c (.clo bJ []))] H nx K:=by
 refine mA rfl fun Q d=> ?_
 unfold dF
 repeat' first| (first|apply bn1|refine bb2 hl (by omega) b (fun H' nx' e bfZ a=> ?_))<;>(simp only[go_sem])|fail
 exact d _ _ _ _ _ (.inl rfl) rfl (h _ _ (by omega) bfZ fun id boU f=>a id (by omega) f)
end
end Go.Proofs.YtdkfhdmagdaceaaGreat
