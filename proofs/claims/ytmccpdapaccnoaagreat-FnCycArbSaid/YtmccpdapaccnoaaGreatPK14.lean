/- Texts laid together by a program: rules, contracts and the walk that leads to the law. -/
import Derived.Test.YtmccpdapaccnoaaGreatPK6
import Derived.Test.YtmccpdapaccnoaaGreatPK12
import Derived.Test.YtmccpdapaccnoaaGreatPK11
set_option linter.unusedVariables false
set_option linter.unusedSimpArgs false
set_option linter.unusedSectionVars false
set_option maxRecDepth 100000
set_option maxHeartbeats 8000000
namespace Go.AM
theorem aN1 {L:List (List D1)} (h: ∀r∈L,∃v:Int,r=[.v (.int .i64 v)]) {x:Int} (h1:0≤x) (h2:x<L.length): ∃v:Int,L[x.toNat]?=some [.v (.int .i64 v)]:=by
 have h3:x.toNat<L.length:=by omega
 obtain⟨v,hv⟩:=h _ (Z5 h3);exact⟨v,by rw[n1 h3,hv]⟩
theorem Y1 {L:List (List D1)} {lo hi:Int} (h: ∀r∈L,∃v:Int,r=[.v (.int .i64 v)]∧lo≤v∧v≤hi) {x:Int} (h1:0≤x) (h2:x<L.length): ∃v:Int,L[x.toNat]?=some [.v (.int .i64 v)]∧lo≤v∧v≤hi:=by
 have h3:x.toNat<L.length:=by omega
 obtain⟨v,hv,hb⟩:=h _ (Z5 h3);exact⟨v,by rw[n1 h3,hv],hb⟩
end Go.AM
namespace Go.Proofs.YtmccpdapaccnoaaGreat
open Go Go.AM
attribute [local irreducible] aM wv aB vd wvH
section
variable {H : aA} {nx : Nat} {K : D → aA → Nat → Prop}
def rq0 (id kind addr many:Int) (wrap:Bool):List D1:=[cI id,cI kind,cI addr,cI many,cB wrap,.osl 0 0 0 0 0,.osl 0 0 0 0 0]
structure Rq where
 id:Int
 kind:Int
 addr:Int
 many:Int
 wrap:Bool
 p:Nat
def rqB (b1 b2 c1 c2:Nat) (q:Req):List D1:=[cI q.id,cI q.kind,cI q.addr,cI q.many,cB q.wrap,.osl 1 b1 0 q.data.length c1,.osl 1 b2 0 q.g6.length c2]
variable{l:List Int}
theorem aSU{n:Int}{p:Nat}{Q:AQ} (hQ: ∀ex e2 H2 nx2 d nh d2 H3 F σ,ex=AEx.normal∨ex=AEx.ret→yT H2 e2 E5=some d→CvR 1 d H2 nh d2 H3 F σ→(nh=1∧ ∃o',H3=hp [(0,o')]∧C7 o'∧ ∃(p':Nat) (q:Req),o'=rdO l p'∧p≤p'∧p'≤p+45∧d2=boR (eB q)∧((n=99999→dH q∧p'≤p+40)∧q.data.length≤8∧q.g6.length≤8))→Q ex e2 H2 nx2)
 {e2:Env} {H2:aA} {nx2 b1 b2 bp0 n2 c1 c2 m1 bp3 p':Nat} {id kind addr many:Int} {wrap:Bool} {D L:List Int} (h1:yT H2 e2 E5=some (boR [cI id,cI kind,cI addr,cI many,cB wrap,.osl 1 b1 0 bp0 c1,.osl 1 b2 0 n2 c2])) (h2:H2 0=some (rdO l p')) (h3:H2 b1=some ⟨1,m1,D.map aJ⟩) (h4:H2 b2=some ⟨1,bp3,L.map aJ⟩)
 (h5:p≤p'∧p'≤p+45) (h6:bp0=D.length∧n2=L.length) (h7:bp0≤c1∧n2≤c2∧b1≠0∧b2≠0∧bp0≤8∧n2≤8) (h13:n=99999→dH ⟨id,kind,addr,many,wrap,D,L⟩∧p'≤p+40):Q .ret e2 H2 nx2:=by
 obtain⟨h7,h8,h9,h10,h11,h12⟩:=h7
 obtain⟨rfl,rfl⟩:=h6
 exact lA hQ (boR (eB ⟨id,kind,addr,many,wrap,D,L⟩)) _ _ h1 (aH (bB rfl) (aH (bB rfl) (aH (bB rfl) (aH (bB rfl) (aH (bB rfl) (aH (bW bF h3 rfl h7 (by simpa using h9)) (aH (bW bF h4 rfl h8 (by simpa using h10)) eP))))))) h2 (aV _ _) ⟨p',_,rfl,h5.1,h5.2,rfl,h13,h11,h12⟩
theorem Y0 (l:List Int) (p:Nat) (n:Int) (hn:n=99999∨0<n∧n<9000) (hl:kZ l) (hp50:p+45<2^50):aB Tryz.prog tS [bkP 2 0,boP n] (hp [(0,rdO l p)]) 1
 fun rr H' n'=>n'=1∧ ∃o',H'=hp [(0,o')]∧C7 o'∧ ∃(p':Nat) (q:Req),o'=rdO l p'∧p≤p'∧p'≤p+45∧rr=boR (eB q)∧((n=99999→dH q∧p'≤p+40)∧q.data.length≤8∧q.g6.length≤8):=by
 refine QN rfl fun Q hQ=> ?_
 unfold xW
 (apply boB);(simp only[go_sem];try simp (disch:=omega) only[Iw]);(apply bn0)
 refine aM.join 2 (α:={u:Rq//(0≤u.id∧u.id≤1)∧(1≤u.kind∧u.kind≤4)∧(0≤u.addr∧u.addr≤63)∧(u.many=1∨u.many=2∨u.many=4)∧p≤u.p∧u.p≤p+11})
  (fun b u=>en [(5,bkP 7 (b+1)),(4,bkP 7 b),(1,boP n),(0,bkP 2 0)]) (fun b u=>hp [(0,rdO l u.1.p),(b,⟨7,1,[rq0 0 0 0 0 false]⟩),(b+1,⟨7,1,[rq0 u.1.id u.1.kind u.1.addr u.1.many u.1.wrap]⟩)]) (fun bkT hKJ=> ?_) ?_
 ·repeat' first| (first|apply bn1|refine aX hl (by omega) (by omega) (by omega) rfl (fun x h1 h2=> ?_)|refine SE hl (by omega) (by omega) rfl (fun pa xa ha1 ha2 ha3=> ?_))<;>(simp only[go_sem];try simp (disch:=omega) only[Iw])|refine⟨by omega,?_⟩|fail
  have hx:x=0∨x=1∨x=2∨x=3:=by omega
  rcases hx with rfl|rfl|rfl|rfl;all_goals simp only[go_sem];try simp (disch:=omega) only[Iw]
  all_goals repeat' first| (first|apply bn1|refine aX hl (by omega) (by omega) (by omega) rfl (fun x h1 h2=> ?_))<;>(simp only[go_sem])|fail
  all_goals rename_i id hid1 hid2 kind hkind1 hkind2 _ _
  ·refine hKJ _ _ _ ⟨⟨id,1+kind,xa,1,decide (x=0),pa+1+1⟩,by dsimp only;omega,by dsimp only;omega,by dsimp only;omega,by dsimp only;omega,by dsimp only;omega,by dsimp only;omega⟩ (by(refine cR [1,18,0] (by omega) (by repeat' first|exact bo2|refine xqI rfl rfl ?_|refine xqP (by omega) rfl rfl ?_|fail) ⟨⟨by simp,by simp[sgL],_,rfl,bS (aV _ _)⟩,⟨by simp,by simp[sgL],_,rfl,aP (by(try unfold rq0);repeat' first|exact bo2| (with_reducible first|exact bo4|apply bo5)| ((with_reducible apply bo0);first|exact bo9 rfl|exact bpA)|fail)⟩,⟨by simp,by simp[sgL],_,rfl,aP (by(try unfold rq0);repeat' first|exact bo2| (with_reducible first|exact bo4|apply bo5)| ((with_reducible apply bo0);first|exact bo9 rfl|exact bpA)|fail)⟩,trivial⟩ (by simp[sgL])))
  ·refine hKJ _ _ _ ⟨⟨id,1+kind,xa,1,decide (x=0),pa+1+1⟩,by dsimp only;omega,by dsimp only;omega,by dsimp only;omega,by dsimp only;omega,by dsimp only;omega,by dsimp only;omega⟩ (by(refine cR [1,18,0] (by omega) (by repeat' first|exact bo2|refine xqI rfl rfl ?_|refine xqP (by omega) rfl rfl ?_|fail) ⟨⟨by simp,by simp[sgL],_,rfl,bS (aV _ _)⟩,⟨by simp,by simp[sgL],_,rfl,aP (by(try unfold rq0);repeat' first|exact bo2| (with_reducible first|exact bo4|apply bo5)| ((with_reducible apply bo0);first|exact bo9 rfl|exact bpA)|fail)⟩,⟨by simp,by simp[sgL],_,rfl,aP (by(try unfold rq0);repeat' first|exact bo2| (with_reducible first|exact bo4|apply bo5)| ((with_reducible apply bo0);first|exact bo9 rfl|exact bpA)|fail)⟩,trivial⟩ (by simp[sgL])))
  ·refine hKJ _ _ _ ⟨⟨id,1+kind,xa,2,decide (x=0),pa+1+1⟩,by dsimp only;omega,by dsimp only;omega,by dsimp only;omega,by dsimp only;omega,by dsimp only;omega,by dsimp only;omega⟩ (by(refine cR [1,18,0] (by omega) (by repeat' first|exact bo2|refine xqI rfl rfl ?_|refine xqP (by omega) rfl rfl ?_|fail) ⟨⟨by simp,by simp[sgL],_,rfl,bS (aV _ _)⟩,⟨by simp,by simp[sgL],_,rfl,aP (by(try unfold rq0);repeat' first|exact bo2| (with_reducible first|exact bo4|apply bo5)| ((with_reducible apply bo0);first|exact bo9 rfl|exact bpA)|fail)⟩,⟨by simp,by simp[sgL],_,rfl,aP (by(try unfold rq0);repeat' first|exact bo2| (with_reducible first|exact bo4|apply bo5)| ((with_reducible apply bo0);first|exact bo9 rfl|exact bpA)|fail)⟩,trivial⟩ (by simp[sgL])))
  ·refine hKJ _ _ _ ⟨⟨id,1+kind,xa,4,decide (x=0),pa+1+1⟩,by dsimp only;omega,by dsimp only;omega,by dsimp only;omega,by dsimp only;omega,by dsimp only;omega,by dsimp only;omega⟩ (by(refine cR [1,18,0] (by omega) (by repeat' first|exact bo2|refine xqI rfl rfl ?_|refine xqP (by omega) rfl rfl ?_|fail) ⟨⟨by simp,by simp[sgL],_,rfl,bS (aV _ _)⟩,⟨by simp,by simp[sgL],_,rfl,aP (by(try unfold rq0);repeat' first|exact bo2| (with_reducible first|exact bo4|apply bo5)| ((with_reducible apply bo0);first|exact bo9 rfl|exact bpA)|fail)⟩,⟨by simp,by simp[sgL],_,rfl,aP (by(try unfold rq0);repeat' first|exact bo2| (with_reducible first|exact bo4|apply bo5)| ((with_reducible apply bo0);first|exact bo9 rfl|exact bpA)|fail)⟩,trivial⟩ (by simp[sgL])))
 rintro⟨⟨id,kind,addr,many,wrap,q⟩,bpR,f2,bpS,bpT,bpU,bpV⟩
 dsimp only at bpR f2 bpS bpT bpU bpV
 refine aM.join 2 (α:={u:Rq//((0≤u.id∧u.id≤1)∧(1≤u.kind∧u.kind≤4)∧(0≤u.addr∧u.addr≤63)∧(u.many=1∨u.many=2∨u.many=4)∧p≤u.p∧u.p≤p+12)∧(3≤u.kind→u.many=1)})
  (fun b u=>en [(5,bkP 7 (b+1)),(4,bkP 7 b),(1,boP n),(0,bkP 2 0)]) (fun b u=>hp [(0,rdO l u.1.p),(b,⟨7,1,[rq0 0 0 0 0 false]⟩),(b+1,⟨7,1,[rq0 u.1.id u.1.kind u.1.addr u.1.many u.1.wrap]⟩)]) (fun bkT hKJ=> ?_) ?_
 ·repeat' first| (first|apply bn1|refine aX hl (by omega) (by omega) (by omega) rfl (fun x h1 h2=> ?_))<;>(simp only[go_sem,rq0])|refine bnE (fun h=> ?_) fun h=> ?_|refine⟨by omega,?_⟩|fail
  ·have hx:x=0∨x=1∨x=2∨x=3:=(by omega);rcases hx with rfl|rfl|rfl|rfl;all_goals simp only[go_sem];try simp (disch:=omega) only[Iw]
   all_goals repeat' first|apply bn1<;>(simp only[go_sem])|fail
   ·refine hKJ _ _ _ ⟨⟨id,kind,0,1,wrap,q+1⟩,by dsimp only;omega,by dsimp only;omega⟩ (by(refine cR [2,3,0] (by omega) (by repeat' first|exact bo2|refine xqI rfl rfl ?_|refine xqP (by omega) rfl rfl ?_|fail) ⟨⟨by simp,by simp[sgL],_,rfl,bS (aV _ _)⟩,⟨by simp,by simp[sgL],_,rfl,aP (by(try unfold rq0);repeat' first|exact bo2| (with_reducible first|exact bo4|apply bo5)| ((with_reducible apply bo0);first|exact bo9 rfl|exact bpA)|fail)⟩,⟨by simp,by simp[sgL],_,rfl,aP (by(try unfold rq0);repeat' first|exact bo2| (with_reducible first|exact bo4|apply bo5)| ((with_reducible apply bo0);first|exact bo9 rfl|exact bpA)|fail)⟩,trivial⟩ (by simp[sgL])))
   ·refine hKJ _ _ _ ⟨⟨id,kind,1,1,wrap,q+1⟩,by dsimp only;omega,by dsimp only;omega⟩ (by(refine cR [2,3,0] (by omega) (by repeat' first|exact bo2|refine xqI rfl rfl ?_|refine xqP (by omega) rfl rfl ?_|fail) ⟨⟨by simp,by simp[sgL],_,rfl,bS (aV _ _)⟩,⟨by simp,by simp[sgL],_,rfl,aP (by(try unfold rq0);repeat' first|exact bo2| (with_reducible first|exact bo4|apply bo5)| ((with_reducible apply bo0);first|exact bo9 rfl|exact bpA)|fail)⟩,⟨by simp,by simp[sgL],_,rfl,aP (by(try unfold rq0);repeat' first|exact bo2| (with_reducible first|exact bo4|apply bo5)| ((with_reducible apply bo0);first|exact bo9 rfl|exact bpA)|fail)⟩,trivial⟩ (by simp[sgL])))
   ·refine hKJ _ _ _ ⟨⟨id,kind,16,1,wrap,q+1⟩,by dsimp only;omega,by dsimp only;omega⟩ (by(refine cR [2,3,0] (by omega) (by repeat' first|exact bo2|refine xqI rfl rfl ?_|refine xqP (by omega) rfl rfl ?_|fail) ⟨⟨by simp,by simp[sgL],_,rfl,bS (aV _ _)⟩,⟨by simp,by simp[sgL],_,rfl,aP (by(try unfold rq0);repeat' first|exact bo2| (with_reducible first|exact bo4|apply bo5)| ((with_reducible apply bo0);first|exact bo9 rfl|exact bpA)|fail)⟩,⟨by simp,by simp[sgL],_,rfl,aP (by(try unfold rq0);repeat' first|exact bo2| (with_reducible first|exact bo4|apply bo5)| ((with_reducible apply bo0);first|exact bo9 rfl|exact bpA)|fail)⟩,trivial⟩ (by simp[sgL])))
   ·refine hKJ _ _ _ ⟨⟨id,kind,32,1,wrap,q+1⟩,by dsimp only;omega,by dsimp only;omega⟩ (by(refine cR [2,3,0] (by omega) (by repeat' first|exact bo2|refine xqI rfl rfl ?_|refine xqP (by omega) rfl rfl ?_|fail) ⟨⟨by simp,by simp[sgL],_,rfl,bS (aV _ _)⟩,⟨by simp,by simp[sgL],_,rfl,aP (by(try unfold rq0);repeat' first|exact bo2| (with_reducible first|exact bo4|apply bo5)| ((with_reducible apply bo0);first|exact bo9 rfl|exact bpA)|fail)⟩,⟨by simp,by simp[sgL],_,rfl,aP (by(try unfold rq0);repeat' first|exact bo2| (with_reducible first|exact bo4|apply bo5)| ((with_reducible apply bo0);first|exact bo9 rfl|exact bpA)|fail)⟩,trivial⟩ (by simp[sgL])))
  ·refine hKJ _ _ _ ⟨⟨id,kind,addr,many,wrap,q⟩,by dsimp only;omega,by dsimp only;omega⟩ (by(refine cR [2,3,0] (by omega) (by repeat' first|exact bo2|refine xqI rfl rfl ?_|refine xqP (by omega) rfl rfl ?_|fail) ⟨⟨by simp,by simp[sgL],_,rfl,bS (aV _ _)⟩,⟨by simp,by simp[sgL],_,rfl,aP (by(try unfold rq0);repeat' first|exact bo2| (with_reducible first|exact bo4|apply bo5)| ((with_reducible apply bo0);first|exact bo9 rfl|exact bpA)|fail)⟩,⟨by simp,by simp[sgL],_,rfl,aP (by(try unfold rq0);repeat' first|exact bo2| (with_reducible first|exact bo4|apply bo5)| ((with_reducible apply bo0);first|exact bo9 rfl|exact bpA)|fail)⟩,trivial⟩ (by simp[sgL])))
 rintro⟨⟨id,kind,addr,many,wrap,q⟩,⟨bpR,f2,bpS,bpT,bpU,bpV⟩,bpW⟩
 dsimp only at bpR f2 bpS bpT bpU bpV bpW
 refine aM.join 2 (α:={u:Rq//((0≤u.id∧u.id≤1)∧(1≤u.kind∧u.kind≤4)∧p≤u.p∧u.p≤p+12)∧(3≤u.kind→u.many=1)∧o7 u.addr u.many u.wrap})
  (fun b u=>en [(5,bkP 7 (b+1)),(4,bkP 7 b),(1,boP n),(0,bkP 2 0)]) (fun b u=>hp [(0,rdO l u.1.p),(b,⟨7,1,[rq0 0 0 0 0 false]⟩),(b+1,⟨7,1,[rq0 u.1.id u.1.kind u.1.addr u.1.many u.1.wrap]⟩)]) (fun bkT hKJ=> ?_) ?_
 ·repeat' first| (first|apply bn1| (refine bpM (fun h=> ?_) (fun h=> ?_)<;>try subst h))<;>(simp only[go_sem,rq0];try simp (disch:=omega) only[Iw])|refine bnE (fun h=> ?_) fun h=> ?_|fail
  ·refine hKJ _ _ _ ⟨⟨id,kind,63-many+1,many,wrap,q⟩,by dsimp only;omega,by dsimp only;omega,by dsimp only;exact⟨by omega,by omega,.inr (by omega)⟩⟩ (by(refine cR [4,5,0] (by omega) (by repeat' first|exact bo2|refine xqI rfl rfl ?_|refine xqP (by omega) rfl rfl ?_|fail) ⟨⟨by simp,by simp[sgL],_,rfl,bS (aV _ _)⟩,⟨by simp,by simp[sgL],_,rfl,aP (by(try unfold rq0);repeat' first|exact bo2| (with_reducible first|exact bo4|apply bo5)| ((with_reducible apply bo0);first|exact bo9 rfl|exact bpA)|fail)⟩,⟨by simp,by simp[sgL],_,rfl,aP (by(try unfold rq0);repeat' first|exact bo2| (with_reducible first|exact bo4|apply bo5)| ((with_reducible apply bo0);first|exact bo9 rfl|exact bpA)|fail)⟩,trivial⟩ (by simp[sgL])))
  ·refine hKJ _ _ _ ⟨⟨id,kind,addr,many,wrap,q⟩,by dsimp only;omega,by dsimp only;omega,by dsimp only;exact⟨by omega,by omega,.inr (by omega)⟩⟩ (by(refine cR [4,5,0] (by omega) (by repeat' first|exact bo2|refine xqI rfl rfl ?_|refine xqP (by omega) rfl rfl ?_|fail) ⟨⟨by simp,by simp[sgL],_,rfl,bS (aV _ _)⟩,⟨by simp,by simp[sgL],_,rfl,aP (by(try unfold rq0);repeat' first|exact bo2| (with_reducible first|exact bo4|apply bo5)| ((with_reducible apply bo0);first|exact bo9 rfl|exact bpA)|fail)⟩,⟨by simp,by simp[sgL],_,rfl,aP (by(try unfold rq0);repeat' first|exact bo2| (with_reducible first|exact bo4|apply bo5)| ((with_reducible apply bo0);first|exact bo9 rfl|exact bpA)|fail)⟩,trivial⟩ (by simp[sgL])))
  ·refine hKJ _ _ _ ⟨⟨id,kind,addr,many,wrap,q⟩,by dsimp only;omega,by dsimp only;omega,by dsimp only;exact⟨by omega,by omega,.inl (by simp_all)⟩⟩ (by(refine cR [4,5,0] (by omega) (by repeat' first|exact bo2|refine xqI rfl rfl ?_|refine xqP (by omega) rfl rfl ?_|fail) ⟨⟨by simp,by simp[sgL],_,rfl,bS (aV _ _)⟩,⟨by simp,by simp[sgL],_,rfl,aP (by(try unfold rq0);repeat' first|exact bo2| (with_reducible first|exact bo4|apply bo5)| ((with_reducible apply bo0);first|exact bo9 rfl|exact bpA)|fail)⟩,⟨by simp,by simp[sgL],_,rfl,aP (by(try unfold rq0);repeat' first|exact bo2| (with_reducible first|exact bo4|apply bo5)| ((with_reducible apply bo0);first|exact bo9 rfl|exact bpA)|fail)⟩,trivial⟩ (by simp[sgL])))
 rintro⟨⟨id,kind,addr,many,wrap,q⟩,⟨bpR,f2,bpU,bpV⟩,bpW,bpX⟩
 dsimp only at bpR f2 bpU bpV bpW bpX
 have bpT:=bpX.1
 refine aM.EJ 1 (aM.EJ 1 ?_)
 refine aM.join 4 (α:={u:Req×Nat×Nat×Nat//(dH u.1∧u.1.data.length≤4∧u.1.g6.length≤4∧u.1.data.length≤u.2.2.1∧u.1.g6.length≤u.2.2.2)∧p≤u.2.1∧u.2.1≤p+40})
  (fun b u=>en [(5,bkP 7 (b+1)),(4,bkP 7 b),(1,boP n),(0,bkP 2 0)]) (fun b u=>hp [(0,rdO l u.1.2.1),(b,⟨7,1,[rq0 0 0 0 0 false]⟩),(b+1,⟨7,1,[rqB (b+2) (b+3) u.1.2.2.1 u.1.2.2.2 u.1.1]⟩),(b+2,⟨1,u.1.2.2.1,u.1.1.data.map aJ⟩),(b+3,⟨1,u.1.2.2.2,u.1.1.g6.map aJ⟩)]) (fun bkT hKJ=> ?_) ?_
 ·repeat' first| (first|apply bn1|refine bpL (fun h=> ?_) fun h=> ?_)<;>(simp only[go_sem,rq0])|refine bnE (fun h=> ?_) fun h=> ?_|fail
  rotate_left 2
  ·refine hKJ _ _ _ ⟨(⟨id,kind,addr,many,wrap,[],[]⟩,q,0,0),⟨⟨bpR,f2,bpX,?_,?_,?_,?_,by dsimp only;omega⟩,by simp,by simp,by simp,by simp⟩,by dsimp only;omega,by dsimp only;omega⟩ (by(refine cR [6,7,8,9,0] (by omega) (by repeat' first|exact bo2|refine xqI rfl rfl ?_|refine xqP (by omega) rfl rfl ?_|fail) ⟨⟨by simp,by simp[sgL],_,rfl,bS (aV _ _)⟩,⟨by simp,by simp[sgL],_,rfl,aP (by(try unfold rq0);repeat' first|exact bo2| (with_reducible first|exact bo4|apply bo5)| ((with_reducible apply bo0);first|exact bo9 rfl|exact bpA)|fail)⟩,⟨by simp,by simp[sgL],_,rfl,aP (by(try unfold rq0 rqB);repeat' first|exact bo2| (with_reducible first|exact bo4|apply bo5)| ((with_reducible apply bo0);first|exact bo9 rfl|exact bpA)|apply bo5|fail)⟩,⟨by simp,by simp[sgL],_,rfl,bP (aG bF _) rfl rfl⟩,⟨by simp,by simp[sgL],_,rfl,bP (aG bF _) rfl rfl⟩,trivial⟩ (by simp[sgL])));·simp only[n5];rw[if_neg (by omega)];rfl
   ·simp only[n5];rw[if_neg (by omega)];rfl
   ·intro x hx;simp at hx
   ·intro x hx;simp at hx
  all_goals
   have hkind:kind=2∨kind=4:=by omega
   refine aM.sG 4 (β:=(Nat×Nat)×(List Int×Nat)×(List Int×Nat))
    (fun b u=>en [(6,boP u.1.1),(5,bkP 7 (b+1)),(4,bkP 7 b),(1,boP n),(0,bkP 2 0)])
    (fun b u=>hp [(0,rdO l u.1.2),(b,⟨7,1,[rq0 0 0 0 0 false]⟩),(b+1,⟨7,1,[[cI id,cI kind,cI addr,cI many,cB wrap,.osl 1 (b+2) 0 u.1.1 u.2.1.2,.osl 1 (b+3) 0 u.1.1 u.2.2.2]]⟩),(b+2,⟨1,u.2.1.2,u.2.1.1.map aJ⟩),(b+3,⟨1,u.2.2.2,u.2.2.1.map aJ⟩)])
    (fun u=>((u.1.1:Int)≤many∧u.1.2≤q+4*u.1.1∧q≤u.1.2)∧(u.2.1.1.length=u.1.1∧All u.2.1.1 0 65535∧u.1.1≤u.2.1.2)∧(u.2.2.1.length=u.1.1∧All u.2.2.1 0 3∧u.1.1≤u.2.2.2))
    (fun u=>many.toNat-u.1.1) ((0,q),([],0),([],0)) ?_ ⟨⟨by dsimp only;omega,by dsimp only;omega,by dsimp only;omega⟩,⟨rfl,by simp[All],by simp⟩,⟨rfl,by simp[All],by simp⟩⟩ ?_
   · (refine cR [6,7,8,9,0] (by omega) (by repeat' first|exact bo2|refine xqI rfl rfl ?_|refine xqP (by omega) rfl rfl ?_|fail) ⟨⟨by simp,by simp[sgL],_,rfl,bS (aV _ _)⟩,⟨by simp,by simp[sgL],_,rfl,aP (by unfold rq0;repeat' first|exact bo2| (with_reducible first|exact bo4|apply bo5)| ((with_reducible apply bo0);first|exact bo9 rfl|exact bpA)|fail)⟩,⟨by simp,by simp[sgL],_,rfl,aP (by(try unfold rq0);repeat' first|exact bo2| (with_reducible first|exact bo4|apply bo5)| ((with_reducible apply bo0);first|exact bo9 rfl|exact bpA)|fail)⟩,⟨by simp,by simp[sgL],_,rfl,bP (aG bF _) rfl rfl⟩,⟨by simp,by simp[sgL],_,rfl,bP (aG bF _) rfl rfl⟩,trivial⟩ (by simp[sgL]))
   ·rintro⟨⟨k,q'⟩,⟨da,ca⟩,⟨la,cl⟩⟩ ⟨⟨g1,g2,g3⟩,⟨g4,g5,bkU⟩,⟨bkV,bp4,bp5⟩⟩ bpQ hKL;dsimp only at g1 g2 g3 g4 g5 bkU bkV bp4 bp5;have hta:da.take k=da:=boL (by omega);have htl:la.take k=la:=boL (by omega);by_cases hlt:k<many.toNat
    ·repeat' first| (first|apply bn1|refine aX hl (by omega) (by omega) (by omega) rfl (fun x h1 h2=> ?_))<;>(simp only[go_sem,rq0];try simp (disch:=omega) only[Iw])|apply bn2 (by omega)|refine⟨by omega,?_⟩|fail
     rename_i xa xa1 xa2 xb xb1 xb2;obtain⟨v,hv,hvb⟩:=Y1 (lo:=0) (hi:=65535) (L:=[[.v (.int .i64 (xa*257))],[.v (.int .i64 xb)],[.v (.int .i64 65535)],[.v (.int .i64 0)]]) (by intro r hr;simp only[t3,bq7,or_false] at hr;rcases hr with rfl|rfl|rfl|rfl<;>exact⟨_,rfl,by omega,by omega⟩) h1 (by simp;omega);simp only[go_sem,hv,hta];repeat' first| (first|apply bn1|refine aX hl (by omega) (by omega) (by omega) rfl (fun x h1 h2=> ?_))<;>(simp only[go_sem,hta,htl])| (with_reducible first|refine fun(cap:Nat) (hcap:_≤cap)=> ?_|refine fun(hcp:_≤cap)=> ?_)|refine⟨by omega,?_⟩|fail
     obtain⟨u,hu,hub⟩:=Y1 (lo:=0) (hi:=3) (L:=[[.v (.int .i64 3)],[.v (.int .i64 3)],[.v (.int .i64 1)],[.v (.int .i64 2)],[.v (.int .i64 0)]]) (by intro r hr;simp only[t3,bq7,or_false] at hr;rcases hr with rfl|rfl|rfl|rfl|rfl<;>exact⟨_,rfl,by omega,by omega⟩) h1 (by simp;omega);simp only[go_sem,hu,htl];repeat' first|apply bn1<;>(simp only[go_sem,hta,htl];try simp (disch:=omega) only[Iw])| (with_reducible first|refine fun(cap:Nat) (hcap:_≤cap)=> ?_|refine fun(hcp:_≤cap)=> ?_)|refine⟨by omega,?_⟩|fail
     exact hKL _ _ _ ((k+1,_),(da++[_],_),(la++[_],_)) (by omega) (by(refine cR [19,20,40,51,0] (by omega) (by repeat' first|exact bo2|refine xqI rfl rfl ?_|refine xqP (by omega) rfl rfl ?_|fail) ⟨⟨by simp,by simp[sgL],_,rfl,bS (aV _ _)⟩,⟨by simp,by simp[sgL],_,rfl,aP (by unfold rq0;repeat' first|exact bo2| (with_reducible first|exact bo4|apply bo5)| ((with_reducible apply bo0);first|exact bo9 rfl|exact bpA)|fail)⟩,⟨by simp,by simp[sgL],_,rfl,aP (by repeat' first|exact bo2| (with_reducible first|exact bo4|apply bo5)| ((with_reducible apply bo0);first|exact bo9 rfl|exact bpB (by omega) rfl rfl (by rfl) rfl)|fail)⟩,⟨by simp,by simp[sgL],_,rfl,bP (aG bF _) rfl rfl⟩,⟨by simp,by simp[sgL],_,rfl,bP (aG bF _) rfl rfl⟩,trivial⟩ (by simp[sgL])))
      ⟨⟨by dsimp only;omega,by dsimp only;omega,by dsimp only;omega⟩,⟨by simp;omega,KC g5 hvb.1 hvb.2,by dsimp only;omega⟩,⟨by simp;omega,KC bp4 hub.1 hub.2,by dsimp only;omega⟩⟩ (by dsimp only;omega)
    ·repeat' first|apply bn1<;>(simp only[go_sem,rq0])|apply bn3 (by omega)|fail
     refine hKJ _ _ _ ⟨(⟨id,kind,addr,many,wrap,da,la⟩,q',ca,cl),⟨⟨bpR,f2,bpX,?_,?_,g5,bp4,by dsimp only;omega⟩,by dsimp only;omega,by dsimp only;omega,by dsimp only;omega,by dsimp only;omega⟩,by dsimp only;omega,by dsimp only;omega⟩ (by(refine cR [19,20,21,22,0] (by omega) (by repeat' first|exact bo2|refine xqI rfl rfl ?_|refine xqP (by omega) rfl rfl ?_|fail) ⟨⟨by simp,by simp[sgL],_,rfl,bS (aV _ _)⟩,⟨by simp,by simp[sgL],_,rfl,aP (by(try unfold rq0);repeat' first|exact bo2| (with_reducible first|exact bo4|apply bo5)| ((with_reducible apply bo0);first|exact bo9 rfl|exact bpA)|fail)⟩,⟨by simp,by simp[sgL],_,rfl,aP (by(try unfold rq0 rqB);repeat' first|exact bo2| (with_reducible first|exact bo4|apply bo5)| ((with_reducible apply bo0);first|exact bo9 rfl|exact bpB (by omega) rfl rfl (by first|rfl|omega) rfl)|apply bo5|fail)⟩,⟨by simp,by simp[sgL],_,rfl,bP (aG bF _) rfl rfl⟩,⟨by simp,by simp[sgL],_,rfl,bP (aG bF _) rfl rfl⟩,trivial⟩ (by simp[sgL])));·simp only[n5];rw[if_pos hkind];omega
     ·simp only[n5];rw[if_pos hkind];omega
 rintro⟨⟨⟨id,kind,addr,many,wrap,da,la⟩,q',ca,cl⟩,⟨hok,g1,g2,g3,g4⟩,g5,bkU⟩
 dsimp only at hok g1 g2 g3 g4 g5 bkU
 have htd:da.take da.length=da:=bq4
 have htl:la.take la.length=la:=bq4
 by_cases hn9:n=99999
 ·subst hn9;repeat' first| (first|apply bn1|refine uA (by omega) rfl ?_)<;>(simp only[go_sem,rqB,rq0,htd,htl])|fail
  exact aSU hQ rfl rfl rfl rfl (by omega) ⟨rfl,rfl⟩ (by omega) (fun _=>⟨hok,by omega⟩)
 repeat' first| (first|apply bn1|refine d6 (n:=n) (by omega) hl (by omega) (by omega) rfl (fun p1 bb hp1 hp2 _=> ?_)|refine aX hl (by omega) (by omega) (by omega) rfl (fun x h1 h2=> ?_))<;>(simp only[go_sem,rqB,rq0,htd,htl])|refine bnE (fun h=> ?_) fun h=> ?_| (with_reducible first|refine fun(cap:Nat) (hcap:_≤cap)=> ?_|refine fun(hcp:_≤cap)=> ?_)| ((refine bnF (fun h=> ?_) (fun h=> ?_))<;>try subst h)|refine⟨by omega,?_⟩|fail
 all_goals first
  | (obtain⟨v,hv⟩:=aN1 (L:=[[.v (.int .i64 (-1))],[.v (.int .i64 2)]]) (by simp) h1 (by simp;omega);simp only[hv];simp only[go_sem,htd,htl])
  | (obtain⟨v,hv⟩:=aN1 (L:=[[.v (.int .i64 0)],[.v (.int .i64 5)]]) (by simp) h1 (by simp;omega);simp only[hv];simp only[go_sem,htd,htl])
  | (obtain⟨v,hv⟩:=aN1 (L:=[[.v (.int .i64 (-1))],[.v (.int .i64 64)],[.v (.int .i64 63)]]) (by simp) h1 (by simp;omega);simp only[hv];simp only[go_sem,htd,htl])
  | (obtain⟨v,hv⟩:=aN1 (L:=[[.v (.int .i64 0)],[.v (.int .i64 3)],[.v (.int .i64 8)],[.v (.int .i64 4)]]) (by simp) h1 (by simp;omega);simp only[hv];simp only[go_sem,htd,htl])
  | (obtain⟨v,hv⟩:=aN1 (L:=[[.v (.int .i64 (-1))],[.v (.int .i64 65536)]]) (by simp) h1 (by simp;omega);simp only[hv];simp only[go_sem,htd,htl])
  |skip
 all_goals try repeat' first|apply bn1<;>(simp only[go_sem,rqB,rq0,htd,htl])|refine⟨by omega,?_⟩|fail
 all_goals first
  |exact aSU hQ rfl rfl rfl rfl (by omega) ⟨rfl,rfl⟩ (by omega) (fun h=>absurd h hn9)
  |exact aSU hQ (D:=da++[5]) rfl rfl rfl rfl (by omega) ⟨by simp,rfl⟩ (by omega) (fun h=>absurd h hn9)
  |exact aSU hQ (L:=la++[1]) rfl rfl rfl rfl (by omega) ⟨rfl,by simp⟩ (by omega) (fun h=>absurd h hn9)
  |exact aSU hQ (D:=da.set 0 _) rfl rfl rfl rfl (by omega) ⟨by simp,rfl⟩ (by omega) (fun h=>absurd h hn9)
theorem KB{p i:Nat}{n:Int} (hn:n=99999∨0<n∧n<9000) (hl:kZ l) (hp50:p+45<2^50) (hi:i<nx) (ho:H i=some (rdO l p)) (h: ∀(p':Nat) (q:Req),p≤p'→p'≤p+45→((n=99999→dH q∧p'≤p+40)∧q.data.length≤8∧q.g6.length≤8)→K (boR (eB q)) (H.set i (rdO l p')) nx):
 aB Tryz.prog tS [bkP 2 i,boP n] H nx K:=
 (Y0 l p n hn hl hp50).OU i rfl (gW ⟨DG (by omega) rfl,aE rfl,trivial⟩) hi ho (aV l p) fun r o' ⟨p',q,h1,h2,h3,h4,h5⟩=>by subst h1;subst h4;exact EW (A:=fun d=>K d (H.set i (rdO l p')) nx) rfl (h p' q h2 h3 h5)
theorem ID{p i:Nat} (hl:kZ l) (hp50:p+45<2^50) (hi:i<nx) (ho:H i=some (rdO l p)) (h: ∀(p':Nat) (q:Req),p≤p'→p'≤p+40→dH q→K (boR (eB q)) (H.set i (rdO l p')) nx):
 aB Tryz.prog tS [bkP 2 i,boP 99999] H nx K:=
 KB (n:=99999) (.inl rfl) hl hp50 hi ho fun p' q h1 _ h3=>h p' q h1 (h3.1 rfl).2 (h3.1 rfl).1
theorem aRK{p i:Nat} (hl:kZ l) (hp50:p+45<2^50) (hi:i<nx) (ho:H i=some (rdO l p)) (h: ∀(p':Nat) (q:Req),p≤p'→p'≤p+45→(q.data.length≤8∧q.g6.length≤8)→K (boR (eB q)) (H.set i (rdO l p')) nx):
 aB Tryz.prog tS [bkP 2 i,boP 1] H nx K:=
 KB (n:=1) (.inr (by omega)) hl hp50 hi ho fun p' q h1 h2 h3=>h p' q h1 h2 h3.2
end
end Go.Proofs.YtmccpdapaccnoaaGreat
namespace Go.AM
def a5F (l:List Job):Prop:=l.Pairwise fun a b=>uL b a=false
theorem beB {a b:Job}:uL a b=false↔¬(a.who<b.who∨(a.who=b.who∧a.n<b.n)):=by rw[←Bool.not_eq_true,qL]
theorem beE {S:List Job} {x:Job} (hs:a5F S):a5F (BM S x):=by
 have hA: ∀a∈S.take (S.findIdx (uL x)),uL x a=false:=fun a ha=>by obtain⟨i,hi,rfl⟩:=bqY.1 ha;rw[brU];have:=br9 (p:=uL x) (xs:=S) (i:=i) (by simp at hi;omega);simpa using this
 have hB: ∀b∈S.drop (S.findIdx (uL x)),uL x b=true:=fun b hb=>by
  obtain⟨i,hi,rfl⟩:=bqY.1 hb;rw[List.getElem_drop];simp only[CI] at hi;have hlt:S.findIdx (uL x)<S.length:=by omega
  have h0:uL x S[S.findIdx (uL x)]=true:=bsA (w:=hlt);by_cases h:i=0;·subst h;exact h0
  ·have h1:=Z6.1 hs (S.findIdx (uL x)) (S.findIdx (uL x)+i) (by omega) (by omega) (by omega);rw[beB] at h1;rw[qL] at h0 ⊢;omega
 have hs':(S.take (S.findIdx (uL x))++S.drop (S.findIdx (uL x))).Pairwise fun a b=>uL b a=false:=by rw[boN];exact hs
 unfold BM a5F;rw[brM] at hs' ⊢;obtain⟨h1,h2,h3⟩:=hs';refine⟨h1,G0.2 ⟨fun b hb=> ?_,h2⟩,fun a ha b hb=> ?_⟩;·have:=hB b hb;rw[qL] at this;rw[beB];omega
 ·rcases t3.1 hb with rfl|hb;·exact hA a ha
  ·exact h3 a ha b hb
theorem bd2 (l:List Job):a5F (jX l):=by
 have h: ∀(l acc:List Job),a5F acc→a5F (l.foldl BM acc):=by
  intro l
  induction l with
  |nil=>intro acc h;exact h
  |cons x l ih=>intro acc h;exact ih _ (beE h)
 exact h l [] List.Pairwise.nil
theorem beW {S:List Job} {x:Job} {j:Nat} (hj:j≤S.length) (hs:a5F S) (h0:j=0∨uL x (S.getD (j-1) default)=false) (hB: ∀i,j≤i→i<S.length→uL x (S.getD i default)=true):MS S x j=BM S x:=by
 have hl:(S.take j).length=j:=by simp;omega
 conv=>rhs;rw[←boN j S]
 refine(abS (fun a ha=> ?_) fun b hb=> ?_).symm
 ·rcases h0 with rfl|h0;·simp at ha
  ·obtain⟨i,hi,rfl⟩:=bqY.1 ha;rw[brU];by_cases he:i=j-1;·subst he;have:S.getD (j-1) default=S[j-1]:=(by simp[List.getD,show j-1<S.length by omega]);rw[this] at h0;exact h0
   ·have h1:=Z6.1 hs i (j-1) (by omega) (by omega) (by omega);have h2:S.getD (j-1) default=S[j-1]:=(by simp[List.getD,show j-1<S.length by omega]);rw[h2] at h0;rw[beB] at h0 h1 ⊢;omega
 ·obtain⟨i,hi,rfl⟩:=bqY.1 hb;rw[List.getElem_drop];have:=hB (j+i) (by omega) (by simp at hi;omega);simpa [List.getD,show j+i<S.length by simp at hi;omega] using this
end Go.AM
namespace Go.Proofs.YtmccpdapaccnoaaGreat
open Go Go.AM
attribute [local irreducible] aM wv aB vd wvH
section
variable {H : aA} {nx : Nat} {K : D → aA → Nat → Prop}
theorem a42 {l:List Job} {m cap i0:Nat} (hl:l.length<2^21) (hi:i0<nx) (o0:H i0=some ⟨5,m,l.map aS⟩)
 (h: ∀H' nx',nx≤nx'→H' i0=some ⟨5,m,(jX l).map aS⟩→(∀id,id<nx→id≠i0→H' id=H id)→K (.tup []) H' nx'):
 aB Tryz.prog cL [.one (.c (.osl 5 i0 0 l.length cap)),boP 0,boP l.length,.one (.c (.clo bJ []))] H nx K:=by
 refine mY rfl fun Q hQ=> ?_
 unfold dU
 repeat' first|apply bn1<;>(simp only[go_sem];try simp (disch:=omega) only[Iw])|fail
 refine aM.gP (β:=Nat) (fun k=>en [(8,boP k),(3,.one (.c (.clo bJ []))),(2,boP l.length),(1,boP 0),(0,.one (.c (.osl 5 i0 0 l.length cap)))])
  (fun k H1 _=>1≤k∧(k≤1∨k≤l.length)∧H1 i0=some ⟨5,m,(A5 l k++l.drop k).map aS⟩∧ ∀id,id<nx→id≠i0→H1 id=H id) (fun k=>l.length+1-k) 1
  ⟨noF,_,by repeat' first|exact bo2|refine xqI rfl rfl ?_|refine xqO (by omega) rfl rfl (by rfl) ?_| (with_reducible apply bo3)| ((with_reducible apply bo0);exact bpG (by rfl))| ((with_reducible apply bo1);apply bo7)|fail,aK,by omega,.inl (by omega),by rw[ah3,boN];exact o0,fun _ _ _=>rfl⟩ ?_
 rintro k H1 nx1 hnx ⟨hk1,hk2,bqC,hfr⟩ bpQ hKL
 by_cases hlt:k<l.length
 ·repeat' first|apply bn1<;>(simp only[go_sem])|apply bn2 (by omega)|fail
  obtain⟨S,hS⟩: ∃S,S=A5 l k:=⟨_,rfl⟩
  have hSl:S.length=k:=by rw[hS];exact ahI (by omega)
  obtain⟨x,hx⟩: ∃x,x=l.getD k default:=⟨_,rfl⟩
  have hd:l.drop k=x::l.drop (k+1):=by rw[brB hlt,hx];simp[List.getD,hlt]
  refine aM.gP (β:=Nat) (fun j=>en [(9,boP j),(8,boP k),(3,.one (.c (.clo bJ []))),(2,boP l.length),(1,boP 0),(0,.one (.c (.osl 5 i0 0 l.length cap)))])
   (fun j H2 _=>j≤k∧H2 i0=some ⟨5,m,(MS S x j++l.drop (k+1)).map aS⟩∧(∀i,j≤i→i<S.length→uL x (S.getD i default)=true)∧ ∀id,id<nx→id≠i0→H2 id=H id) (fun j=>j) k
   ⟨noF,_,by repeat' first|exact bo2|refine xqI rfl rfl ?_|refine xqO (by omega) rfl rfl (by rfl) ?_| (with_reducible apply bo3)| ((with_reducible apply bo0);exact bpG (by rfl))| ((with_reducible apply bo1);apply bo7)|fail,aK,m5 _,?_,fun i h1 h2=>by omega,hfr⟩ ?_
  ·rw[bqC,←hS,hd];unfold MS;rw[boL (show S.length≤k by omega),show S.drop k=[] from brZ (by omega)];simp
  rintro j H2 nx2 hnx2 ⟨hj,bfZ,hB,hfr2⟩ bqG hKM;have hLl:(MS S x j++l.drop (k+1)).length=l.length:=by rw[t2,amF (by omega),CI];omega
  have hk0: ∀b,(i0=nx2+b)=False:=fun b=>eq_false (by omega);have hk0': ∀b,(nx2+b=i0)=False:=fun b=>eq_false (by omega);have hback: ∀{e:Env} {H':aA} {n':Nat},nx2≤n'→(j=0∨uL x (S.getD (j-1) default)=false)→H'=H2→CvE H' noF id n' (en [(8,boP (k+1)),(3,.one (.c (.clo bJ []))),(2,boP l.length),(1,boP 0),(0,.one (.c (.osl 5 i0 0 l.length cap)))]) e→bpQ e H' n':=fun h1 h2 h3 h4=>by subst h3;refine hKL _ _ _ (k+1) noF _ (by omega) (by omega) h4 aK ⟨by omega,.inr (by omega),?_,hfr2⟩;rw[bfZ,beW (by omega) (by rw[hS];exact bd2 _) h2 hB,hS,ac8 hlt,hx]
  by_cases hj0:0<j
  ·have hat:=anT (S:=S) (R:=l.drop (k+1)) (x:=x) (j:=j) (by omega);have hah:=adY (S:=S) (R:=l.drop (k+1)) (x:=x) hj0 (by omega);have hsw:=ah1 (S:=S) (R:=l.drop (k+1)) (x:=x) hj0 (by omega);have ej:((j:Int)-1).toNat=j-1:=(by omega);repeat' first| (first|apply bn1|apply bpJ (by omega)|apply xM)<;>(simp only[go_sem,bfZ,hat,hah,ej,hLl,hk0,hk0'];try simp (disch:=omega) only[Iw])|refine bnE (fun h=> ?_) fun h=> ?_|refine⟨by omega,?_⟩|fail
   ·exact hKM _ _ _ (j-1) noF _ (by omega) (by omega) (by repeat' first|exact bo2|refine xqI rfl rfl ?_|refine xqO (by omega) rfl rfl (by rfl) ?_|refine xqV rfl (by omega) ?_| (with_reducible apply bo3)| ((with_reducible apply bo0);exact bpG (by rfl))| ((with_reducible apply bo1);apply bo7)|fail) aK ⟨by omega,by rw[hsw];exact aA.bH,fun i h1 h2=>by
     by_cases he:i=j-1
     ·subst he;exact E7.1 (by assumption)
     ·exact hB i (by omega) h2,fun id boU e1=>by rw[aA.aC e1];exact hfr2 id boU e1⟩
   ·exact hback (by omega) (.inr (by rw[←Bool.not_eq_true,←E7];assumption)) rfl (by repeat' first|exact bo2|refine xqI rfl rfl ?_|refine xqO (by omega) rfl rfl (by rfl) ?_| (with_reducible apply bo3)| ((with_reducible apply bo0);exact bpG (by rfl))| ((with_reducible apply bo1);apply bo7)|fail)
  ·repeat' first| (first|apply bn1|apply bpK (by omega))<;>(simp only[go_sem];try simp (disch:=omega) only[Iw])|fail
   exact hback (by omega) (.inl (by omega)) rfl (by repeat' first|exact bo2|refine xqI rfl rfl ?_|refine xqO (by omega) rfl rfl (by rfl) ?_| (with_reducible apply bo3)| ((with_reducible apply bo0);exact bpG (by rfl))| ((with_reducible apply bo1);apply bo7)|fail)
 ·repeat' first|apply bn1<;>(simp only[go_sem])|apply bn3 (by omega)|fail
  have hd:A5 l k++l.drop k=jX l:=by rw[brZ (by omega),bq6,←aiE];unfold A5;rw[boL (by omega),boL (by omega)]
  rw[hd] at bqC;exact hQ _ _ _ _ _ (.inl rfl) rfl (h _ _ (by omega) bqC hfr)
theorem bb2 {l:List Job} {m cap i0:Nat} (hl:l.length<20) (hi:i0<nx) (o0:H i0=some ⟨5,m,l.map aS⟩)
 (h: ∀H' nx',nx≤nx'→H' i0=some ⟨5,m,(jX l).map aS⟩→(∀id,id<nx→id≠i0→H' id=H id)→K (.tup []) H' nx'):
 aB Tryz.prog gL [.one (.c (.osl 5 i0 0 l.length cap)),boP l.length,.one (.c (.clo bJ []))] H nx K:=by
 refine tL rfl fun Q hQ=> ?_
 unfold gA
 repeat' first|apply bn1<;>(simp only[go_sem])|fail
 refine aM.gP (β:=Unit) (fun _=>en [(8,boP 20),(7,boP 0),(6,boP 20),(2,.one (.c (.clo bJ []))),(1,boP l.length),(0,.one (.c (.osl 5 i0 0 l.length cap)))]) (fun _ H1 _=>H1=H) (fun _=>0) () ⟨noF,_,by repeat' first|exact bo2|refine xqI rfl rfl ?_|refine xqO (by omega) rfl rfl (by rfl) ?_| (with_reducible apply bo3)| ((with_reducible apply bo0);exact bpG (by rfl))| ((with_reducible apply bo1);apply bo7)|fail,aK,rfl⟩ ?_
 rintro u H1 nx1 hnx rfl bpQ hKL
 repeat' first| (first|apply bn1|refine a42 (by omega) (by omega) o0 (fun H' nx' hx' bfZ ffr=> ?_))<;>(simp only[go_sem])|apply bn3 (by omega)|fail
 refine aM.gP (β:=Unit) (fun _=>en [(6,boP 20),(2,.one (.c (.clo bJ []))),(1,boP l.length),(0,.one (.c (.osl 5 i0 0 l.length cap)))]) (fun _ H2 _=>H2=H') (fun _=>0) () ⟨noF,_,by repeat' first|exact bo2|refine xqI rfl rfl ?_|refine xqO (by omega) rfl rfl (by rfl) ?_| (with_reducible apply bo3)| ((with_reducible apply bo0);exact bpG (by rfl))| ((with_reducible apply bo1);apply bo7)|fail,aK,rfl⟩ ?_
 rintro u H2 nx2 hnx2 rfl bqG hKM
 repeat' first|apply bn1<;>(simp only[go_sem])|apply bn3 (by omega)|fail
 exact hQ _ _ _ _ _ (.inl rfl) rfl (h _ _ (by omega) bfZ fun id boU e1=>ffr id (by omega) e1)
theorem a3D {l:List Job} {m cap i0:Nat} (hl:l.length<20) (hi:i0<nx) (o0:H i0=some ⟨5,m,l.map aS⟩)
 (h: ∀H' nx',nx≤nx'→H' i0=some ⟨5,m,(jX l).map aS⟩→(∀id,id<nx→id≠i0→H' id=H id)→K (.tup []) H' nx'):
 aB Tryz.prog cG [.one (.c (.osl 5 i0 0 l.length cap)),.one (.c (.clo bJ []))] H nx K:=by
 refine mA rfl fun Q hQ=> ?_
 unfold dF
 repeat' first| (first|apply bn1|refine bb2 hl (by omega) o0 (fun H' nx' hx' bfZ ffr=> ?_))<;>(simp only[go_sem])|fail
 exact hQ _ _ _ _ _ (.inl rfl) rfl (h _ _ (by omega) bfZ fun id boU e1=>ffr id (by omega) e1)
end
end Go.Proofs.YtmccpdapaccnoaaGreat
