/- Texts laid together by a program: rules, contracts and the walk that leads to the law. -/
import Derived.Test.YtmccpdapaccnoaaGreatPT6
import Derived.Test.YtmccpdapaccnoaaGreatPT4
import Derived.Test.YtmccpdapaccnoaaGreatPT3
set_option linter.unusedVariables false
set_option linter.unusedSimpArgs false
set_option linter.unusedSectionVars false
set_option maxRecDepth 100000
set_option maxHeartbeats 8000000
namespace Go.Proofs.YtmccpdapaccnoaaGreat
open Go Go.AM
attribute [local irreducible] aM wv aB vd wvH
section
variable {H : aA} {nx : Nat} {K : D → aA → Nat → Prop}
theorem RI (l:List Int) (p:Nat) (hl:kZ l) (hp50:p+7<2^50):aB Tryz.prog qM [bkP 2 0] (hp [(0,rdO l p)]) 1
 fun rr H' n'=>n'=1∧ ∃o',H'=hp [(0,o')]∧C7 o'∧ ∃(p':Nat) (x:Int),o'=rdO l p'∧p≤p'∧p'≤p+7∧rr=boP x∧(0≤x∧x≤63):=by
 refine N4 rfl fun Q hQ=> ?_
 unfold vH
 repeat' first| (first|apply bn1|refine aX hl (by omega) (by omega) (by omega) rfl (fun x h1 h2=> ?_))<;>(simp only[go_sem];try simp (disch:=omega) only[Iw])|refine⟨by omega,?_⟩|fail
 have hx:x=0∨x=1∨x=2∨x=3∨x=4∨x=5∨x=6∨x=7:=by omega
 rcases hx with rfl|rfl|rfl|rfl|rfl|rfl|rfl|rfl
 all_goals simp only[go_sem];try simp (disch:=omega) only[Iw]
 all_goals repeat' first|apply bn1<;>(simp only[go_sem])|refine⟨by omega,?_⟩|fail
 all_goals exact lA hQ (boP _) _ _ rfl (aE rfl) rfl (aV _ _) ⟨_,_,rfl,by omega,by omega,rfl,by omega,by omega⟩
variable{l:List Int}
theorem SE{p i:Nat} (hl:kZ l) (hp50:p+7<2^50) (hi:i<nx) (ho:H i=some (rdO l p)) (h: ∀(p':Nat) (x:Int),p≤p'→p'≤p+7→(0≤x∧x≤63)→K (boP x) (H.set i (rdO l p')) nx):
 aB Tryz.prog qM [bkP 2 i] H nx K:=
 (RI l p hl hp50).OU i rfl (gW ⟨DG (by omega) rfl,trivial⟩) hi ho (aV l p) fun r o' ⟨p',x,h1,h2,h3,h4,h5⟩=>by
  subst h1;subst h4;exact EW (A:=fun d=>K d (H.set i (rdO l p')) nx) rfl (h p' x h2 h3 h5)
theorem TX (l:List Int) (p:Nat) (hl:kZ l) (hp50:p+8<2^50):aB Tryz.prog tN [bkP 2 0,boP 99999] (hp [(0,rdO l p)]) 1
 fun rr H' n'=>n'=1∧ ∃o',H'=hp [(0,o')]∧C7 o'∧ ∃(p':Nat) (m:List Rng),o'=rdO l p'∧p≤p'∧p'≤p+8∧rr=dS (m.map eN)∧(DH m):=by
 refine RN rfl fun Q hQ=> ?_
 unfold w9
 repeat' first| (first|apply bn1|refine aX hl (by omega) (by omega) (by omega) rfl (fun x h1 h2=> ?_)|refine uA (by omega) rfl ?_)<;>(simp only[go_sem];try simp (disch:=omega) only[Iw])|refine bnE (fun h=> ?_) fun h=> ?_|refine⟨by omega,?_⟩|fail
 ·exact lA hQ (dS ((al2 _ _).map eN)) _ _ rfl (yP (l:=al2 _ _) K3 rfl rfl (by simp[al2]) (by decide)) rfl (aV _ _) ⟨_,al2 _ _,rfl,by omega,by omega,rfl,apM _ _ (by omega)⟩
 ·have hx:x=0∨x=1∨x=2:=by omega
  rcases hx with rfl|rfl|rfl
  ·exact lA hQ (dS (((E9 false).take 1).map eN)) _ _ rfl (DJ (rows:=((E9 false).take 1).map eN) (aG K3 _) rfl (by decide) rfl rfl rfl (by simp[E9])) rfl (aV _ _) ⟨_,(E9 false).take 1,rfl,by omega,by omega,rfl,PO _ 1 (by decide)⟩
  ·exact lA hQ (dS (((E9 false).take 2).map eN)) _ _ rfl (DJ (rows:=((E9 false).take 2).map eN) (aG K3 _) rfl (by decide) rfl rfl rfl (by simp[E9])) rfl (aV _ _) ⟨_,(E9 false).take 2,rfl,by omega,by omega,rfl,PO _ 2 (by decide)⟩
  ·exact lA hQ (dS (((E9 _).take 3).map eN)) _ _ rfl (DJ (rows:=((E9 _).take 3).map eN) (aG K3 _) rfl (by decide) rfl rfl rfl (by simp[E9])) rfl (aV _ _) ⟨_,(E9 _).take 3,rfl,by omega,by omega,rfl,PO _ 3 (by decide)⟩
 ·exact lA hQ (dS (((E9 _).take 3).map eN)) _ _ rfl (DJ (rows:=((E9 _).take 3).map eN) (aG K3 _) rfl (by decide) rfl rfl rfl (by simp[E9])) rfl (aV _ _) ⟨_,(E9 _).take 3,rfl,by omega,by omega,rfl,PO _ 3 (by decide)⟩
theorem IV{p i:Nat} (hl:kZ l) (hp50:p+8<2^50) (hi:i<nx) (ho:H i=some (rdO l p)) (h: ∀(p':Nat) (m:List Rng),p≤p'→p'≤p+8→(DH m)→K (dS (m.map eN)) (H.set i (rdO l p')) nx):
 aB Tryz.prog tN [bkP 2 i,boP 99999] H nx K:=
 (TX l p hl hp50).OU i rfl (gW ⟨DG (by omega) rfl,aE rfl,trivial⟩) hi ho (aV l p) fun r o' ⟨p',m,h1,h2,h3,h4,h5⟩=>by
  subst h1;subst h4;exact EW (A:=fun d=>K d (H.set i (rdO l p')) nx) rfl (h p' m h2 h3 h5)
theorem aPB{p:Nat}{Q:AQ} (hQ: ∀ex e2 H2 nx2 d nh d2 H3 F σ,ex=AEx.normal∨ex=AEx.ret→yT H2 e2 GO=some d→CvR 1 d H2 nh d2 H3 F σ→(nh=1∧ ∃o',H3=hp [(0,o')]∧C7 o'∧ ∃(p':Nat) (m:List Rng),o'=rdO l p'∧p≤p'∧p'≤p+20∧d2=dS (m.map eN)∧(m.length≤8))→Q ex e2 H2 nx2)
 {e2:Env} {H2:aA} {nx2 b n cap ext p':Nat} {rows:List (List D1)} {m:List Rng} (h1:yT H2 e2 GO=some (.one (.c (.osl 4 b 0 n cap)))) (h2:H2 0=some (rdO l p')) (h3:H2 b=some ⟨4,ext,rows⟩) (h4:p≤p') (h5:p'≤p+20) (h6:rows.take n=m.map eN) (h7:m.length≤8∧n≤cap∧b≠0∧n≤rows.length):Q .ret e2 H2 nx2:=by
 obtain⟨h7,h8,h9,h10⟩:=h7
 have hn:n=(m.map eN).length:=by rw[←h6];simp;omega
 exact lA hQ (dS (m.map eN)) _ _ h1 (DJ (rows:=m.map eN) (aG K3 _) hn h9 h3 rfl (by rw[←hn];exact h6) (by omega)) h2 (aV _ _) ⟨p',m,rfl,h4,h5,rfl,h7⟩
theorem aPJ (l:List Int) (p:Nat) (n:Int) (hn:0<n∧n<9000) (hl:kZ l) (hp50:p+1<2^50):aB Tryz.prog kE [bkP 2 0,boP n] (hp [(0,rdO l p)]) 1
 fun rr H' n'=>n'=1∧ ∃o',H'=hp [(0,o')]∧C7 o'∧ ∃(p':Nat) (b:Bool),o'=rdO l p'∧p≤p'∧p'≤p+1∧rr=dB b∧(True):=by
 refine LF rfl fun Q hQ=> ?_
 unfold rH
 repeat' first| (first|apply bn1|apply bpJ (by omega)|refine aX hl (by omega) (by omega) (by omega) rfl (fun x h1 h2=> ?_))<;>(simp only[go_sem];try simp (disch:=omega) only[Iw])|fail
 exact lA hQ (dB _) _ _ rfl (aE rfl) rfl (aV _ _) ⟨_,_,rfl,by omega,by omega,rfl,trivial⟩
theorem d6{p i:Nat}{n:Int} (hn:0<n∧n<9000) (hl:kZ l) (hp50:p+1<2^50) (hi:i<nx) (ho:H i=some (rdO l p)) (h: ∀(p':Nat) (b:Bool),p≤p'→p'≤p+1→(True)→K (dB b) (H.set i (rdO l p')) nx):
 aB Tryz.prog kE [bkP 2 i,boP n] H nx K:=
 (aPJ l p n hn hl hp50).OU i rfl (gW ⟨DG (by omega) rfl,aE rfl,trivial⟩) hi ho (aV l p) fun r o' ⟨p',b,h1,h2,h3,h4,h5⟩=>by
  subst h1;subst h4;exact EW (A:=fun d=>K d (H.set i (rdO l p')) nx) rfl (h p' b h2 h3 h5)
theorem aQP (l:List Int) (p:Nat) (hl:kZ l) (hp50:p+20<2^50):aB Tryz.prog tN [bkP 2 0,boP 1] (hp [(0,rdO l p)]) 1
 fun rr H' n'=>n'=1∧ ∃o',H'=hp [(0,o')]∧C7 o'∧ ∃(p':Nat) (m:List Rng),o'=rdO l p'∧p≤p'∧p'≤p+20∧rr=dS (m.map eN)∧(m.length≤8):=by
 refine RN rfl fun Q hQ=> ?_
 unfold w9
 repeat' first| (first|apply bn1|refine aX hl (by omega) (by omega) (by omega) rfl (fun x h1 h2=> ?_))<;>(simp only[go_sem];try simp (disch:=omega) only[Iw])|refine bnE (fun h=> ?_) fun h=> ?_|refine⟨by omega,?_⟩|fail
 case' refine_2.refine_1=>(have hx:x=0∨x=1∨x=2:=by omega);rcases hx with rfl|rfl|rfl
 all_goals (refine(fun(h: ∀b:Bool,_)=>d6 (n:=1) (by omega) hl (by omega) (by omega) rfl (fun p1 b hp1 hp2 _=> ?_)) (fun _=>trivial);cases b)
 all_goals (simp only[go_sem];try apply bn0)
 all_goals repeat' first|apply bn1<;>(simp only[go_sem])|fail
 all_goals first
  | (refine aX hl (by omega) (by omega) (by omega) rfl (fun k hk1 hk2=> ?_)
     have hk:k=0∨k=1∨k=2∨k=3:=by omega
     rcases hk with rfl|rfl|rfl|rfl
     all_goals first| (exfalso;omega)| (simp only[go_sem];try apply bn0))
  |skip
 all_goals try repeat' first| (first|apply bn1|refine aX hl (by omega) (by omega) (by omega) rfl (fun x h1 h2=> ?_))<;>(simp only[go_sem];try simp (disch:=omega) only[Iw])|refine bnE (fun h=> ?_) fun h=> ?_| (with_reducible first|refine fun(cap:Nat) (hcap:_≤cap)=> ?_|refine fun(hcp:_≤cap)=> ?_)|refine⟨by omega,?_⟩|fail
 all_goals first
  | (have hx:x=0∨x=1∨x=2:=by omega
     rcases hx with rfl|rfl|rfl
     all_goals first| (exfalso;omega)| (simp only[go_sem];try simp (disch:=omega) only[Iw];(refine⟨by omega,bn0 ?_⟩);repeat' first|apply bn1<;>(simp only[go_sem])|fail)|skip)
  |skip
 all_goals try refine⟨by omega,?_⟩
 all_goals try (try apply bn0;repeat' first|apply bn1<;>(simp only[go_sem])|fail)
 all_goals first
  |exact aPB hQ (m:=[⟨_,_,_,_⟩]) rfl rfl rfl (by omega) (by omega) rfl ⟨by simp,by omega,by decide,by simp⟩
  |exact aPB hQ (m:=[⟨_,_,_,_⟩,⟨_,_,_,_⟩]) rfl rfl rfl (by omega) (by omega) rfl ⟨by simp,by omega,by decide,by simp⟩
  |exact aPB hQ (m:=[⟨_,_,_,_⟩,⟨_,_,_,_⟩,⟨_,_,_,_⟩]) rfl rfl rfl (by omega) (by omega) rfl ⟨by simp,by omega,by decide,by simp⟩
  |exact aPB hQ (m:=[⟨_,_,_,_⟩,⟨_,_,_,_⟩,⟨_,_,_,_⟩,⟨_,_,_,_⟩]) rfl rfl rfl (by omega) (by omega) rfl ⟨by simp,by omega,by decide,by simp⟩
  |exact aPB hQ (m:=[⟨_,_,_,_⟩,⟨_,_,_,_⟩,⟨_,_,_,_⟩,⟨_,_,_,_⟩,⟨_,_,_,_⟩]) rfl rfl rfl (by omega) (by omega) rfl ⟨by simp,by omega,by decide,by simp⟩
  |exact aPB hQ (m:=[⟨_,_,_,_⟩,⟨_,_,_,_⟩,⟨_,_,_,_⟩,⟨_,_,_,_⟩,⟨_,_,_,_⟩,⟨_,_,_,_⟩]) rfl rfl rfl (by omega) (by omega) rfl ⟨by simp,by omega,by decide,by simp⟩
  |exact aPB hQ (m:=[⟨_,_,_,_⟩,⟨_,_,_,_⟩,⟨_,_,_,_⟩,⟨_,_,_,_⟩,⟨_,_,_,_⟩,⟨_,_,_,_⟩,⟨_,_,_,_⟩]) rfl rfl rfl (by omega) (by omega) rfl ⟨by simp,by omega,by decide,by simp⟩
theorem aQQ{p i:Nat} (hl:kZ l) (hp50:p+20<2^50) (hi:i<nx) (ho:H i=some (rdO l p)) (h: ∀(p':Nat) (m:List Rng),p≤p'→p'≤p+20→(m.length≤8)→K (dS (m.map eN)) (H.set i (rdO l p')) nx):
 aB Tryz.prog tN [bkP 2 i,boP 1] H nx K:=
 (aQP l p hl hp50).OU i rfl (gW ⟨DG (by omega) rfl,aE rfl,trivial⟩) hi ho (aV l p) fun r o' ⟨p',m,h1,h2,h3,h4,h5⟩=>by
  subst h1;subst h4;exact EW (A:=fun d=>K d (H.set i (rdO l p')) nx) rfl (h p' m h2 h3 h5)
end
end Go.Proofs.YtmccpdapaccnoaaGreat
namespace Go.AM
theorem aN1 {L:List (List D1)} (h: ∀r∈L,∃v:Int,r=[.v (.int .i64 v)]) {x:Int} (h1:0≤x) (h2:x<L.length): ∃v:Int,L[x.toNat]?=some [.v (.int .i64 v)]:=by
 have h3:x.toNat<L.length:=by omega
 obtain⟨v,hv⟩:=h _ (Z5 h3)
 exact⟨v,by rw[n1 h3,hv]⟩
theorem Y1 {L:List (List D1)} {lo hi:Int} (h: ∀r∈L,∃v:Int,r=[.v (.int .i64 v)]∧lo≤v∧v≤hi) {x:Int} (h1:0≤x) (h2:x<L.length): ∃v:Int,L[x.toNat]?=some [.v (.int .i64 v)]∧lo≤v∧v≤hi:=by
 have h3:x.toNat<L.length:=by omega
 obtain⟨v,hv,hb⟩:=h _ (Z5 h3)
 exact⟨v,by rw[n1 h3,hv],hb⟩
end Go.AM
namespace Go.Proofs.YtmccpdapaccnoaaGreat
open Go Go.AM
attribute [local irreducible] aM wv aB vd wvH
section
variable {H : aA} {nx : Nat} {K : D → aA → Nat → Prop}
def rq0 (id kind addr many:Int) (wrap:Bool):List D1:=[cI id,cI kind,cI addr,cI many,cB wrap,.osl 0 0 0 0 0,.osl 0 0 0 0 0]
structure Rq where
 id:Int
 kind:Int
 addr:Int
 many:Int
 wrap:Bool
 p:Nat
def rqB (b1 b2 c1 c2:Nat) (q:Req):List D1:=[cI q.id,cI q.kind,cI q.addr,cI q.many,cB q.wrap,.osl 1 b1 0 q.data.length c1,.osl 1 b2 0 q.g6.length c2]
variable{l:List Int}
theorem aSU{n:Int}{p:Nat}{Q:AQ} (hQ: ∀ex e2 H2 nx2 d nh d2 H3 F σ,ex=AEx.normal∨ex=AEx.ret→yT H2 e2 E5=some d→CvR 1 d H2 nh d2 H3 F σ→(nh=1∧ ∃o',H3=hp [(0,o')]∧C7 o'∧ ∃(p':Nat) (q:Req),o'=rdO l p'∧p≤p'∧p'≤p+45∧d2=boR (eB q)∧((n=99999→dH q∧p'≤p+40)∧q.data.length≤8∧q.g6.length≤8))→Q ex e2 H2 nx2)
 {e2:Env} {H2:aA} {nx2 b1 b2 bp0 n2 c1 c2 m1 bp3 p':Nat} {id kind addr many:Int} {wrap:Bool} {D L:List Int} (h1:yT H2 e2 E5=some (boR [cI id,cI kind,cI addr,cI many,cB wrap,.osl 1 b1 0 bp0 c1,.osl 1 b2 0 n2 c2])) (h2:H2 0=some (rdO l p')) (h3:H2 b1=some ⟨1,m1,D.map aJ⟩) (h4:H2 b2=some ⟨1,bp3,L.map aJ⟩)
 (h5:p≤p'∧p'≤p+45) (h6:bp0=D.length∧n2=L.length) (h7:bp0≤c1∧n2≤c2∧b1≠0∧b2≠0∧bp0≤8∧n2≤8) (h13:n=99999→dH ⟨id,kind,addr,many,wrap,D,L⟩∧p'≤p+40):Q .ret e2 H2 nx2:=by
 obtain⟨h7,h8,h9,h10,h11,h12⟩:=h7
 obtain⟨rfl,rfl⟩:=h6
 exact lA hQ (boR (eB ⟨id,kind,addr,many,wrap,D,L⟩)) _ _ h1 (aH (bB rfl) (aH (bB rfl) (aH (bB rfl) (aH (bB rfl) (aH (bB rfl) (aH (bW bF h3 rfl h7 (by simpa using h9)) (aH (bW bF h4 rfl h8 (by simpa using h10)) eP))))))) h2 (aV _ _) ⟨p',_,rfl,h5.1,h5.2,rfl,h13,h11,h12⟩
theorem Y0 (l:List Int) (p:Nat) (n:Int) (hn:n=99999∨0<n∧n<9000) (hl:kZ l) (hp50:p+45<2^50):aB Tryz.prog tS [bkP 2 0,boP n] (hp [(0,rdO l p)]) 1
 fun rr H' n'=>n'=1∧ ∃o',H'=hp [(0,o')]∧C7 o'∧ ∃(p':Nat) (q:Req),o'=rdO l p'∧p≤p'∧p'≤p+45∧rr=boR (eB q)∧((n=99999→dH q∧p'≤p+40)∧q.data.length≤8∧q.g6.length≤8):=by
 refine QN rfl fun Q hQ=> ?_
 unfold xW
 (apply boB);(simp only[go_sem];try simp (disch:=omega) only[Iw]);(apply bn0)
 refine aM.join 2 (α:={u:Rq//(0≤u.id∧u.id≤1)∧(1≤u.kind∧u.kind≤4)∧(0≤u.addr∧u.addr≤63)∧(u.many=1∨u.many=2∨u.many=4)∧p≤u.p∧u.p≤p+11})
  (fun b u=>en [(5,bkP 7 (b+1)),(4,bkP 7 b),(1,boP n),(0,bkP 2 0)]) (fun b u=>hp [(0,rdO l u.1.p),(b,⟨7,1,[rq0 0 0 0 0 false]⟩),(b+1,⟨7,1,[rq0 u.1.id u.1.kind u.1.addr u.1.many u.1.wrap]⟩)]) (fun bkT hKJ=> ?_) ?_
 ·repeat' first| (first|apply bn1|refine aX hl (by omega) (by omega) (by omega) rfl (fun x h1 h2=> ?_)|refine SE hl (by omega) (by omega) rfl (fun pa xa ha1 ha2 ha3=> ?_))<;>(simp only[go_sem];try simp (disch:=omega) only[Iw])|refine⟨by omega,?_⟩|fail
  have hx:x=0∨x=1∨x=2∨x=3:=by omega
  rcases hx with rfl|rfl|rfl|rfl
  all_goals simp only[go_sem];try simp (disch:=omega) only[Iw]
  all_goals repeat' first| (first|apply bn1|refine aX hl (by omega) (by omega) (by omega) rfl (fun x h1 h2=> ?_))<;>(simp only[go_sem])|fail
  all_goals rename_i id hid1 hid2 kind hkind1 hkind2 _ _
  ·refine hKJ _ _ _ ⟨⟨id,1+kind,xa,1,decide (x=0),pa+1+1⟩,by dsimp only;omega,by dsimp only;omega,by dsimp only;omega,by dsimp only;omega,by dsimp only;omega,by dsimp only;omega⟩ (by(refine cR [1,18,0] (by omega) (by repeat' first|exact bo2|refine xqI rfl rfl ?_|refine xqP (by omega) rfl rfl ?_|fail) ⟨⟨by simp,by simp[sgL],_,rfl,bS (aV _ _)⟩,⟨by simp,by simp[sgL],_,rfl,aP (by(try unfold rq0);repeat' first|exact bo2| (with_reducible first|exact bo4|apply bo5)| ((with_reducible apply bo0);first|exact bo9 rfl|exact bpA)|fail)⟩,⟨by simp,by simp[sgL],_,rfl,aP (by(try unfold rq0);repeat' first|exact bo2| (with_reducible first|exact bo4|apply bo5)| ((with_reducible apply bo0);first|exact bo9 rfl|exact bpA)|fail)⟩,trivial⟩ (by simp[sgL])))
  ·refine hKJ _ _ _ ⟨⟨id,1+kind,xa,1,decide (x=0),pa+1+1⟩,by dsimp only;omega,by dsimp only;omega,by dsimp only;omega,by dsimp only;omega,by dsimp only;omega,by dsimp only;omega⟩ (by(refine cR [1,18,0] (by omega) (by repeat' first|exact bo2|refine xqI rfl rfl ?_|refine xqP (by omega) rfl rfl ?_|fail) ⟨⟨by simp,by simp[sgL],_,rfl,bS (aV _ _)⟩,⟨by simp,by simp[sgL],_,rfl,aP (by(try unfold rq0);repeat' first|exact bo2| (with_reducible first|exact bo4|apply bo5)| ((with_reducible apply bo0);first|exact bo9 rfl|exact bpA)|fail)⟩,⟨by simp,by simp[sgL],_,rfl,aP (by(try unfold rq0);repeat' first|exact bo2| (with_reducible first|exact bo4|apply bo5)| ((with_reducible apply bo0);first|exact bo9 rfl|exact bpA)|fail)⟩,trivial⟩ (by simp[sgL])))
  ·refine hKJ _ _ _ ⟨⟨id,1+kind,xa,2,decide (x=0),pa+1+1⟩,by dsimp only;omega,by dsimp only;omega,by dsimp only;omega,by dsimp only;omega,by dsimp only;omega,by dsimp only;omega⟩ (by(refine cR [1,18,0] (by omega) (by repeat' first|exact bo2|refine xqI rfl rfl ?_|refine xqP (by omega) rfl rfl ?_|fail) ⟨⟨by simp,by simp[sgL],_,rfl,bS (aV _ _)⟩,⟨by simp,by simp[sgL],_,rfl,aP (by(try unfold rq0);repeat' first|exact bo2| (with_reducible first|exact bo4|apply bo5)| ((with_reducible apply bo0);first|exact bo9 rfl|exact bpA)|fail)⟩,⟨by simp,by simp[sgL],_,rfl,aP (by(try unfold rq0);repeat' first|exact bo2| (with_reducible first|exact bo4|apply bo5)| ((with_reducible apply bo0);first|exact bo9 rfl|exact bpA)|fail)⟩,trivial⟩ (by simp[sgL])))
  ·refine hKJ _ _ _ ⟨⟨id,1+kind,xa,4,decide (x=0),pa+1+1⟩,by dsimp only;omega,by dsimp only;omega,by dsimp only;omega,by dsimp only;omega,by dsimp only;omega,by dsimp only;omega⟩ (by(refine cR [1,18,0] (by omega) (by repeat' first|exact bo2|refine xqI rfl rfl ?_|refine xqP (by omega) rfl rfl ?_|fail) ⟨⟨by simp,by simp[sgL],_,rfl,bS (aV _ _)⟩,⟨by simp,by simp[sgL],_,rfl,aP (by(try unfold rq0);repeat' first|exact bo2| (with_reducible first|exact bo4|apply bo5)| ((with_reducible apply bo0);first|exact bo9 rfl|exact bpA)|fail)⟩,⟨by simp,by simp[sgL],_,rfl,aP (by(try unfold rq0);repeat' first|exact bo2| (with_reducible first|exact bo4|apply bo5)| ((with_reducible apply bo0);first|exact bo9 rfl|exact bpA)|fail)⟩,trivial⟩ (by simp[sgL])))
 rintro⟨⟨id,kind,addr,many,wrap,q⟩,bpR,f2,bpS,bpT,bpU,bpV⟩
 dsimp only at bpR f2 bpS bpT bpU bpV
 refine aM.join 2 (α:={u:Rq//((0≤u.id∧u.id≤1)∧(1≤u.kind∧u.kind≤4)∧(0≤u.addr∧u.addr≤63)∧(u.many=1∨u.many=2∨u.many=4)∧p≤u.p∧u.p≤p+12)∧(3≤u.kind→u.many=1)})
  (fun b u=>en [(5,bkP 7 (b+1)),(4,bkP 7 b),(1,boP n),(0,bkP 2 0)]) (fun b u=>hp [(0,rdO l u.1.p),(b,⟨7,1,[rq0 0 0 0 0 false]⟩),(b+1,⟨7,1,[rq0 u.1.id u.1.kind u.1.addr u.1.many u.1.wrap]⟩)]) (fun bkT hKJ=> ?_) ?_
 ·repeat' first| (first|apply bn1|refine aX hl (by omega) (by omega) (by omega) rfl (fun x h1 h2=> ?_))<;>(simp only[go_sem,rq0])|refine bnE (fun h=> ?_) fun h=> ?_|refine⟨by omega,?_⟩|fail
  ·have hx:x=0∨x=1∨x=2∨x=3:=by omega
   rcases hx with rfl|rfl|rfl|rfl
   all_goals simp only[go_sem];try simp (disch:=omega) only[Iw]
   all_goals repeat' first|apply bn1<;>(simp only[go_sem])|fail
   ·refine hKJ _ _ _ ⟨⟨id,kind,0,1,wrap,q+1⟩,by dsimp only;omega,by dsimp only;omega⟩ (by(refine cR [2,3,0] (by omega) (by repeat' first|exact bo2|refine xqI rfl rfl ?_|refine xqP (by omega) rfl rfl ?_|fail) ⟨⟨by simp,by simp[sgL],_,rfl,bS (aV _ _)⟩,⟨by simp,by simp[sgL],_,rfl,aP (by(try unfold rq0);repeat' first|exact bo2| (with_reducible first|exact bo4|apply bo5)| ((with_reducible apply bo0);first|exact bo9 rfl|exact bpA)|fail)⟩,⟨by simp,by simp[sgL],_,rfl,aP (by(try unfold rq0);repeat' first|exact bo2| (with_reducible first|exact bo4|apply bo5)| ((with_reducible apply bo0);first|exact bo9 rfl|exact bpA)|fail)⟩,trivial⟩ (by simp[sgL])))
   ·refine hKJ _ _ _ ⟨⟨id,kind,1,1,wrap,q+1⟩,by dsimp only;omega,by dsimp only;omega⟩ (by(refine cR [2,3,0] (by omega) (by repeat' first|exact bo2|refine xqI rfl rfl ?_|refine xqP (by omega) rfl rfl ?_|fail) ⟨⟨by simp,by simp[sgL],_,rfl,bS (aV _ _)⟩,⟨by simp,by simp[sgL],_,rfl,aP (by(try unfold rq0);repeat' first|exact bo2| (with_reducible first|exact bo4|apply bo5)| ((with_reducible apply bo0);first|exact bo9 rfl|exact bpA)|fail)⟩,⟨by simp,by simp[sgL],_,rfl,aP (by(try unfold rq0);repeat' first|exact bo2| (with_reducible first|exact bo4|apply bo5)| ((with_reducible apply bo0);first|exact bo9 rfl|exact bpA)|fail)⟩,trivial⟩ (by simp[sgL])))
   ·refine hKJ _ _ _ ⟨⟨id,kind,16,1,wrap,q+1⟩,by dsimp only;omega,by dsimp only;omega⟩ (by(refine cR [2,3,0] (by omega) (by repeat' first|exact bo2|refine xqI rfl rfl ?_|refine xqP (by omega) rfl rfl ?_|fail) ⟨⟨by simp,by simp[sgL],_,rfl,bS (aV _ _)⟩,⟨by simp,by simp[sgL],_,rfl,aP (by(try unfold rq0);repeat' first|exact bo2| (with_reducible first|exact bo4|apply bo5)| ((with_reducible apply bo0);first|exact bo9 rfl|exact bpA)|fail)⟩,⟨by simp,by simp[sgL],_,rfl,aP (by(try unfold rq0);repeat' first|exact bo2| (with_reducible first|exact bo4|apply bo5)| ((with_reducible apply bo0);first|exact bo9 rfl|exact bpA)|fail)⟩,trivial⟩ (by simp[sgL])))
   ·refine hKJ _ _ _ ⟨⟨id,kind,32,1,wrap,q+1⟩,by dsimp only;omega,by dsimp only;omega⟩ (by(refine cR [2,3,0] (by omega) (by repeat' first|exact bo2|refine xqI rfl rfl ?_|refine xqP (by omega) rfl rfl ?_|fail) ⟨⟨by simp,by simp[sgL],_,rfl,bS (aV _ _)⟩,⟨by simp,by simp[sgL],_,rfl,aP (by(try unfold rq0);repeat' first|exact bo2| (with_reducible first|exact bo4|apply bo5)| ((with_reducible apply bo0);first|exact bo9 rfl|exact bpA)|fail)⟩,⟨by simp,by simp[sgL],_,rfl,aP (by(try unfold rq0);repeat' first|exact bo2| (with_reducible first|exact bo4|apply bo5)| ((with_reducible apply bo0);first|exact bo9 rfl|exact bpA)|fail)⟩,trivial⟩ (by simp[sgL])))
  ·refine hKJ _ _ _ ⟨⟨id,kind,addr,many,wrap,q⟩,by dsimp only;omega,by dsimp only;omega⟩ (by(refine cR [2,3,0] (by omega) (by repeat' first|exact bo2|refine xqI rfl rfl ?_|refine xqP (by omega) rfl rfl ?_|fail) ⟨⟨by simp,by simp[sgL],_,rfl,bS (aV _ _)⟩,⟨by simp,by simp[sgL],_,rfl,aP (by(try unfold rq0);repeat' first|exact bo2| (with_reducible first|exact bo4|apply bo5)| ((with_reducible apply bo0);first|exact bo9 rfl|exact bpA)|fail)⟩,⟨by simp,by simp[sgL],_,rfl,aP (by(try unfold rq0);repeat' first|exact bo2| (with_reducible first|exact bo4|apply bo5)| ((with_reducible apply bo0);first|exact bo9 rfl|exact bpA)|fail)⟩,trivial⟩ (by simp[sgL])))
 rintro⟨⟨id,kind,addr,many,wrap,q⟩,⟨bpR,f2,bpS,bpT,bpU,bpV⟩,bpW⟩
 dsimp only at bpR f2 bpS bpT bpU bpV bpW
 refine aM.join 2 (α:={u:Rq//((0≤u.id∧u.id≤1)∧(1≤u.kind∧u.kind≤4)∧p≤u.p∧u.p≤p+12)∧(3≤u.kind→u.many=1)∧o7 u.addr u.many u.wrap})
  (fun b u=>en [(5,bkP 7 (b+1)),(4,bkP 7 b),(1,boP n),(0,bkP 2 0)]) (fun b u=>hp [(0,rdO l u.1.p),(b,⟨7,1,[rq0 0 0 0 0 false]⟩),(b+1,⟨7,1,[rq0 u.1.id u.1.kind u.1.addr u.1.many u.1.wrap]⟩)]) (fun bkT hKJ=> ?_) ?_
 ·repeat' first| (first|apply bn1| (refine bpM (fun h=> ?_) (fun h=> ?_)<;>try subst h))<;>(simp only[go_sem,rq0];try simp (disch:=omega) only[Iw])|refine bnE (fun h=> ?_) fun h=> ?_|fail
  ·refine hKJ _ _ _ ⟨⟨id,kind,63-many+1,many,wrap,q⟩,by dsimp only;omega,by dsimp only;omega,by dsimp only;exact⟨by omega,by omega,.inr (by omega)⟩⟩ (by(refine cR [4,5,0] (by omega) (by repeat' first|exact bo2|refine xqI rfl rfl ?_|refine xqP (by omega) rfl rfl ?_|fail) ⟨⟨by simp,by simp[sgL],_,rfl,bS (aV _ _)⟩,⟨by simp,by simp[sgL],_,rfl,aP (by(try unfold rq0);repeat' first|exact bo2| (with_reducible first|exact bo4|apply bo5)| ((with_reducible apply bo0);first|exact bo9 rfl|exact bpA)|fail)⟩,⟨by simp,by simp[sgL],_,rfl,aP (by(try unfold rq0);repeat' first|exact bo2| (with_reducible first|exact bo4|apply bo5)| ((with_reducible apply bo0);first|exact bo9 rfl|exact bpA)|fail)⟩,trivial⟩ (by simp[sgL])))
  ·refine hKJ _ _ _ ⟨⟨id,kind,addr,many,wrap,q⟩,by dsimp only;omega,by dsimp only;omega,by dsimp only;exact⟨by omega,by omega,.inr (by omega)⟩⟩ (by(refine cR [4,5,0] (by omega) (by repeat' first|exact bo2|refine xqI rfl rfl ?_|refine xqP (by omega) rfl rfl ?_|fail) ⟨⟨by simp,by simp[sgL],_,rfl,bS (aV _ _)⟩,⟨by simp,by simp[sgL],_,rfl,aP (by(try unfold rq0);repeat' first|exact bo2| (with_reducible first|exact bo4|apply bo5)| ((with_reducible apply bo0);first|exact bo9 rfl|exact bpA)|fail)⟩,⟨by simp,by simp[sgL],_,rfl,aP (by(try unfold rq0);repeat' first|exact bo2| (with_reducible first|exact bo4|apply bo5)| ((with_reducible apply bo0);first|exact bo9 rfl|exact bpA)|fail)⟩,trivial⟩ (by simp[sgL])))
  ·refine hKJ _ _ _ ⟨⟨id,kind,addr,many,wrap,q⟩,by dsimp only;omega,by dsimp only;omega,by dsimp only;exact⟨by omega,by omega,.inl (by simp_all)⟩⟩ (by(refine cR [4,5,0] (by omega) (by repeat' first|exact bo2|refine xqI rfl rfl ?_|refine xqP (by omega) rfl rfl ?_|fail) ⟨⟨by simp,by simp[sgL],_,rfl,bS (aV _ _)⟩,⟨by simp,by simp[sgL],_,rfl,aP (by(try unfold rq0);repeat' first|exact bo2| (with_reducible first|exact bo4|apply bo5)| ((with_reducible apply bo0);first|exact bo9 rfl|exact bpA)|fail)⟩,⟨by simp,by simp[sgL],_,rfl,aP (by(try unfold rq0);repeat' first|exact bo2| (with_reducible first|exact bo4|apply bo5)| ((with_reducible apply bo0);first|exact bo9 rfl|exact bpA)|fail)⟩,trivial⟩ (by simp[sgL])))
 rintro⟨⟨id,kind,addr,many,wrap,q⟩,⟨bpR,f2,bpU,bpV⟩,bpW,bpX⟩
 dsimp only at bpR f2 bpU bpV bpW bpX
 have bpT:=bpX.1
 refine aM.EJ 1 (aM.EJ 1 ?_)
 refine aM.join 4 (α:={u:Req×Nat×Nat×Nat//(dH u.1∧u.1.data.length≤4∧u.1.g6.length≤4∧u.1.data.length≤u.2.2.1∧u.1.g6.length≤u.2.2.2)∧p≤u.2.1∧u.2.1≤p+40})
  (fun b u=>en [(5,bkP 7 (b+1)),(4,bkP 7 b),(1,boP n),(0,bkP 2 0)]) (fun b u=>hp [(0,rdO l u.1.2.1),(b,⟨7,1,[rq0 0 0 0 0 false]⟩),(b+1,⟨7,1,[rqB (b+2) (b+3) u.1.2.2.1 u.1.2.2.2 u.1.1]⟩),(b+2,⟨1,u.1.2.2.1,u.1.1.data.map aJ⟩),(b+3,⟨1,u.1.2.2.2,u.1.1.g6.map aJ⟩)]) (fun bkT hKJ=> ?_) ?_
 ·repeat' first| (first|apply bn1|refine bpL (fun h=> ?_) fun h=> ?_)<;>(simp only[go_sem,rq0])|refine bnE (fun h=> ?_) fun h=> ?_|fail
  rotate_left 2
  ·refine hKJ _ _ _ ⟨(⟨id,kind,addr,many,wrap,[],[]⟩,q,0,0),⟨⟨bpR,f2,bpX,?_,?_,?_,?_,by dsimp only;omega⟩,by simp,by simp,by simp,by simp⟩,by dsimp only;omega,by dsimp only;omega⟩ (by(refine cR [6,7,8,9,0] (by omega) (by repeat' first|exact bo2|refine xqI rfl rfl ?_|refine xqP (by omega) rfl rfl ?_|fail) ⟨⟨by simp,by simp[sgL],_,rfl,bS (aV _ _)⟩,⟨by simp,by simp[sgL],_,rfl,aP (by(try unfold rq0);repeat' first|exact bo2| (with_reducible first|exact bo4|apply bo5)| ((with_reducible apply bo0);first|exact bo9 rfl|exact bpA)|fail)⟩,⟨by simp,by simp[sgL],_,rfl,aP (by(try unfold rq0 rqB);repeat' first|exact bo2| (with_reducible first|exact bo4|apply bo5)| ((with_reducible apply bo0);first|exact bo9 rfl|exact bpA)|apply bo5|fail)⟩,⟨by simp,by simp[sgL],_,rfl,bP (aG bF _) rfl rfl⟩,⟨by simp,by simp[sgL],_,rfl,bP (aG bF _) rfl rfl⟩,trivial⟩ (by simp[sgL])))
   ·simp only[n5];rw[if_neg (by omega)];rfl
   ·simp only[n5];rw[if_neg (by omega)];rfl
   ·intro x hx;simp at hx
   ·intro x hx;simp at hx
  all_goals
   have hkind:kind=2∨kind=4:=by omega
   refine aM.sG 4 (β:=(Nat×Nat)×(List Int×Nat)×(List Int×Nat))
    (fun b u=>en [(6,boP u.1.1),(5,bkP 7 (b+1)),(4,bkP 7 b),(1,boP n),(0,bkP 2 0)])
    (fun b u=>hp [(0,rdO l u.1.2),(b,⟨7,1,[rq0 0 0 0 0 false]⟩),(b+1,⟨7,1,[[cI id,cI kind,cI addr,cI many,cB wrap,.osl 1 (b+2) 0 u.1.1 u.2.1.2,.osl 1 (b+3) 0 u.1.1 u.2.2.2]]⟩),(b+2,⟨1,u.2.1.2,u.2.1.1.map aJ⟩),(b+3,⟨1,u.2.2.2,u.2.2.1.map aJ⟩)])
    (fun u=>((u.1.1:Int)≤many∧u.1.2≤q+4*u.1.1∧q≤u.1.2)∧(u.2.1.1.length=u.1.1∧All u.2.1.1 0 65535∧u.1.1≤u.2.1.2)∧(u.2.2.1.length=u.1.1∧All u.2.2.1 0 3∧u.1.1≤u.2.2.2))
    (fun u=>many.toNat-u.1.1) ((0,q),([],0),([],0)) ?_ ⟨⟨by dsimp only;omega,by dsimp only;omega,by dsimp only;omega⟩,⟨rfl,by simp[All],by simp⟩,⟨rfl,by simp[All],by simp⟩⟩ ?_
   · (refine cR [6,7,8,9,0] (by omega) (by repeat' first|exact bo2|refine xqI rfl rfl ?_|refine xqP (by omega) rfl rfl ?_|fail) ⟨⟨by simp,by simp[sgL],_,rfl,bS (aV _ _)⟩,⟨by simp,by simp[sgL],_,rfl,aP (by unfold rq0;repeat' first|exact bo2| (with_reducible first|exact bo4|apply bo5)| ((with_reducible apply bo0);first|exact bo9 rfl|exact bpA)|fail)⟩,⟨by simp,by simp[sgL],_,rfl,aP (by(try unfold rq0);repeat' first|exact bo2| (with_reducible first|exact bo4|apply bo5)| ((with_reducible apply bo0);first|exact bo9 rfl|exact bpA)|fail)⟩,⟨by simp,by simp[sgL],_,rfl,bP (aG bF _) rfl rfl⟩,⟨by simp,by simp[sgL],_,rfl,bP (aG bF _) rfl rfl⟩,trivial⟩ (by simp[sgL]))
   ·rintro⟨⟨k,q'⟩,⟨da,ca⟩,⟨la,cl⟩⟩ ⟨⟨g1,g2,g3⟩,⟨g4,g5,bkU⟩,⟨bkV,bp4,bp5⟩⟩ bpQ hKL
    dsimp only at g1 g2 g3 g4 g5 bkU bkV bp4 bp5
    have hta:da.take k=da:=boL (by omega)
    have htl:la.take k=la:=boL (by omega)
    by_cases hlt:k<many.toNat
    ·repeat' first| (first|apply bn1|refine aX hl (by omega) (by omega) (by omega) rfl (fun x h1 h2=> ?_))<;>(simp only[go_sem,rq0];try simp (disch:=omega) only[Iw])|apply bn2 (by omega)|refine⟨by omega,?_⟩|fail
     rename_i xa xa1 xa2 xb xb1 xb2
     obtain⟨v,hv,hvb⟩:=Y1 (lo:=0) (hi:=65535) (L:=[[.v (.int .i64 (xa*257))],[.v (.int .i64 xb)],[.v (.int .i64 65535)],[.v (.int .i64 0)]]) (by intro r hr;simp only[t3,bq7,or_false] at hr;rcases hr with rfl|rfl|rfl|rfl<;>exact⟨_,rfl,by omega,by omega⟩) h1 (by simp;omega)
     simp only[go_sem,hv,hta]
     repeat' first| (first|apply bn1|refine aX hl (by omega) (by omega) (by omega) rfl (fun x h1 h2=> ?_))<;>(simp only[go_sem,hta,htl])| (with_reducible first|refine fun(cap:Nat) (hcap:_≤cap)=> ?_|refine fun(hcp:_≤cap)=> ?_)|refine⟨by omega,?_⟩|fail
     obtain⟨u,hu,hub⟩:=Y1 (lo:=0) (hi:=3) (L:=[[.v (.int .i64 3)],[.v (.int .i64 3)],[.v (.int .i64 1)],[.v (.int .i64 2)],[.v (.int .i64 0)]]) (by intro r hr;simp only[t3,bq7,or_false] at hr;rcases hr with rfl|rfl|rfl|rfl|rfl<;>exact⟨_,rfl,by omega,by omega⟩) h1 (by simp;omega)
     simp only[go_sem,hu,htl]
     repeat' first|apply bn1<;>(simp only[go_sem,hta,htl];try simp (disch:=omega) only[Iw])| (with_reducible first|refine fun(cap:Nat) (hcap:_≤cap)=> ?_|refine fun(hcp:_≤cap)=> ?_)|refine⟨by omega,?_⟩|fail
     exact hKL _ _ _ ((k+1,_),(da++[_],_),(la++[_],_)) (by omega) (by(refine cR [19,20,40,51,0] (by omega) (by repeat' first|exact bo2|refine xqI rfl rfl ?_|refine xqP (by omega) rfl rfl ?_|fail) ⟨⟨by simp,by simp[sgL],_,rfl,bS (aV _ _)⟩,⟨by simp,by simp[sgL],_,rfl,aP (by unfold rq0;repeat' first|exact bo2| (with_reducible first|exact bo4|apply bo5)| ((with_reducible apply bo0);first|exact bo9 rfl|exact bpA)|fail)⟩,⟨by simp,by simp[sgL],_,rfl,aP (by repeat' first|exact bo2| (with_reducible first|exact bo4|apply bo5)| ((with_reducible apply bo0);first|exact bo9 rfl|exact bpB (by omega) rfl rfl (by rfl) rfl)|fail)⟩,⟨by simp,by simp[sgL],_,rfl,bP (aG bF _) rfl rfl⟩,⟨by simp,by simp[sgL],_,rfl,bP (aG bF _) rfl rfl⟩,trivial⟩ (by simp[sgL])))
      ⟨⟨by dsimp only;omega,by dsimp only;omega,by dsimp only;omega⟩,⟨by simp;omega,KC g5 hvb.1 hvb.2,by dsimp only;omega⟩,⟨by simp;omega,KC bp4 hub.1 hub.2,by dsimp only;omega⟩⟩ (by dsimp only;omega)
    ·repeat' first|apply bn1<;>(simp only[go_sem,rq0])|apply bn3 (by omega)|fail
     refine hKJ _ _ _ ⟨(⟨id,kind,addr,many,wrap,da,la⟩,q',ca,cl),⟨⟨bpR,f2,bpX,?_,?_,g5,bp4,by dsimp only;omega⟩,by dsimp only;omega,by dsimp only;omega,by dsimp only;omega,by dsimp only;omega⟩,by dsimp only;omega,by dsimp only;omega⟩ (by(refine cR [19,20,21,22,0] (by omega) (by repeat' first|exact bo2|refine xqI rfl rfl ?_|refine xqP (by omega) rfl rfl ?_|fail) ⟨⟨by simp,by simp[sgL],_,rfl,bS (aV _ _)⟩,⟨by simp,by simp[sgL],_,rfl,aP (by(try unfold rq0);repeat' first|exact bo2| (with_reducible first|exact bo4|apply bo5)| ((with_reducible apply bo0);first|exact bo9 rfl|exact bpA)|fail)⟩,⟨by simp,by simp[sgL],_,rfl,aP (by(try unfold rq0 rqB);repeat' first|exact bo2| (with_reducible first|exact bo4|apply bo5)| ((with_reducible apply bo0);first|exact bo9 rfl|exact bpB (by omega) rfl rfl (by first|rfl|omega) rfl)|apply bo5|fail)⟩,⟨by simp,by simp[sgL],_,rfl,bP (aG bF _) rfl rfl⟩,⟨by simp,by simp[sgL],_,rfl,bP (aG bF _) rfl rfl⟩,trivial⟩ (by simp[sgL])))
     ·simp only[n5];rw[if_pos hkind];omega
     ·simp only[n5];rw[if_pos hkind];omega
 rintro⟨⟨⟨id,kind,addr,many,wrap,da,la⟩,q',ca,cl⟩,⟨hok,g1,g2,g3,g4⟩,g5,bkU⟩
 dsimp only at hok g1 g2 g3 g4 g5 bkU
 have htd:da.take da.length=da:=bq4
 have htl:la.take la.length=la:=bq4
 by_cases hn9:n=99999
 ·subst hn9
  repeat' first| (first|apply bn1|refine uA (by omega) rfl ?_)<;>(simp only[go_sem,rqB,rq0,htd,htl])|fail
  exact aSU hQ rfl rfl rfl rfl (by omega) ⟨rfl,rfl⟩ (by omega) (fun _=>⟨hok,by omega⟩)
 repeat' first| (first|apply bn1|refine d6 (n:=n) (by omega) hl (by omega) (by omega) rfl (fun p1 bb hp1 hp2 _=> ?_)|refine aX hl (by omega) (by omega) (by omega) rfl (fun x h1 h2=> ?_))<;>(simp only[go_sem,rqB,rq0,htd,htl])|refine bnE (fun h=> ?_) fun h=> ?_| (with_reducible first|refine fun(cap:Nat) (hcap:_≤cap)=> ?_|refine fun(hcp:_≤cap)=> ?_)| ((refine bnF (fun h=> ?_) (fun h=> ?_))<;>try subst h)|refine⟨by omega,?_⟩|fail
 all_goals first
  | (obtain⟨v,hv⟩:=aN1 (L:=[[.v (.int .i64 (-1))],[.v (.int .i64 2)]]) (by simp) h1 (by simp;omega);simp only[hv];simp only[go_sem,htd,htl])
  | (obtain⟨v,hv⟩:=aN1 (L:=[[.v (.int .i64 0)],[.v (.int .i64 5)]]) (by simp) h1 (by simp;omega);simp only[hv];simp only[go_sem,htd,htl])
  | (obtain⟨v,hv⟩:=aN1 (L:=[[.v (.int .i64 (-1))],[.v (.int .i64 64)],[.v (.int .i64 63)]]) (by simp) h1 (by simp;omega);simp only[hv];simp only[go_sem,htd,htl])
  | (obtain⟨v,hv⟩:=aN1 (L:=[[.v (.int .i64 0)],[.v (.int .i64 3)],[.v (.int .i64 8)],[.v (.int .i64 4)]]) (by simp) h1 (by simp;omega);simp only[hv];simp only[go_sem,htd,htl])
  | (obtain⟨v,hv⟩:=aN1 (L:=[[.v (.int .i64 (-1))],[.v (.int .i64 65536)]]) (by simp) h1 (by simp;omega);simp only[hv];simp only[go_sem,htd,htl])
  |skip
 all_goals try repeat' first|apply bn1<;>(simp only[go_sem,rqB,rq0,htd,htl])|refine⟨by omega,?_⟩|fail
 all_goals first
  |exact aSU hQ rfl rfl rfl rfl (by omega) ⟨rfl,rfl⟩ (by omega) (fun h=>absurd h hn9)
  |exact aSU hQ (D:=da++[5]) rfl rfl rfl rfl (by omega) ⟨by simp,rfl⟩ (by omega) (fun h=>absurd h hn9)
  |exact aSU hQ (L:=la++[1]) rfl rfl rfl rfl (by omega) ⟨rfl,by simp⟩ (by omega) (fun h=>absurd h hn9)
  |exact aSU hQ (D:=da.set 0 _) rfl rfl rfl rfl (by omega) ⟨by simp,rfl⟩ (by omega) (fun h=>absurd h hn9)
theorem KB{p i:Nat}{n:Int} (hn:n=99999∨0<n∧n<9000) (hl:kZ l) (hp50:p+45<2^50) (hi:i<nx) (ho:H i=some (rdO l p)) (h: ∀(p':Nat) (q:Req),p≤p'→p'≤p+45→((n=99999→dH q∧p'≤p+40)∧q.data.length≤8∧q.g6.length≤8)→K (boR (eB q)) (H.set i (rdO l p')) nx):
 aB Tryz.prog tS [bkP 2 i,boP n] H nx K:=
 (Y0 l p n hn hl hp50).OU i rfl (gW ⟨DG (by omega) rfl,aE rfl,trivial⟩) hi ho (aV l p) fun r o' ⟨p',q,h1,h2,h3,h4,h5⟩=>by
  subst h1;subst h4;exact EW (A:=fun d=>K d (H.set i (rdO l p')) nx) rfl (h p' q h2 h3 h5)
theorem ID{p i:Nat} (hl:kZ l) (hp50:p+45<2^50) (hi:i<nx) (ho:H i=some (rdO l p)) (h: ∀(p':Nat) (q:Req),p≤p'→p'≤p+40→dH q→K (boR (eB q)) (H.set i (rdO l p')) nx):
 aB Tryz.prog tS [bkP 2 i,boP 99999] H nx K:=
 KB (n:=99999) (.inl rfl) hl hp50 hi ho fun p' q h1 _ h3=>h p' q h1 (h3.1 rfl).2 (h3.1 rfl).1
theorem aRK{p i:Nat} (hl:kZ l) (hp50:p+45<2^50) (hi:i<nx) (ho:H i=some (rdO l p)) (h: ∀(p':Nat) (q:Req),p≤p'→p'≤p+45→(q.data.length≤8∧q.g6.length≤8)→K (boR (eB q)) (H.set i (rdO l p')) nx):
 aB Tryz.prog tS [bkP 2 i,boP 1] H nx K:=
 KB (n:=1) (.inr (by omega)) hl hp50 hi ho fun p' q h1 h2 h3=>h p' q h1 h2 h3.2
end
def vJ:AC:= (boG [f5 3 0,f5 4 1,f5 5 2,f7 6 [OZ,OZ,OZ,OZ,OZ]] [3,4,5,6] (.seq (boG [f8 8 3 3,f8 9 5 4,f6 10 mW [8,9],f4 11 10,RM 12 11,GQ 13 (.load 3 true 5) 12 false,GQ 14 (.call uJ [13]) 12 false,hP 15 14 12 false,f3 16 12 boE 15] [3,4,5,6,16] (.cond 16 (boG [rq 17 (.build [OZ,OZ,OZ,OZ,OZ] []),g0 5 true 6 17] [6] .ret) .skip)) (boG [f8 18 5 4,f6 19 cV [18],f7 7 [OZ,OZ,OZ,OZ,OZ],g0 5 true 7 19] [3,5,6,7] (boG [f8 20 3 3,f8 21 3 5,f6 22 jF [7,20,21]] [6,7] (boG [f8 23 5 7,f6 24 cV [23],g0 5 true 6 24] [6] .ret)))))
def DL:List aW:=[.cell 6 5 true]
theorem O7:aO Tryz.prog Tryz.f40 (bnD vJ)=some (vJ,DL):=by kernel_rfl
def AN:AC:= (boG [f5 2 0,f5 3 1,dO 4 boD] [2,3] (.seq (boG [f8 11 3 2,f6 12 wF [11],f4 13 12,RM 14 13,g9 15 0 3 14 false,GQ 16 (.load 2 true 15) 14 false,GQ 17 (.call rG [16]) 14 false,hP 18 17 14 false,f3 19 14 boE 18,RM 20 19,g9 21 2 3 20 false,hD 22 21 20 false,GQ 23 (.len false 22) 20 false,hO 24 .neq 23 (ki 3) 20 false,f3 25 20 boE 24,RM 26 25,g9 27 3 3 26 false,hD 28 27 26 false,GQ 29 (.len false 28) 26 false,hO 30 .neq 29 (ki 4) 26 false,f3 31 26 boE 30] [2,3,31] (.cond 31 (boG [dO 4 boD] [4] .ret) .skip)) (boG [dO 5 (ki 0),dO 6 (ki 0)] [2,3,5,6] (.seq (boG [RF 32 2 3,RL 33 32,f1 34 33,dO 35 (ki 0)] [2,3,5,6,33,34,35] (.block 0 (.loop (boG [dI 36 .lss 35 34] [2,3,5,6,33,34,35,36] (.seq (.cond 36 .skip (.exit 0)) (.seq (.block 1 (boG [RM 37 35,e0 38 4 33 35,f8 39 4 38,f7 8 [VZ,OZ,OZ,VZ],RM 7 37,g0 4 true 8 39] [2,3,5,6,7,8,33,34,35] (.seq (boG [f8 40 3 2,RM 41 7,f8 42 4 8,f6 43 jK [40,41,42],f4 44 43] [2,3,5,6,8,33,34,35,44] (.cond 44 (boG [dO 4 boD] [4] .ret) .skip)) (m2 [RM 45 5,RF 46 2 8,RL 47 46,f1 48 47,dI 49 .add 45 48,RM 5 49] [2,3,5,6,33,34,35])))) (m2 [dI 50 .add 35 (ki 1),RM 35 50] [2,3,5,6,33,34,35]))))))) (.seq (boG [RF 51 3 3,RL 52 51,f1 53 52,dO 54 (ki 0)] [2,3,5,6,52,53,54] (.block 2 (.loop (boG [dI 55 .lss 54 53] [2,3,5,6,52,53,54,55] (.seq (.cond 55 .skip (.exit 2)) (.seq (.block 3 (boG [RM 56 54,e0 57 3 52 54,f8 58 3 57,f7 10 [OZ,OZ,VZ],RM 9 56,g0 3 true 10 58] [2,3,5,6,9,10,52,53,54] (.seq (boG [f8 59 3 2,f8 60 5 3,RM 61 9,f6 62 iX [59,60,61],f4 63 62] [2,3,5,6,10,52,53,54,63] (.cond 63 (boG [dO 4 boD] [4] .ret) .skip)) (m2 [RM 64 6,RF 65 0 10,RL 66 65,f1 67 66,RF 68 1 10,RL 69 68,f1 70 69,dI 71 .add 67 70,dI 72 .add 64 71,RM 6 72] [2,3,5,6,52,53,54])))) (m2 [dI 73 .add 54 (ki 1),RM 54 73] [2,3,5,6,52,53,54]))))))) (boG [RM 74 5,RM 75 6,dI 76 .eql 74 75,RM 77 76,dA (some 78) (.load 3 true 2) (some (77,true)) [] [] true,GQ 79 (.load 5 true 3) 77 true,dA (some 80) (.call zX [79]) (some (77,true)) [] [4] false,GQ 81 (.call j9 [78,80]) 77 true,f3 82 77 81 boD,RM 4 82] [4] .ret))))))
def IC:List aW:=[.tm 4]
theorem UM:aO Tryz.prog Tryz.f35 (bnD AN)=some (AN,IC):=by kernel_rfl
def yF:AC:= (boG [f5 1 0,f7 2 [OZ,OZ,OZ,OZ,OZ,OZ]] [1,2] (boG [RF 12 0 1,f8 13 2 12,RF 14 4 1,RL 15 14,rq 16 (.build [OZ,OZ,OZ,OZ,OZ,OZ] [(0,2,13),(5,1,15)]),f7 3 [OZ,OZ,OZ,OZ,OZ,OZ],g0 6 true 3 16] [1,2,3] (.seq (boG [RF 17 2 1,RL 18 17,f1 19 18,dO 20 (ki 0)] [1,2,3,18,19,20] (.block 0 (.loop (boG [dI 21 .lss 20 19] [1,2,3,18,19,20,21] (.seq (.cond 21 .skip (.exit 0)) (.seq (.block 1 (boG [RM 22 20,e0 23 4 18 20,f8 24 4 23,f7 5 [VZ,OZ,OZ,VZ],RM 4 22,g0 4 true 5 24] [1,2,3,4,5,18,19,20] (boG [RF 25 2 3,RL 26 25,RF 27 0 5,RL 28 27,rq 29 (.bC 1 1 [VZ] [(0,1,28)]),rq 30 (.append 1 26 29),RF 31 2 3,g0 1 false 31 30] [1,2,3,4,5,18,19,20] (boG [RF 32 1 5,RL 33 32,f1 34 33,dO 35 (ki 0)] [1,2,3,4,18,19,20,33,34,35] (.block 2 (.loop (boG [dI 36 .lss 35 34] [1,2,3,4,18,19,20,33,34,35,36] (.seq (.cond 36 .skip (.exit 2)) (.seq (.block 3 (boG [e0 37 1 33 35,RL 38 37,RM 7 38] [1,2,3,4,7,18,19,20,33,34,35] (m2 [RF 39 3 3,RL 40 39,RM 41 4,RM 42 7,rq 43 (.build [VZ,VZ,VZ,VZ,OZ] [(0,1,41),(1,1,42)]),rq 44 (.bC 5 1 [VZ,VZ,VZ,VZ,OZ] [(0,5,43)]),rq 45 (.append 5 40 44),RF 46 3 3,g0 1 false 46 45] [1,2,3,4,18,19,20,33,34,35]))) (m2 [dI 47 .add 35 (ki 1),RM 35 47] [1,2,3,4,18,19,20,33,34,35])))))))))) (m2 [dI 48 .add 20 (ki 1),RM 20 48] [1,2,3,18,19,20]))))))) (.seq (boG [RF 49 3 1,RL 50 49,f1 51 50,dO 52 (ki 0)] [2,3,50,51,52] (.block 4 (.loop (boG [dI 53 .lss 52 51] [2,3,50,51,52,53] (.seq (.cond 53 .skip (.exit 4)) (.seq (.block 5 (boG [e0 54 3 50 52,f8 55 3 54,f7 9 [OZ,OZ,VZ],g0 3 true 9 55] [2,3,9,50,51,52] (.seq (boG [RF 56 0 9,RL 57 56,f1 58 57,dO 59 (ki 0)] [2,3,9,50,51,52,57,58,59] (.block 6 (.loop (boG [dI 60 .lss 59 58] [2,3,9,50,51,52,57,58,59,60] (.seq (.cond 60 .skip (.exit 6)) (.seq (.block 7 (boG [e0 61 3 57 59,f8 62 3 61,f7 11 [VZ,VZ,VZ],g0 3 true 11 62] [2,3,9,11,50,51,52,57,58,59] (m2 [RF 63 3 3,RL 64 63,RF 65 0 11,RL 66 65,RF 67 1 11,RL 68 67,rq 69 (.build [VZ,VZ,VZ,VZ,OZ] [(0,1,66),(1,1,68)]),rq 70 (.bC 5 1 [VZ,VZ,VZ,VZ,OZ] [(0,5,69)]),rq 71 (.append 5 64 70),RF 72 3 3,g0 1 false 72 71] [2,3,9,50,51,52,57,58,59]))) (m2 [dI 73 .add 59 (ki 1),RM 59 73] [2,3,9,50,51,52,57,58,59]))))))) (m2 [RF 74 4 3,RL 75 74,RF 76 1 9,RL 77 76,rq 78 (.append 5 75 77),RF 79 4 3,g0 1 false 79 78] [2,3,50,51,52])))) (m2 [dI 80 .add 52 (ki 1),RM 52 80] [2,3,50,51,52]))))))) (boG [RF 81 3 3,RL 82 81,f6 83 cG [82,(.fn bJ)]] [2,3] (boG [RF 84 4 3,RL 85 84,f6 86 cG [85,(.fn bJ)]] [2,3] (boG [f8 87 6 3,f6 88 iG [87],g0 6 true 2 88] [2] .ret)))))))
def GJ:List aW:=[.cell 2 6 true]
theorem RY:aO Tryz.prog Tryz.f44 (bnD yF)=some (yF,GJ):=by kernel_rfl
def CT:AC:= (boG [f5 1 0,dO 2 boD] [1] (boG [RF 3 0 1,RL 4 3,f1 5 4,dI 6 .eql 5 (ki 3),RM 7 6,g9 8 1 1 7 true,hD 9 8 7 true,GQ 10 (.len false 9) 7 true,hO 11 .eql 10 (ki 4) 7 true,f3 12 7 11 boD,RM 13 12,g9 14 2 1 13 true,hD 15 14 13 true,GQ 16 (.len false 15) 13 true,hO 17 .eql 16 (ki 3) 13 true,f3 18 13 17 boD,RM 2 18] [2] .ret))
def LU:List aW:=[.tm 2]
theorem XQ:aO Tryz.prog Tryz.f54 (bnD CT)=some (CT,LU):=by kernel_rfl
theorem XL:aN Tryz.prog uJ Tryz.f54 CT LU:=
 aN.mk Tryz.func54 (by kernel_rfl) XQ
def lL:AC:= (boG [f5 3 0,f5 5 2,dO 6 boD] [1,3,5] (.seq (boG [RF 17 0 5,RL 18 17,RF 19 2 3,RL 20 19,RM 21 1,e0 22 1 20 21,RL 23 22,f1 24 23,f6 25 cQ [18,(ki 0),24],f4 26 25,RM 27 26,g9 28 1 5 27 false,hD 29 28 27 false,GQ 30 (.len false 29) 27 false,g9 31 0 5 27 false,hD 32 31 27 false,GQ 33 (.mmx true (ki 2) 32) 27 false,hO 34 .gtr 30 33 27 false,f3 35 27 boE 34,RM 36 35,g9 37 2 5 36 false,hD 38 37 36 false,GQ 39 (.len false 38) 36 false,hO 40 .gtr 39 (ki 4) 36 false,f3 41 36 boE 40,RM 42 41,g9 43 3 5 42 false,hD 44 43 42 false,GQ 45 (.call cQ [44,(ki 0),(ki 3)]) 42 false,hP 46 45 42 false,f3 47 42 boE 46] [1,3,5,47] (.cond 47 (boG [dO 6 boD] [6] .ret) .skip)) (boG [RF 48 0 5,RL 49 48,RF 50 1 5,RL 51 50,f1 52 51,dI 53 .sub 49 52,RM 7 53] [1,3,5,7] (.seq (boG [RF 54 1 5,RL 55 54,f1 56 55,dO 57 (ki 0)] [1,3,5,7,55,56,57] (.block 0 (.loop (boG [dI 58 .lss 57 56] [1,3,5,7,55,56,57,58] (.seq (.cond 58 .skip (.exit 0)) (.seq (.block 1 (boG [RM 59 57,e0 60 1 55 57,RL 61 60,RM 8 59,RM 9 61] [1,3,5,7,8,9,55,56,57] (boG [RM 62 9,RM 63 7,RM 64 8,dI 65 .add 63 64,dI 66 .neq 62 65] [1,3,5,7,55,56,57,66] (.cond 66 (boG [dO 6 boD] [6] .ret) .skip)))) (m2 [dI 67 .add 57 (ki 1),RM 57 67] [1,3,5,7,55,56,57]))))))) (boG [rq 10 (.move (.kv (.int .i64 (-1))))] [1,3,5,7,10] (boG [rq 68 (.xop (.DS 0 false) []),RM 11 68] [1,3,5,7,10,11] (.seq (boG [RF 69 2 5,RL 70 69,f1 71 70,dO 72 (ki 0)] [1,3,7,10,11,70,71,72] (.block 2 (.loop (boG [dI 73 .lss 72 71] [1,3,7,10,11,70,71,72,73] (.seq (.cond 73 .skip (.exit 2)) (.seq (.block 3 (boG [e0 74 3 70 72,f8 75 3 74,f7 13 [VZ,VZ,VZ],g0 3 true 13 75] [1,3,7,10,11,13,70,71,72] (.seq (boG [RF 76 0 13,RL 77 76,RM 78 1,dI 79 .neq 77 78,RM 80 79,g9 81 1 13 80 false,hD 82 81 80 false,hG 83 10 80 false,hO 84 .add 83 (ki 1) 80 false,hG 85 7 80 false,hO 86 .sub 85 (ki 1) 80 false,GQ 87 (.call cQ [82,84,86]) 80 false,hP 88 87 80 false,f3 89 80 boE 88,RM 90 89,g9 91 2 13 90 false,dA (some 92) (.load 1 false 91) (some (90,false)) [] [] true,g9 93 0 3 90 false,hD 94 93 90 false,g9 95 2 3 90 false,hD 96 95 90 false,hG 97 1 90 false,j0 98 1 96 97 90 false,hD 99 98 90 false,g9 100 1 13 90 false,hD 101 100 90 false,j0 102 7 99 101 90 false,GQ 103 (.load 7 true 102) 90 false,dA (some 104) (.call rN [94,103]) (some (90,false)) [] [16] false,hO 105 .neq 92 104 90 false,f3 106 90 boE 105] [1,3,7,11,13,70,71,72,106] (.cond 106 (boG [dO 6 boD] [6] .ret) .skip)) (boG [RF 107 1 13,RL 108 107,RM 10 108] [1,3,7,10,11,13,70,71,72] (boG [f8 109 3 3,RM 110 1,RF 111 1 13,RL 112 111,f6 113 fB [109,110,112],RM 14 113] [1,3,7,10,11,13,14,70,71,72] (.seq (boG [RM 115 11,RM 116 14,rq 117 (.xop (.rA 0 false true) [115,116]),RM 114 117,rq 118 (.ext 114 0),rq 119 (.ext 114 1),RM 15 118,RM 16 119] [1,3,7,10,11,13,14,15,16,70,71,72] (boG [RM 120 16,RM 121 120,hG 122 15 121 true,g9 123 2 13 121 true,hD 124 123 121 true,hO 125 .neq 122 124 121 true,f3 126 121 125 boD] [1,3,7,10,11,13,14,70,71,72,126] (.cond 126 (boG [dO 6 boD] [6] .ret) .skip))) (m2 [RM 127 11,RM 128 14,RF 129 2 13,RL 130 129,rn (.xop (.vM 0 false) [127,128,130])] [1,3,7,10,11,70,71,72]))))))) (m2 [dI 131 .add 72 (ki 1),RM 72 131] [1,3,7,10,11,70,71,72]))))))) (boG [dO 6 boE] [6] .ret))))))))
def sF:List aW:=[.tm 6]
theorem EM:aO Tryz.prog Tryz.f108 (bnD lL)=some (lL,sF):=by kernel_rfl
def lB:AC:= (boG [f5 3 0,f5 4 1,rq 5 (.box false 2),dO 6 boD] [3,4,5] (boG [RF 14 3 4,RL 15 14,RL 16 5,e0 17 3 15 16,f8 18 3 17,f7 7 [OZ,OZ,VZ],g0 3 true 7 18] [3,4,5,7] (.seq (boG [RF 19 0 7,RL 20 19,f1 21 20,dI 22 .gtr 21 (ki 2),RM 23 22,g9 24 1 7 23 false,hD 25 24 23 false,GQ 26 (.len false 25) 23 false,hO 27 .gtr 26 (ki 2) 23 false,f3 28 23 boE 27,RM 29 28,g9 30 2 7 29 false,hD 31 30 29 false,GQ 32 (.call jA [31]) 29 false,hP 33 32 29 false,f3 34 29 boE 33] [3,4,5,7,34] (.cond 34 (boG [dO 6 boD] [6] .ret) .skip)) (boG [rq 35 (.build [VZ,VZ,VZ] [(0,1,(.kv (.int .i64 (-1)))),(1,1,(.kv (.int .i64 (-1)))),(2,1,(.kv (.int .i64 (-1))))]),f7 8 [VZ,VZ,VZ],g0 3 true 8 35] [3,4,5,7,8] (boG [rq 36 (.xop (.zI cO) [8,4,5]),RM 9 36] [3,5,7,9] (.seq (boG [RF 37 1 7,RL 38 37,f1 39 38,dO 40 (ki 0)] [3,5,7,9,38,39,40] (.block 0 (.loop (boG [dI 41 .lss 40 39] [3,5,7,9,38,39,40,41] (.seq (.cond 41 .skip (.exit 0)) (.seq (.block 1 (boG [e0 42 5 38 40,f8 43 5 42,f7 11 [VZ,VZ,VZ,VZ,OZ],g0 5 true 11 43] [3,5,7,9,11,38,39,40] (boG [RM 44 9,RF 45 0 11,RL 46 45,RF 47 1 11,RL 48 47,rq 49 (.t5 44 [46,48]),f4 50 49,RM 51 50,g9 52 2 11 51 false,GQ 53 (.load 3 true 52) 51 false,GQ 54 (.call m6 [53]) 51 false,hP 55 54 51 false,f3 56 51 boE 55,RM 57 56,g9 58 2 11 57 false,g9 59 0 58 57 false,dA (some 60) (.load 1 false 59) (some (57,false)) [] [] true,GQ 61 (.load 3 true 3) 57 false,g9 62 0 11 57 false,hD 63 62 57 false,g9 64 1 11 57 false,hD 65 64 57 false,dA (some 66) (.call fB [61,63,65]) (some (57,false)) [] [16] false,hO 67 .neq 60 66 57 false,f3 68 57 boE 67] [3,5,7,9,38,39,40,68] (.cond 68 (boG [dO 6 boD] [6] .ret) .skip)))) (m2 [dI 69 .add 40 (ki 1),RM 40 69] [3,5,7,9,38,39,40]))))))) (.seq (boG [RF 70 0 7,RL 71 70,f1 72 71,dO 73 (ki 0)] [3,5,9,71,72,73] (.block 2 (.loop (boG [dI 74 .lss 73 72] [3,5,9,71,72,73,74] (.seq (.cond 74 .skip (.exit 2)) (.seq (.block 3 (boG [RM 75 73,e0 76 3 71 73,f8 77 3 76,f7 13 [VZ,VZ,VZ],RM 12 75,g0 3 true 13 77] [3,5,9,12,13,71,72,73] (boG [RM 78 9,RF 79 0 13,RL 80 79,RF 81 1 13,RL 82 81,rq 83 (.t5 78 [80,82]),f4 84 83,RM 85 84,hG 86 12 85 false,hO 87 .eql 86 (ki 0) 85 false,hG 88 87 85 false,g9 89 2 13 88 true,hD 90 89 88 true,g9 91 1 3 88 true,hD 92 91 88 true,hD 93 5 88 true,j0 94 1 92 93 88 true,hD 95 94 88 true,GQ 96 (.call cQ [90,(ki 0),95]) 88 true,hP 97 96 88 true,GQ 98 (.pick 88 97 boD) 85 false,f3 99 85 boE 98,RM 100 99,hG 101 12 100 false,hO 102 .gtr 101 (ki 0) 100 false,hG 103 102 100 false,g9 104 2 13 103 true,hD 105 104 103 true,g9 106 1 3 103 true,hD 107 106 103 true,hD 108 5 103 true,j0 109 1 107 108 103 true,hD 110 109 103 true,hO 111 .neq 105 110 103 true,GQ 112 (.pick 103 111 boD) 100 false,f3 113 100 boE 112] [3,5,9,71,72,73,113] (.cond 113 (boG [dO 6 boD] [6] .ret) .skip)))) (m2 [dI 114 .add 73 (ki 1),RM 73 114] [3,5,9,71,72,73]))))))) (boG [dO 6 boE] [6] .ret))))))))
def qR:List aW:=[.tm 6]
theorem B8:aO Tryz.prog Tryz.f109 (bnD lB)=some (lB,qR):=by kernel_rfl
def dF:AC:= (m2 [RM 4 0,RM 5 0,f1 6 5,RM 7 1,f6 8 gL [4,6,7]] [])
def gD:List aW:=[]
theorem mB:aO Tryz.prog Tryz.f124 (bnD dF)=some (dF,gD):=by kernel_rfl
def jP:AC:= (boG [dO 7 boD] [0,1,2,3,4] (.seq (boG [RM 9 0,f6 10 jA [9],f4 11 10,RM 12 11,hG 13 1 12 false,hG 14 0 12 false,GQ 15 (.TL 1 3 2 14) 12 false,hD 16 15 12 false,hO 17 .leq 13 16 12 false,f3 18 12 boE 17] [0,1,2,3,4,18] (.cond 18 (boG [dO 7 boD] [7] .ret) .skip)) (boG [RM 19 0,RM 20 1,rq 21 (.TL 1 3 2 19),g0 1 false 21 20] [0,1,3,4] (boG [RF 22 2 3,RL 23 22,RM 24 0,e0 25 4 23 24,f8 26 4 25,RM 27 1,f6 28 kV [26,27],RM 8 28] [0,3,4,8] (boG [RM 29 8,dI 30 .geq 29 (ki 0),RM 31 30,g9 32 2 3 31 true,hD 33 32 31 true,hG 34 0 31 true,j0 35 4 33 34 31 true,g9 36 2 35 31 true,hD 37 36 31 true,hG 38 8 31 true,j0 39 3 37 38 31 true,g9 40 2 39 31 true,hD 41 40 31 true,hD 42 4 31 true,hO 43 .eql 41 42 31 true,f3 44 31 43 boD,RM 7 44] [7] .ret)))))
def oE:List aW:=[.tm 7]
theorem AH:aO Tryz.prog Tryz.f200 (bnD jP)=some (jP,oE):=by kernel_rfl
def gA:AC:= (boG [dO 6 (ki 20)] [0,1,2,6] (boG [RM 10 6,dO 7 (ki 0),RM 8 10] [0,1,2,6,7,8] (.seq (.block 0 (.loop (.seq (boG [RM 11 8,RM 12 1,dI 13 .leq 11 12] [0,1,2,6,7,8,13] (.cond 13 .skip (.exit 0))) (.block 1 (boG [RM 14 0,RM 15 7,RM 16 8,RM 17 2,f6 18 cL [14,15,16,17]] [0,1,2,6,8] (boG [RM 19 8,RM 7 19] [0,1,2,6,7,8] (m2 [RM 20 8,RM 21 6,dI 22 .add 20 21,RM 8 22] [0,1,2,6,7,8]))))))) (boG [RM 23 0,RM 24 7,RM 25 1,RM 26 2,f6 27 cL [23,24,25,26]] [0,1,2,6] (.block 2 (.loop (.seq (boG [RM 28 6,RM 29 1,dI 30 .lss 28 29] [0,1,2,6,30] (.cond 30 .skip (.exit 2))) (.block 3 (boG [RM 31 6,dI 32 .mul (ki 2) 31,dO 7 (ki 0),RM 8 32] [0,1,2,6,7,8] (.seq (.block 4 (.loop (.seq (boG [RM 33 8,RM 34 1,dI 35 .leq 33 34] [0,1,2,6,7,8,35] (.cond 35 .skip (.exit 4))) (.block 5 (boG [RM 36 0,RM 37 7,RM 38 7,RM 39 6,dI 40 .add 38 39,RM 41 8,RM 42 2,f6 43 jW [36,37,40,41,42]] [0,1,2,6,8] (boG [RM 44 8,RM 7 44] [0,1,2,6,7,8] (m2 [RM 45 8,RM 46 6,dI 47 .mul (ki 2) 46,dI 48 .add 45 47,RM 8 48] [0,1,2,6,7,8]))))))) (.seq (boG [RM 49 7,RM 50 6,dI 51 .add 49 50,RM 9 51] [0,1,2,6,7,9] (boG [RM 52 9,RM 53 1,dI 54 .lss 52 53] [0,1,2,6,7,9,54] (.cond 54 (m2 [RM 55 0,RM 56 7,RM 57 9,RM 58 1,RM 59 2,f6 60 jW [55,56,57,58,59]] [0,1,2,6]) .skip))) (m2 [RM 61 6,dI 62 .mul 61 (ki 2),RM 6 62] [0,1,2,6]))))))))))))
def kJ:List aW:=[]
theorem sX:aO Tryz.prog Tryz.f220 (bnD gA)=some (gA,kJ):=by kernel_rfl
def dU:AC:= (boG [RM 10 1,dI 11 .add 10 (ki 1),RM 8 11] [0,1,2,3,8] (.block 0 (.loop (.seq (boG [RM 12 8,RM 13 2,dI 14 .lss 12 13] [0,1,2,3,8,14] (.cond 14 .skip (.exit 0))) (.seq (.block 1 (boG [RM 17 8,RM 9 17] [0,1,2,3,8,9] (.block 2 (.loop (.seq (boG [RM 18 9,RM 19 1,dI 20 .gtr 18 19,RM 21 20,hG 22 3 21 true,hG 23 0 21 true,hG 24 9 21 true,j0 25 5 23 24 21 true,GQ 26 (.load 5 true 25) 21 true,hG 27 0 21 true,hG 28 9 21 true,hO 29 .sub 28 (ki 1) 21 true,j0 30 5 27 29 21 true,GQ 31 (.load 5 true 30) 21 true,GQ 32 (.t5 22 [26,31]) 21 true,hO 33 .lss 32 (ki 0) 21 true,f3 34 21 33 boD] [0,1,2,3,8,9,34] (.cond 34 .skip (.exit 2))) (.seq (.block 3 (m2 [RM 37 0,RM 38 9,RM 39 0,RM 40 9,dI 41 .sub 40 (ki 1),RM 42 0,RM 43 9,dI 44 .sub 43 (ki 1),e0 45 5 42 44,f8 46 5 45,RM 47 0,RM 48 9,e0 49 5 47 48,f8 50 5 49,e0 51 5 37 38,g0 5 true 51 46,e0 52 5 39 41,g0 5 true 52 50] [0,1,2,3,8,9])) (m2 [RM 35 9,dI 36 .sub 35 (ki 1),RM 9 36] [0,1,2,3,8,9]))))))) (m2 [RM 15 8,dI 16 .add 15 (ki 1),RM 8 16] [0,1,2,3,8]))))))
def gU:List aW:=[]
theorem m9:aO Tryz.prog Tryz.f285 (bnD dU)=some (dU,gU):=by kernel_rfl
end Go.Proofs.YtmccpdapaccnoaaGreat
