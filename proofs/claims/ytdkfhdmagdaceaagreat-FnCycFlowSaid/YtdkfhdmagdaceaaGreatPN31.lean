/- Texts laid together by a program: rules, contracts and the walk that leads to the law. -/
import Derived.Test.YtdkfhdmagdaceaaGreatPN8
import Derived.Test.YtdkfhdmagdaceaaGreatPN29
set_option linter.unusedVariables false
set_option linter.unusedSimpArgs false
set_option linter.unusedSectionVars false
set_option maxRecDepth 100000
set_option maxHeartbeats 8000000
namespace Go.AM
theorem bxV {H:aA} {e:Env} {bpN bpO bpP bp0 a i1 b m1 bp3:Nat} {c1 c2:List D1} {x:DV} (d:e bpN= .one (.c (.ptr bp0 i1 0 0))) (f:H i1=some ⟨bp0,m1,[c1]⟩) (g:c1.length=bp0) (h:e bpO= .one (.c (.ptr a b 0 0))) (i:H b=some ⟨a,bp3,[c2]⟩) (j:c2.length=a) (k:e bpP= .one x):
 yT H e [.cell bpN bp0 true,.cell bpO a true,.tm bpP]=some (.tup [.agg c1,.agg c2,x]):=by
 subst g
 subst j
 simp[yT,VP,d,h,k,tT,f,i,mkV,asI]
end Go.AM
namespace Go.Proofs.YtdkfhdmagdaceaaGreat
open Go Go.AM
attribute [local irreducible] aM wv aB vd wvH
section
variable {H : aA} {nx : Nat} {K : D → aA → Nat → Prop}
theorem bxL:cJ Tryz.prog bxC Tryz.f34 bxA bxE:=cJ.mk Tryz.func34 (by kernel_rfl) bxK
theorem bxM {l:List Int} (hl:kZ l) (h: ∀H' nx' c s n,nx≤nx'→jO c→beL s→-1≤n→n≤301→(∀id,id<nx→H' id=H id)→K (.tup [.agg (cU c),.agg (eI s),.c (cI n)]) H' nx'):aB Tryz.prog bxC [dS (l.map eU8)] H nx K:=by
 have q:kZ (l.take 2000):=⟨by simp;omega,fun x L=>hl.byte x (List.take_subset _ _ L)⟩
 refine bxL rfl fun Q M=> ?_;unfold bxA;repeat' first| (first|apply bn1|apply bkX.F2)<;>(simp only[go_sem,boC])|fail
 refine biL (p:=0) (n:=16) (by omega) q (by omega) (by omega) aA.bH fun H1 a I c s z N A O ha r o=> ?_;have bqB:H1 nx=some ⟨3,1,[[.osl 0 0 0 0 0,.osl 0 0 0 0 0,.osl 0 0 0 0 0]]⟩:=by rw[o _ (by omega) (by omega)];simp (disch:=omega) only[aA.aC,aA.bH]
 have B:H1 (nx+1)=some ⟨5,1,[[.osl 0 0 0 0 0,.osl 0 0 0 0 0,.osl 0 0 0 0 0,.osl 0 0 0 0 0,.osl 0 0 0 0 0]]⟩:=by rw[o _ (by omega) (by omega)];simp (disch:=omega) only[aA.aC,aA.bH]
 have P: ∀id,id<nx→H1 id=H id:=fun id d=>by rw[o _ (by omega) (by omega)];simp (disch:=omega) only[aA.aC]
 clear o;have b:bQ a [nx,nx+1,nx+6,nx+12,nx+13]:=AM.apart (by simp) (by simp;omega);simp only[bQ,eZ] at b;(try simp only[go_sem,boC,bqB,B,r,b,boC]);repeat' first|apply bn1<;>(simp only[go_sem,boC,bqB,B,r,b,boC])|fail
 have aHI: ∀G:aA,msk a [5] G (nx+6)=G (nx+6):=fun G=>by unfold msk;rw[if_neg (by simp;omega)]
 refine aX (p:=I) q (by omega) (by omega) (by omega) (by rw[aA.aC (by omega),aA.aC (by omega),aHI];exact r) fun x z R=> ?_;have C: ∀G:aA,msk a [5,4] G (nx+13)=G (nx+13):=fun G=>by unfold msk;rw[if_neg (by simp;omega)]
 have D: ∀G:aA,msk a [5,4] G (nx+12)=G (nx+12):=fun G=>by unfold msk;rw[if_neg (by simp;omega)]
 simp only[go_sem,C,D,b,boC];generalize aU3:dT _ _ _ _=U;have um: ∀id,id≠a+5→id≠nx+12→id≠nx+13→U id=H1 id:=fun id d1 d2 d3=>by rw[←aU3];unfold dT;rw[if_neg (by simp;omega)];unfold msk;rw[if_neg (by simp;omega)]
 have aUX:U (a+5)=some ⟨1,7,[[cI 0],[cI 0],[cI 0],[cI 0],[cI 1],[cI 2],[cI 3]]⟩:=by rw[←aU3];unfold dT;rw[if_pos (by simp)];exact aA.bH
 clear aU3;have S: ∀G:aA,msk a [5,4] G (nx+6)=G (nx+6):=fun G=>by unfold msk;rw[if_neg (by simp;omega)]
 refine aX (p:=I+1) q (by omega) (by omega) (by omega) (by first|exact aA.bH|skip) fun y T X=> ?_
 obtain⟨k,e,Z,aa⟩: ∃k:Int,([[cI 0],[cI 0],[cI 0],[cI 0],[cI 1],[cI 2],[cI 3]]:List (List D1))[y.toNat]?=some [cI k]∧0≤k∧k≤3:=by
  have:y=0∨y=1∨y=2∨y=3∨y=4∨y=5∨y=6:=by omega
  rcases this with rfl|rfl|rfl|rfl|rfl|rfl|rfl;·exact⟨0,rfl,by omega,by omega⟩
  ·exact⟨0,rfl,by omega,by omega⟩
  ·exact⟨0,rfl,by omega,by omega⟩
  ·exact⟨0,rfl,by omega,by omega⟩
  ·exact⟨1,rfl,by omega,by omega⟩
  ·exact⟨2,rfl,by omega,by omega⟩
  ·exact⟨3,rfl,by omega,by omega⟩
 obtain⟨n,f,E,F⟩: ∃n:Int,([[cI x],[cI (-1)],[cI 301],[cI 60]]:List (List D1))[k.toNat]?=some [cI n]∧ -1≤n∧n≤301:=by
  have:k=0∨k=1∨k=2∨k=3:=by omega
  rcases this with rfl|rfl|rfl|rfl;·exact⟨x,rfl,by omega,by omega⟩
  ·exact⟨-1,rfl,by omega,by omega⟩
  ·exact⟨301,rfl,by omega,by omega⟩
  ·exact⟨60,rfl,by omega,by omega⟩
 have g:(0≤y)=True:=eq_true (by omega);have i:(y<7)=True:=eq_true (by omega);have j:(0≤k)=True:=eq_true (by omega);have m:(k<4)=True:=eq_true (by omega);(try simp only[go_sem,boC,aUX,e,f,g,i,j,m,b,boC]);repeat' first|apply bn1<;>(simp only[go_sem,boC,aUX,e,f,g,i,j,m,b,boC])|refine⟨by omega,?_⟩|fail
 generalize t:dT a [5,4] _ _=V;have u: ∀id,id<a→id≠nx+12→id≠nx+13→V id=H1 id:=fun id d1 d2 d3=>by rw[←t];unfold dT;rw[if_neg (by simp;omega)];unfold msk;rw[if_neg (by simp;omega)];exact um id (by omega) d2 d3
 have aXO:V (a+5)=some ⟨1,7,[[cI 0],[cI 0],[cI 0],[cI 0],[cI 1],[cI 2],[cI 3]]⟩:=by rw[←t];unfold dT;rw[if_pos (by simp)];simp (disch:=omega) only[aA.aC];exact aUX
 have v4:V (a+4)=some ⟨1,4,[[cI x],[cI (-1)],[cI 301],[cI 60]]⟩:=by rw[←t];unfold dT;rw[if_pos (by simp)];exact aA.bH
 have v0:=(u nx (by omega) (by omega) (by omega)).trans bqB;have v1:=(u (nx+1) (by omega) (by omega) (by omega)).trans B;have J: ∀id,id<nx→V id=H id:=fun id d=>(u id (by omega) (by omega) (by omega)).trans (P id d);have bqN: ∀G:aA,msk a [4] G (a+5)=G (a+5):=fun G=>mk1 (by omega);have v: ∀G:aA,msk a [5,4] G nx=G nx:=fun G=>by unfold msk;rw[if_neg (by simp;omega)]
 have bp0: ∀G:aA,msk a [5,4] G (nx+1)=G (nx+1):=fun G=>by unfold msk;rw[if_neg (by simp;omega)]
 clear t u um aUX;(try simp only[go_sem,boC,bqN,v,bp0,aXO,v4,v0,v1,e,f,g,i,j,m,b,aSP,boC]);repeat' first|apply bn1<;>(simp only[go_sem,boC,bqN,v,bp0,aXO,v4,v0,v1,e,f,g,i,j,m,b,aSP,boC])|refine⟨by omega,?_⟩|fail
 generalize aYL:dT a [5,4] _ _=W;have wm: ∀id,id<a→W id=V id:=fun id d1=>by rw[←aYL];unfold dT;rw[if_neg (by simp;omega)];unfold msk;rw[if_neg (by simp;omega)]
 have bk7:W (a+5)=some ⟨1,7,[[cI 0],[cI 0],[cI 0],[cI 0],[cI 1],[cI 2],[cI 3]]⟩:=by rw[←aYL];unfold dT;rw[if_pos (by simp)];simp (disch:=omega) only[aA.aC];exact aXO
 have bk5:W (a+4)=some ⟨1,4,[[cI x],[cI (-1)],[cI 301],[cI 60]]⟩:=by rw[←aYL];unfold dT;rw[if_pos (by simp)];simp (disch:=omega) only[aA.aC];exact v4
 have bk1:=(wm nx (by omega)).trans v0;have bqH:=(wm (nx+1) (by omega)).trans v1;have wf: ∀id,id<nx→W id=H id:=fun id d=>(wm id (by omega)).trans (J id d);clear aYL wm J aXO v4 v0 v1;(try simp only[go_sem,boC,bqN,v,bp0,bk7,bk5,bk1,bqH,e,f,g,i,j,m,b,aSP,boC]);repeat' first|apply bn1<;>(simp only[go_sem,boC,bqN,v,bp0,bk7,bk5,bk1,bqH,e,f,g,i,j,m,b,aSP,boC])|fail
 generalize w:dT a [5,4] _ _=Y;have bxW:Y (a+5)=some ⟨1,7,[[cI 0],[cI 0],[cI 0],[cI 0],[cI 1],[cI 2],[cI 3]]⟩:=by rw[←w];unfold dT;rw[if_pos (by simp)];simp (disch:=omega) only[aA.aC];exact bk7
 have aAP:Y (a+4)=some ⟨1,4,[[cI x],[cI (-1)],[cI 301],[cI 60]]⟩:=by rw[←w];unfold dT;rw[if_pos (by simp)];simp (disch:=omega) only[aA.aC];exact bk5
 have yf: ∀id,id<nx→Y id=H id:=fun id d=>by rw[←w];unfold dT;rw[if_neg (by simp;omega)];unfold msk;rw[if_neg (by simp;omega)];exact wf id d
 clear w bk7 bk5 bk1 bqH wf;simp only[aAP,bxW,e,f,go_sem];apply bn0;repeat' first|apply bn1<;>(simp only[go_sem])|fail
 exact M _ _ _ _ _ (.inr rfl) (bxV rfl ((aA.aC (by omega)).trans aA.bH) rfl rfl aA.bH rfl rfl) (h _ _ c s n (by omega) A O E F fun id d=>by simp (disch:=omega) only[aA.aC];exact yf id d)
end
end Go.Proofs.YtdkfhdmagdaceaaGreat
