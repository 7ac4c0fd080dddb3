/- Texts laid together by a program: rules, contracts and the walk that leads to the law. -/
import Derived.Test.YtmccpdapaccnoaaGreatPF6
import Derived.Test.YtmccpdapaccnoaaGreatPF7
import Derived.Test.YtmccpdapaccnoaaGreatPF5
set_option linter.unusedVariables false
set_option linter.unusedSimpArgs false
set_option linter.unusedSectionVars false
section
namespace Go.Proofs.YtmccpdapaccnoaaGreat
open Go Go.AM
set_option maxRecDepth 100000
section
variable {H : aA} {nx : Nat} {K : D → aA → Nat → Prop}
theorem agS (n lo up:Int):aB Tryz.prog cQ [dI n,dI lo,dI up] .nil 0 fun rr _ _=>rr.plain=true∧rr=dB (decide (lo≤n∧n≤up)):=by
 refine ae0 rfl fun Q hQ=> ?_
 unfold JX
 repeat' (first| (with_reducible first| (refine hK _ _ _ ?_;clear hK K)|refine Z1 ?_)| (with_reducible first|refine Y2 fun K hK=> ?_|refine Y6 (fun h=> ?_) fun h=> ?_)<;>(simp only[go_sem])| ((with_reducible refine Y8 ?_);try simp only[AQ.then,AQ.blk,reduceIte,Nat.reduceEqDiff])|fail)
 all_goals first|with_reducible refine aZ hQ _ rfl rfl ?_|skip
 all_goals first|exact pD (by omega)|exact q9 (by omega)|exact j7 (by omega)|rfl
theorem fE {n:Int} {lo:Int} {up:Int} (h:K (dB (decide (lo≤n∧n≤up))) H nx):aB Tryz.prog cQ [dI n,dI lo,dI up] H nx K:=
 (agS n lo up).pure rfl (aI ⟨aE rfl,aE rfl,aE rfl,trivial⟩) (fun r hr=>hr▸h)
theorem aEC (n lo up:Int):aB Tryz.prog y2 [dI n,dI lo,dI up] .nil 0 fun rr _ _=>rr.plain=true∧rr=dB (decide (lo≤n∧n≤up)):=by
 refine aD6 rfl fun Q hQ=> ?_
 unfold aBW
 repeat' (first| (with_reducible first| (refine hK _ _ _ ?_;clear hK K)|refine Z1 ?_)| (with_reducible first|refine Y2 fun K hK=> ?_|refine Y6 (fun h=> ?_) fun h=> ?_)<;>(simp only[go_sem])| ((with_reducible refine Y8 ?_);try simp only[AQ.then,AQ.blk,reduceIte,Nat.reduceEqDiff])|fail)
 all_goals first|with_reducible refine aZ hQ _ rfl rfl ?_|skip
 all_goals first|exact pD (by omega)|exact q9 (by omega)|exact j7 (by omega)|rfl
theorem aBC {n:Int} {lo:Int} {up:Int} (h:K (dB (decide (lo≤n∧n≤up))) H nx):aB Tryz.prog y2 [dI n,dI lo,dI up] H nx K:=
 (aEC n lo up).pure rfl (aI ⟨aE rfl,aE rfl,aE rfl,trivial⟩) (fun r hr=>hr▸h)
theorem OC (n:Int):aB Tryz.prog jA [dI n] .nil 0 fun rr _ _=>rr.plain=true∧rr=dB (decide (0≤n∧n≤2)):=by
 refine MZ rfl fun Q hQ=> ?_
 unfold sZ
 repeat' (first| (with_reducible first| (refine hK _ _ _ ?_;clear hK K)|refine Z1 ?_)| (first| (with_reducible refine Y2 fun K hK=> ?_)| (with_reducible refine fE ?_))<;>(simp only[go_sem])| ((with_reducible refine Y8 ?_);try simp only[AQ.then,AQ.blk,reduceIte,Nat.reduceEqDiff])|fail)
 all_goals first|with_reducible refine aZ hQ _ rfl rfl ?_|skip
 all_goals first|exact pD (by omega)|exact q9 (by omega)|exact j7 (by omega)|rfl
theorem oR {n:Int} (h:K (dB (decide (0≤n∧n≤2))) H nx):aB Tryz.prog jA [dI n] H nx K:=
 (OC n).pure rfl (aI ⟨aE rfl,trivial⟩) (fun r hr=>hr▸h)
theorem TM (n:Int):aB Tryz.prog tR [dI n] .nil 0 fun rr _ _=>rr.plain=true∧rr=dB (decide (0≤n∧n≤65535)):=by
 refine QH rfl fun Q hQ=> ?_
 unfold yN
 repeat' (first| (with_reducible first| (refine hK _ _ _ ?_;clear hK K)|refine Z1 ?_)| (first| (with_reducible refine Y2 fun K hK=> ?_)| (with_reducible refine fE ?_))<;>(simp only[go_sem])| ((with_reducible refine Y8 ?_);try simp only[AQ.then,AQ.blk,reduceIte,Nat.reduceEqDiff])|fail)
 all_goals first|with_reducible refine aZ hQ _ rfl rfl ?_|skip
 all_goals first|exact pD (by omega)|exact q9 (by omega)|exact j7 (by omega)|rfl
theorem U5 {n:Int} (h:K (dB (decide (0≤n∧n≤65535))) H nx):aB Tryz.prog tR [dI n] H nx K:=
 (TM n).pure rfl (aI ⟨aE rfl,trivial⟩) (fun r hr=>hr▸h)
theorem XR (addr many:Int) (wrap:Bool):aB Tryz.prog nI [dI addr,dI many,dB wrap] .nil 0 fun rr _ _=>rr.plain=true∧rr=dB (decide (o7 addr many wrap)):=by
 refine VQ rfl fun Q hQ=> ?_
 unfold z5
 repeat' (first| (with_reducible first| (refine hK _ _ _ ?_;clear hK K)|refine Z1 ?_)| (first| (with_reducible first|refine Y2 fun K hK=> ?_|refine Y6 (fun h=> ?_) fun h=> ?_| (refine Y7 (fun h=> ?_) (fun h=> ?_)<;>try subst h))| (with_reducible refine fE ?_))<;>(simp only[go_sem];try simp (disch:=omega) only[Iw])| ((with_reducible refine Y8 ?_);try simp only[AQ.then,AQ.blk,reduceIte,Nat.reduceEqDiff])|fail)
 all_goals first|with_reducible refine aZ hQ _ rfl rfl ?_|skip
 all_goals unfold o7
 all_goals first|exact pD (by simp;omega)|exact q9 (by simp;omega)|exact j7 (by simp;omega)
theorem wS {addr:Int} {many:Int} {wrap:Bool} (h:K (dB (decide (o7 addr many wrap))) H nx):aB Tryz.prog nI [dI addr,dI many,dB wrap] H nx K:=
 (XR addr many wrap).pure rfl (aI ⟨aE rfl,aE rfl,aE rfl,trivial⟩) (fun r hr=>hr▸h)
theorem aD2 (addr many:Int) (wrap:Bool):aB Tryz.prog aA6 [dI addr,dI many,dB wrap] .nil 0 fun rr _ _=>rr.plain=true∧rr=dB (decide (o7 addr many wrap)):=by
 refine aDX rfl fun Q hQ=> ?_
 unfold aBN
 repeat' (first| (with_reducible first| (refine hK _ _ _ ?_;clear hK K)| (refine hA ?_;clear hA hB A B)| (refine hB ?_;clear hA hB A B)|refine Z1 ?_|refine Z2 ?_|refine Z6 (fun h=> ?_) fun h=> ?_)| (first| (with_reducible first|refine Y2 fun K hK=> ?_|refine Y3 fun A B hA hB=> ?_|refine Y6 (fun h=> ?_) fun h=> ?_| (refine Y7 (fun h=> ?_) (fun h=> ?_)<;>try subst h))| (with_reducible refine aBC ?_))<;>(simp only[go_sem];try simp (disch:=omega) only[Iw])| ((with_reducible refine Y8 ?_);try simp only[AQ.then,AQ.blk,reduceIte,Nat.reduceEqDiff])|fail)
 all_goals first|with_reducible refine aZ hQ _ rfl rfl ?_|skip
 all_goals unfold o7
 all_goals first|exact pD (by simp;omega)|exact q9 (by simp;omega)|exact j7 (by simp;omega)
theorem aCI {addr:Int} {many:Int} {wrap:Bool} (h:K (dB (decide (o7 addr many wrap))) H nx):aB Tryz.prog aA6 [dI addr,dI many,dB wrap] H nx K:=
 (aD2 addr many wrap).pure rfl (aI ⟨aE rfl,aE rfl,aE rfl,trivial⟩) (fun r hr=>hr▸h)
theorem aDR (l:List Rng) (addr:Int) (hl:l.length<2^40):aB Tryz.prog aAX [dS (l.map eN),dI addr] .nil 0 fun rr _ _=>rr.plain=true∧rr=dI (bK (inR · addr) l):=by
 refine aDK rfl fun Q hQ=> ?_
 unfold aBH
 repeat' (first| (with_reducible first| (refine hK _ _ _ ?_;clear hK K)|refine Z1 ?_|refine Z3 fun KB hKB=> ?_)| (with_reducible refine Y2 fun K hK=> ?_)<;>(simp only[go_sem])|fail)
 (have hKX:=hKB;clear hKB);(refine aM.loop (α:={k:Nat//k≤l.length∧(∀i,i<k→inR (l.getD i default) addr=false)}) (fun u=>en [(5,dI u.1),(1,dI addr),(0,dS (l.map eN))]) (fun _=>.nil) _ (fun u=>l.length-u.1) ⟨0,by omega,(by intros;first|trivial|omega)⟩ (bU (Nat.le_refl _) (by repeat' (first| (with_reducible first|exact C1|refine C2 ?_ ?_)| ((with_reducible refine D0 ?_);exact CA rfl)|fail))) ?_);(rintro⟨k,hk,hinv⟩ KL hKL)
 repeat' (first| (with_reducible first| (refine hK _ _ _ ?_;clear hK K)| (refine hA ?_;clear hA hB A B)| (refine hB ?_;clear hA hB A B)|refine Z1 ?_|refine Z2 ?_|refine Z3 fun KB hKB=> ?_|refine Z6 (fun h=> ?_) fun h=> ?_|refine hKX _ _ _ ?_)| (first| (with_reducible first|refine Y2 fun K hK=> ?_|refine Y3 fun A B hA hB=> ?_)| (with_reducible refine aBC ?_))<;>(simp only[go_sem];try simp (disch:=omega) only[Iw])| ((with_reducible first|refine Y8 ?_|refine Y9 ?_);try simp only[AQ.then,AQ.blk,reduceIte,Nat.reduceEqDiff])| ((with_reducible refine Y0 ?_);simp only[AQ.then,AQ.blk])|refine⟨by omega,?_⟩| (with_reducible refine hKB _ _ _ ?_)|fail)
 ·refine aZ hQ _ rfl rfl (qA (Eq.symm (CU (by omega) (decide_eq_true (by omega)) hinv)))
 · (refine hKL _ _ _ ⟨k+1,by omega,iS hinv (decide_eq_false (by omega))⟩ (by omega) (by(try dsimp only);omega) (bU (Nat.le_refl _) (by repeat' (first| (with_reducible first|exact C1|refine C2 ?_ ?_)| ((with_reducible refine D0 ?_);exact CA rfl)|fail))))
 ·refine aZ hQ _ rfl rfl (qA (Eq.symm (tI fun i hi=>hinv i (by omega))))
theorem aB0 {l:List Rng} {addr:Int} (hl:l.length<2^40) (h:K (dI (bK (inR · addr) l)) H nx):aB Tryz.prog aAX [dS (l.map eN),dI addr] H nx K:=
 (aDR l addr hl).pure rfl (aI ⟨aE rfl,aE rfl,trivial⟩) (fun r hr=>hr▸h)
theorem aDI (l:List Rng) (all:List Int) (hl:l.length<2^40) (ha:all.length<2^40):aB Tryz.prog aA4 [dS (l.map eN),dS (all.map aJ)] .nil 0 fun rr _ _=>rr.plain=true∧rr=dI (bV l all):=by
 refine aDA rfl fun Q hQ=> ?_
 unfold aBD
 repeat' (first| (with_reducible first| (refine hK _ _ _ ?_;clear hK K)| (refine hA ?_;clear hA hB A B)| (refine hB ?_;clear hA hB A B)|refine Z1 ?_|refine Z2 ?_|refine Z3 fun KB hKB=> ?_|refine Z6 (fun h=> ?_) fun h=> ?_)| (first| (with_reducible first|refine Y2 fun K hK=> ?_|refine Y3 fun A B hA hB=> ?_)| (with_reducible refine aB0 hl ?_))<;>(simp only[go_sem])| ((with_reducible refine Y8 ?_);try simp only[AQ.then,AQ.blk,reduceIte,Nat.reduceEqDiff])|refine⟨by omega,?_⟩|fail)
 ·exact aZ hQ _ rfl rfl (qA (adL (by omega)).symm)
 (have hKX:=hKB;clear hKB);(refine aM.loop (α:={k:Nat//k≤all.length∧(∀i,i<k→1≤i→bK (inR · (all.getD i default)) l=bK (inR · (all.getD 0 default)) l)}) (fun u=>en [(6,dI u.1),(5,dI (bK (inR · (all.getD 0 default)) l)),(1,dS (all.map aJ)),(0,dS (l.map eN))]) (fun _=>.nil) _ (fun u=>all.length-u.1) ⟨1,by omega,(by intros;first|trivial|omega)⟩ (bU (Nat.le_refl _) (by repeat' (first| (with_reducible first|exact C1|refine C2 ?_ ?_)| ((with_reducible refine D0 ?_);exact CA rfl)|fail))) ?_);(rintro⟨k,hk,hinv⟩ KL hKL)
 repeat' (first| (with_reducible first| (refine hK _ _ _ ?_;clear hK K)| (refine hA ?_;clear hA hB A B)| (refine hB ?_;clear hA hB A B)|refine Z1 ?_|refine Z2 ?_|refine Z3 fun KB hKB=> ?_|refine Z6 (fun h=> ?_) fun h=> ?_|refine hKX _ _ _ ?_)| (first| (with_reducible first|refine Y2 fun K hK=> ?_|refine Y3 fun A B hA hB=> ?_)| (with_reducible refine aB0 hl ?_))<;>(simp only[go_sem];try simp (disch:=omega) only[Iw])| ((with_reducible first|refine Y8 ?_|refine Y9 ?_);try simp only[AQ.then,AQ.blk,reduceIte,Nat.reduceEqDiff])| ((with_reducible refine Y0 ?_);simp only[AQ.then,AQ.blk])|refine⟨by omega,?_⟩| (with_reducible refine hKB _ _ _ ?_)|fail)
 ·exact aZ hQ _ rfl rfl (qA (L8 (i:=k) (by omega) (by omega)).symm)
 · (refine hKL _ _ _ ⟨k+1,by omega,iS hinv (fun _=>by omega)⟩ (by omega) (by(try dsimp only);omega) (bU (Nat.le_refl _) (by repeat' (first| (with_reducible first|exact C1|refine C2 ?_ ?_)| ((with_reducible refine D0 ?_);exact CA rfl)|fail))))
 ·exact aZ hQ _ rfl rfl (qA (RH (by omega) (fun i hi=>hinv i (by omega))).symm)
theorem aDG {l:List Rng} {all:List Int} (hl:l.length<2^40) (ha:all.length<2^40) (h:K (dI (bV l all)) H nx):aB Tryz.prog aA4 [dS (l.map eN),dS (all.map aJ)] H nx K:=
 (aDI l all hl ha).pure rfl (aI ⟨aE rfl,aE rfl,trivial⟩) (fun r hr=>hr▸h)
theorem aC0 (q:Req):aB Tryz.prog aAZ [dA (eB q)] .nil 0 fun rr _ _=>rr.plain=true∧rr=dB (wrM q):=by
 refine aCU rfl fun Q hQ=> ?_
 unfold aBB
 repeat' (first| (with_reducible first| (refine hK _ _ _ ?_;clear hK K)|refine Z1 ?_)| (with_reducible first|refine Y2 fun K hK=> ?_|refine Y6 (fun h=> ?_) fun h=> ?_)<;>(simp only[go_sem])| ((with_reducible refine Y8 ?_);try simp only[AQ.then,AQ.blk,reduceIte,Nat.reduceEqDiff])|fail)
 all_goals first|with_reducible refine aZ hQ _ rfl rfl ?_|skip
 all_goals unfold wrM
 all_goals first|exact pD (by omega)|exact q9 (by omega)|exact j7 (by omega)|rfl
theorem aC2 {q:Req} (h:K (dB (wrM q)) H nx):aB Tryz.prog aAZ [dA (eB q)] H nx K:=
 (aC0 q).pure rfl (aI ⟨aE rfl,trivial⟩) (fun r hr=>hr▸h)
theorem aC3 (addr many:Int) (wrap:Bool):aB Tryz.prog aAY [dI addr,dI many,dB wrap] .nil 0 fun rr _ nn=>nn=0∧rr.imm=true∧rr=dS ((bE addr many wrap).map aJ):=by
 refine aCR rfl fun Q hQ=> ?_
 unfold aBA
 repeat' (first| (with_reducible first| (refine hK _ _ _ ?_;clear hK K)| (refine hA ?_;clear hA hB A B)| (refine hB ?_;clear hA hB A B)|refine Z1 ?_|refine Z2 ?_|refine Z6 (fun h=> ?_) fun h=> ?_)| (first| (with_reducible first|refine Y2 fun K hK=> ?_|refine Y3 fun A B hA hB=> ?_)| (with_reducible refine aCI ?_))<;>(simp only[go_sem])| ((with_reducible refine Y8 ?_);try simp only[AQ.then,AQ.blk,reduceIte,Nat.reduceEqDiff])|fail)
 ·exact V4 hQ (dS []) _ rfl xG rfl (by simp[bE,h])
 have hok:=Classical.not_not.1 h
 obtain⟨f1,f2,f3,f4,f5,f6,f7,f8⟩:=aaA hok
 clear h
 rw[f6]
 refine⟨f1,?_⟩
 rw[IntWalk.i64_in (addr-_) (by omega)]
 repeat' (first| (with_reducible first| (refine hK _ _ _ ?_;clear hK K)|refine Z1 ?_|refine Z3 fun KB hKB=> ?_)| (with_reducible refine Y2 fun K hK=> ?_)<;>(simp only[go_sem])|fail)
 (have hKX:=hKB;clear hKB)
 refine aM.ar4 1 (α:={p:Nat×Nat//p.1≤many.toNat∧p.1≤p.2}) (fun b u=>en [(9,dI u.1.1),(8,dI (addr-addr%many)),(7,dO 1 b u.1.1 u.1.2),(2,dB wrap),(1,dI many),(0,dI addr)])
  (fun b u=>hp [(b,⟨1,u.1.2,((List.range u.1.1).map (bAt addr many wrap)).map aJ⟩)]) (fun u=>many.toNat-u.1.1) ⟨(0,0),by omega,by omega⟩ (by(refine cR [1] (by omega) (by repeat' (first| (with_reducible first|exact C1|refine C2 ?_ ?_)| ((with_reducible refine C0 ?_);exact CC)| ((with_reducible refine D0 ?_);first|exact CA rfl|refine CJ ?_)|fail)) ⟨⟨by simp,by simp[sgL],_,rfl,bP (aG bF _) rfl rfl⟩,trivial⟩ (by simp[sgL]))) ?_
 rintro⟨⟨k,cap⟩,hk,hc⟩ KL hKL
 dsimp only at hk hc
 by_cases hlt:k<many.toNat
 ·obtain⟨g1,g2,g3⟩:=agW hok k hlt
  repeat' (first| (with_reducible first| (refine hK _ _ _ ?_;clear hK K)| (refine hA ?_;clear hA hB A B)| (refine hB ?_;clear hA hB A B)|refine Z1 ?_|refine Z2 ?_|refine Z3 fun KB hKB=> ?_|refine Z4 (by omega) ?_|refine fun(cap:Nat) (hcap:_≤cap)=> ?_|refine fun(hcp:_≤cap)=> ?_)| (with_reducible first|refine Y2 fun K hK=> ?_|refine Y3 fun A B hA hB=> ?_)<;>(simp only[go_sem];try simp (disch:=omega) only[Iw])| ((with_reducible refine Y0 ?_);simp only[AQ.then,AQ.blk])| ((with_reducible refine Z8 (fun h=> ?_) (fun h=> ?_))<;>try subst h)|refine⟨by omega,?_⟩| (with_reducible refine hKB _ _ _ ?_)|fail)
  ·refine hKL _ _ _ ⟨(k+1,cap),by omega,by omega⟩ (by omega) (by dsimp only;omega) (by(refine cR [31] (by omega) (by repeat' (first| (with_reducible first|exact C1|refine C2 ?_ ?_)| ((with_reducible refine C0 ?_);exact CQ (by omega) rfl rfl (by rfl) rfl)| ((with_reducible refine D0 ?_);first|exact CA rfl|refine CJ ?_)|fail)) ⟨⟨by simp,by simp[sgL],_,rfl,bP (aG bF _) (congrArg _ (aDH (by simp only[bAt,if_true];exact g3))) rfl⟩,trivial⟩ (by simp[sgL])))
  ·refine hKL _ _ _ ⟨(k+1,cap),by omega,by omega⟩ (by omega) (by dsimp only;omega) (by(refine cR [25] (by omega) (by repeat' (first| (with_reducible first|exact C1|refine C2 ?_ ?_)| ((with_reducible refine C0 ?_);exact CQ (by omega) rfl rfl (by rfl) rfl)| ((with_reducible refine D0 ?_);first|exact CA rfl|refine CJ ?_)|fail)) ⟨⟨by simp,by simp[sgL],_,rfl,bP (aG bF _) (congrArg _ (aDH rfl)) rfl⟩,trivial⟩ (by simp[sgL])))
 ·repeat' (first| (with_reducible first| (refine hK _ _ _ ?_;clear hK K)| (refine hB ?_;clear hA hB A B)|refine Z1 ?_|refine Z5 (by omega) ?_|refine hKX _ _ _ ?_)| (with_reducible first|refine Y2 fun K hK=> ?_|refine Y3 fun A B hA hB=> ?_)<;>(simp only[go_sem])| ((with_reducible first|refine Y8 ?_|refine Y9 ?_);try simp only[AQ.then,AQ.blk,reduceIte,Nat.reduceEqDiff])|fail)
  ·refine V4 hQ (dS _) _ rfl (yP bF rfl (by simp) (by simpa using hc) trivial) rfl ?_
   have:k=many.toNat:=by omega
   subst this
   simp[bE,hok]
theorem aC9 {addr:Int} {many:Int} {wrap:Bool} (h:K (dS ((bE addr many wrap).map aJ)) H nx):aB Tryz.prog aAY [dI addr,dI many,dB wrap] H nx K:=
 (aC3 addr many wrap).fresh rfl (fun r hr=>hr▸h)
end
end Go.Proofs.YtmccpdapaccnoaaGreat
end
section
namespace Go.Proofs.YtmccpdapaccnoaaGreat
open Go Go.AM
set_option maxRecDepth 100000
section
variable {H : aA} {nx : Nat} {K : D → aA → Nat → Prop}
theorem nC (l:List Rng) (f:FuncId) (caps:List D1) (p:Rng→Bool) (hl:l.length<2^40) (hc:caps.all D1.dQ=true) (hf: ∀x∈l,∀(H:aA) (nx:Nat) (K:D→aA→Nat→Prop),K (dB (p x)) H nx→aB Tryz.prog f (dA (eN x)::caps.map fun d=>.one (.c d)) H nx K):
 aB Tryz.prog bR [dS (l.map eN),.one (.c (.clo f caps))] .nil 0 fun r _ _=>r.plain=true∧r=dI (bK p l):=by
 refine mT rfl fun Q hQ=> ?_
 unfold dM
 repeat' (first| (with_reducible first| (refine hK _ _ _ ?_;clear hK K)|refine Z1 ?_|refine Z3 fun KB hKB=> ?_)| (with_reducible refine Y2 fun K hK=> ?_)<;>(simp only[go_sem])|fail)
 (have hKX:=hKB;clear hKB);(refine aM.loop (α:={k:Nat//k≤l.length∧(∀i,i<k→p (l.getD i default)=false)}) (fun u=>en [(8,dI u.1),(7,dI l.length),(1,.one (.c (.clo f caps))),(0,dS (l.map eN))]) (fun _=>.nil) _ (fun u=>l.length-u.1) ⟨0,by omega,(by intros;first|trivial|omega)⟩ (bU (Nat.le_refl _) (by repeat' (first| (with_reducible first|exact C1|refine C2 ?_ ?_)| ((with_reducible refine C0 ?_);exact CH (by assumption))| ((with_reducible refine D0 ?_);first|exact CA rfl|refine CJ ?_)|fail))) ?_);(rintro⟨k,hk,hinv⟩ KL hKL)
 by_cases hlt:k<l.length
 ·have hmem:l.getD k default∈l:=by simp[List.getD,hlt]
  repeat' (first| (with_reducible first| (refine hK _ _ _ ?_;clear hK K)| (refine hA ?_;clear hA hB A B)| (refine hB ?_;clear hA hB A B)|refine Z1 ?_|refine Z2 ?_|refine Z3 fun KB hKB=> ?_|refine Z4 (by omega) ?_)| (first| (with_reducible first|refine Y2 fun K hK=> ?_|refine Y3 fun A B hA hB=> ?_)| (with_reducible refine hf _ hmem _ _ _ ?_))<;>(simp only[go_sem];try simp (disch:=omega) only[Iw])| ((with_reducible refine Y8 ?_);try simp only[AQ.then,AQ.blk,reduceIte,Nat.reduceEqDiff])| ((with_reducible refine Y0 ?_);simp only[AQ.then,AQ.blk])| ((with_reducible refine Z8 (fun h=> ?_) (fun h=> ?_))<;>try subst h)|refine⟨by omega,?_⟩| (with_reducible refine hKB _ _ _ ?_)|fail)
  ·refine aZ hQ _ rfl rfl (qA (Eq.symm (CU (by omega) (by assumption) hinv)))
  · (refine hKL _ _ _ ⟨k+1,by omega,iS hinv (by assumption)⟩ (by omega) (by(try dsimp only);omega) (bU (Nat.le_refl _) (by repeat' (first| (with_reducible first|exact C1|refine C2 ?_ ?_)| ((with_reducible refine C0 ?_);exact CH (by assumption))| ((with_reducible refine D0 ?_);first|exact CA rfl|refine CJ ?_)|fail))))
 ·repeat' (first| (with_reducible first| (refine hK _ _ _ ?_;clear hK K)| (refine hB ?_;clear hA hB A B)|refine Z1 ?_|refine Z5 (by omega) ?_|refine hKX _ _ _ ?_)| (with_reducible first|refine Y2 fun K hK=> ?_|refine Y3 fun A B hA hB=> ?_)<;>(simp only[go_sem])| ((with_reducible first|refine Y8 ?_|refine Y9 ?_);try simp only[AQ.then,AQ.blk,reduceIte,Nat.reduceEqDiff])|fail)
  ·refine aZ hQ _ rfl rfl (qA (Eq.symm (tI fun i hi=>hinv i (by omega))))
theorem gS {l:List Rng} {f:FuncId} {caps caps0:List D1} {p:Rng→Bool} {d:D} (hl:l.length<2^40) (hc:caps.all D1.dQ=true) (hd:CvD H (fun _=>True) id 0 (dS (l.map eN)) d) (hk:CvD H (fun _=>True) id 0 (.one (.c (.clo f caps))) (.one (.c (.clo f caps0)))) (hf: ∀x∈l,∀(H:aA) (nx:Nat) (K:D→aA→Nat→Prop),K (dB (p x)) H nx→aB Tryz.prog f (dA (eN x)::caps.map fun d=>.one (.c d)) H nx K)
 (h:K (dI (bK p l)) H nx):aB Tryz.prog bR [d,.one (.c (.clo f caps0))] H nx K:=
 (nC l f caps p hl hc hf).pure rfl (aI ⟨hd,hk,trivial⟩) fun r hr=>hr▸h
theorem lO (l:List Rng) (f:FuncId) (caps:List D1) (p:Rng→Bool) (hl:l.length<2^40) (hc:caps.all D1.dQ=true) (hf: ∀x∈l,∀(H:aA) (nx:Nat) (K:D→aA→Nat→Prop),K (dB (p x)) H nx→aB Tryz.prog f (dA (eN x)::caps.map fun d=>.one (.c d)) H nx K):
 aB Tryz.prog bX [dS (l.map eN),.one (.c (.clo f caps))] .nil 0 fun r _ _=>r.plain=true∧r=dB (decide (0≤bK p l)):=by
 refine lF rfl fun Q hQ=> ?_
 unfold cY
 repeat' (first| (with_reducible first| (refine hK _ _ _ ?_;clear hK K)|refine Z1 ?_)| (first| (with_reducible refine Y2 fun K hK=> ?_)| (refine gS hl hc (aE rfl) (kC hc) hf ?_))<;>(simp only[go_sem])| ((with_reducible refine Y8 ?_);try simp only[AQ.then,AQ.blk,reduceIte,Nat.reduceEqDiff])|fail)
 all_goals exact aZ hQ _ rfl rfl rfl
theorem lN {l:List Rng} {f:FuncId} {caps caps0:List D1} {p:Rng→Bool} {d:D} (hl:l.length<2^40) (hc:caps.all D1.dQ=true) (hd:CvD H (fun _=>True) id 0 (dS (l.map eN)) d) (hk:CvD H (fun _=>True) id 0 (.one (.c (.clo f caps))) (.one (.c (.clo f caps0)))) (hf: ∀x∈l,∀(H:aA) (nx:Nat) (K:D→aA→Nat→Prop),K (dB (p x)) H nx→aB Tryz.prog f (dA (eN x)::caps.map fun d=>.one (.c d)) H nx K)
 (h:K (dB (decide (0≤bK p l))) H nx):aB Tryz.prog bX [d,.one (.c (.clo f caps0))] H nx K:=
 (lO l f caps p hl hc hf).pure rfl (aI ⟨hd,hk,trivial⟩) fun r hr=>hr▸h
theorem wN (l:List Int) (f:FuncId) (caps:List D1) (p:Int→Bool) (hl:l.length<2^40) (hc:caps.all D1.dQ=true) (hf: ∀x∈l,∀(H:aA) (nx:Nat) (K:D→aA→Nat→Prop),K (dB (p x)) H nx→aB Tryz.prog f (dI x::caps.map fun d=>.one (.c d)) H nx K):
 aB Tryz.prog fF [dS (l.map aJ),.one (.c (.clo f caps))] .nil 0 fun r _ _=>r.plain=true∧r=dI (bK p l):=by
 refine uY rfl fun Q hQ=> ?_
 unfold gX
 repeat' (first| (with_reducible first| (refine hK _ _ _ ?_;clear hK K)|refine Z1 ?_|refine Z3 fun KB hKB=> ?_)| (with_reducible refine Y2 fun K hK=> ?_)<;>(simp only[go_sem])|fail)
 (have hKX:=hKB;clear hKB);(refine aM.loop (α:={k:Nat//k≤l.length∧(∀i,i<k→p (l.getD i default)=false)}) (fun u=>en [(8,dI u.1),(7,dI l.length),(1,.one (.c (.clo f caps))),(0,dS (l.map aJ))]) (fun _=>.nil) _ (fun u=>l.length-u.1) ⟨0,by omega,(by intros;first|trivial|omega)⟩ (bU (Nat.le_refl _) (by repeat' (first| (with_reducible first|exact C1|refine C2 ?_ ?_)| ((with_reducible refine C0 ?_);exact CH (by assumption))| ((with_reducible refine D0 ?_);first|exact CA rfl|refine CJ ?_)|fail))) ?_);(rintro⟨k,hk,hinv⟩ KL hKL)
 by_cases hlt:k<l.length
 ·have hmem:l.getD k default∈l:=by simp[List.getD,hlt]
  repeat' (first| (with_reducible first| (refine hK _ _ _ ?_;clear hK K)| (refine hA ?_;clear hA hB A B)| (refine hB ?_;clear hA hB A B)|refine Z1 ?_|refine Z2 ?_|refine Z3 fun KB hKB=> ?_|refine Z4 (by omega) ?_)| (first| (with_reducible first|refine Y2 fun K hK=> ?_|refine Y3 fun A B hA hB=> ?_)| (with_reducible refine hf _ hmem _ _ _ ?_))<;>(simp only[go_sem];try simp (disch:=omega) only[Iw])| ((with_reducible refine Y8 ?_);try simp only[AQ.then,AQ.blk,reduceIte,Nat.reduceEqDiff])| ((with_reducible refine Y0 ?_);simp only[AQ.then,AQ.blk])| ((with_reducible refine Z8 (fun h=> ?_) (fun h=> ?_))<;>try subst h)|refine⟨by omega,?_⟩| (with_reducible refine hKB _ _ _ ?_)|fail)
  ·refine aZ hQ _ rfl rfl (qA (Eq.symm (CU (by omega) (by assumption) hinv)))
  · (refine hKL _ _ _ ⟨k+1,by omega,iS hinv (by assumption)⟩ (by omega) (by(try dsimp only);omega) (bU (Nat.le_refl _) (by repeat' (first| (with_reducible first|exact C1|refine C2 ?_ ?_)| ((with_reducible refine C0 ?_);exact CH (by assumption))| ((with_reducible refine D0 ?_);first|exact CA rfl|refine CJ ?_)|fail))))
 ·repeat' (first| (with_reducible first| (refine hK _ _ _ ?_;clear hK K)| (refine hB ?_;clear hA hB A B)|refine Z1 ?_|refine Z5 (by omega) ?_|refine hKX _ _ _ ?_)| (with_reducible first|refine Y2 fun K hK=> ?_|refine Y3 fun A B hA hB=> ?_)<;>(simp only[go_sem])| ((with_reducible first|refine Y8 ?_|refine Y9 ?_);try simp only[AQ.then,AQ.blk,reduceIte,Nat.reduceEqDiff])|fail)
  ·refine aZ hQ _ rfl rfl (qA (Eq.symm (tI fun i hi=>hinv i (by omega))))
theorem wO {l:List Int} {f:FuncId} {caps caps0:List D1} {p:Int→Bool} {d:D} (hl:l.length<2^40) (hc:caps.all D1.dQ=true) (hd:CvD H (fun _=>True) id 0 (dS (l.map aJ)) d) (hk:CvD H (fun _=>True) id 0 (.one (.c (.clo f caps))) (.one (.c (.clo f caps0)))) (hf: ∀x∈l,∀(H:aA) (nx:Nat) (K:D→aA→Nat→Prop),K (dB (p x)) H nx→aB Tryz.prog f (dI x::caps.map fun d=>.one (.c d)) H nx K)
 (h:K (dI (bK p l)) H nx):aB Tryz.prog fF [d,.one (.c (.clo f caps0))] H nx K:=
 (wN l f caps p hl hc hf).pure rfl (aI ⟨hd,hk,trivial⟩) fun r hr=>hr▸h
theorem sR (l:List Int) (f:FuncId) (caps:List D1) (p:Int→Bool) (hl:l.length<2^40) (hc:caps.all D1.dQ=true) (hf: ∀x∈l,∀(H:aA) (nx:Nat) (K:D→aA→Nat→Prop),K (dB (p x)) H nx→aB Tryz.prog f (dI x::caps.map fun d=>.one (.c d)) H nx K):
 aB Tryz.prog bN [dS (l.map aJ),.one (.c (.clo f caps))] .nil 0 fun r _ _=>r.plain=true∧r=dB (decide (0≤bK p l)):=by
 refine r8 rfl fun Q hQ=> ?_
 unfold fX
 repeat' (first| (with_reducible first| (refine hK _ _ _ ?_;clear hK K)|refine Z1 ?_)| (first| (with_reducible refine Y2 fun K hK=> ?_)| (refine wO hl hc (aE rfl) (kC hc) hf ?_))<;>(simp only[go_sem])| ((with_reducible refine Y8 ?_);try simp only[AQ.then,AQ.blk,reduceIte,Nat.reduceEqDiff])|fail)
 all_goals exact aZ hQ _ rfl rfl rfl
theorem d8 {l:List Int} {f:FuncId} {caps caps0:List D1} {p:Int→Bool} {d:D} (hl:l.length<2^40) (hc:caps.all D1.dQ=true) (hd:CvD H (fun _=>True) id 0 (dS (l.map aJ)) d) (hk:CvD H (fun _=>True) id 0 (.one (.c (.clo f caps))) (.one (.c (.clo f caps0)))) (hf: ∀x∈l,∀(H:aA) (nx:Nat) (K:D→aA→Nat→Prop),K (dB (p x)) H nx→aB Tryz.prog f (dI x::caps.map fun d=>.one (.c d)) H nx K)
 (h:K (dB (decide (0≤bK p l))) H nx):aB Tryz.prog bN [d,.one (.c (.clo f caps0))] H nx K:=
 (sR l f caps p hl hc hf).pure rfl (aI ⟨hd,hk,trivial⟩) fun r hr=>hr▸h
theorem qH (l:List Req) (f:FuncId) (caps:List D1) (p:Req→Bool) (hl:l.length<2^40) (hc:caps.all D1.dQ=true) (hf: ∀x∈l,∀(H:aA) (nx:Nat) (K:D→aA→Nat→Prop),K (dB (p x)) H nx→aB Tryz.prog f (dA (eB x)::caps.map fun d=>.one (.c d)) H nx K):
 aB Tryz.prog dC [dS (l.map eB),.one (.c (.clo f caps))] .nil 0 fun r _ _=>r.plain=true∧r=dI (bK p l):=by
 refine pO rfl fun Q hQ=> ?_
 unfold eV
 repeat' (first| (with_reducible first| (refine hK _ _ _ ?_;clear hK K)|refine Z1 ?_|refine Z3 fun KB hKB=> ?_)| (with_reducible refine Y2 fun K hK=> ?_)<;>(simp only[go_sem])|fail)
 (have hKX:=hKB;clear hKB);(refine aM.loop (α:={k:Nat//k≤l.length∧(∀i,i<k→p (l.getD i default)=false)}) (fun u=>en [(8,dI u.1),(7,dI l.length),(1,.one (.c (.clo f caps))),(0,dS (l.map eB))]) (fun _=>.nil) _ (fun u=>l.length-u.1) ⟨0,by omega,(by intros;first|trivial|omega)⟩ (bU (Nat.le_refl _) (by repeat' (first| (with_reducible first|exact C1|refine C2 ?_ ?_)| ((with_reducible refine C0 ?_);exact CH (by assumption))| ((with_reducible refine D0 ?_);first|exact CA rfl|refine CJ ?_)|fail))) ?_);(rintro⟨k,hk,hinv⟩ KL hKL)
 by_cases hlt:k<l.length
 ·have hmem:l.getD k default∈l:=by simp[List.getD,hlt]
  repeat' (first| (with_reducible first| (refine hK _ _ _ ?_;clear hK K)| (refine hA ?_;clear hA hB A B)| (refine hB ?_;clear hA hB A B)|refine Z1 ?_|refine Z2 ?_|refine Z3 fun KB hKB=> ?_|refine Z4 (by omega) ?_)| (first| (with_reducible first|refine Y2 fun K hK=> ?_|refine Y3 fun A B hA hB=> ?_)| (with_reducible refine hf _ hmem _ _ _ ?_))<;>(simp only[go_sem];try simp (disch:=omega) only[Iw])| ((with_reducible refine Y8 ?_);try simp only[AQ.then,AQ.blk,reduceIte,Nat.reduceEqDiff])| ((with_reducible refine Y0 ?_);simp only[AQ.then,AQ.blk])| ((with_reducible refine Z8 (fun h=> ?_) (fun h=> ?_))<;>try subst h)|refine⟨by omega,?_⟩| (with_reducible refine hKB _ _ _ ?_)|fail)
  ·refine aZ hQ _ rfl rfl (qA (Eq.symm (CU (by omega) (by assumption) hinv)))
  · (refine hKL _ _ _ ⟨k+1,by omega,iS hinv (by assumption)⟩ (by omega) (by(try dsimp only);omega) (bU (Nat.le_refl _) (by repeat' (first| (with_reducible first|exact C1|refine C2 ?_ ?_)| ((with_reducible refine C0 ?_);exact CH (by assumption))| ((with_reducible refine D0 ?_);first|exact CA rfl|refine CJ ?_)|fail))))
 ·repeat' (first| (with_reducible first| (refine hK _ _ _ ?_;clear hK K)| (refine hB ?_;clear hA hB A B)|refine Z1 ?_|refine Z5 (by omega) ?_|refine hKX _ _ _ ?_)| (with_reducible first|refine Y2 fun K hK=> ?_|refine Y3 fun A B hA hB=> ?_)<;>(simp only[go_sem])| ((with_reducible first|refine Y8 ?_|refine Y9 ?_);try simp only[AQ.then,AQ.blk,reduceIte,Nat.reduceEqDiff])|fail)
  ·refine aZ hQ _ rfl rfl (qA (Eq.symm (tI fun i hi=>hinv i (by omega))))
theorem qC {l:List Req} {f:FuncId} {caps caps0:List D1} {p:Req→Bool} {d:D} (hl:l.length<2^40) (hc:caps.all D1.dQ=true) (hd:CvD H (fun _=>True) id 0 (dS (l.map eB)) d) (hk:CvD H (fun _=>True) id 0 (.one (.c (.clo f caps))) (.one (.c (.clo f caps0)))) (hf: ∀x∈l,∀(H:aA) (nx:Nat) (K:D→aA→Nat→Prop),K (dB (p x)) H nx→aB Tryz.prog f (dA (eB x)::caps.map fun d=>.one (.c d)) H nx K)
 (h:K (dI (bK p l)) H nx):aB Tryz.prog dC [d,.one (.c (.clo f caps0))] H nx K:=
 (qH l f caps p hl hc hf).pure rfl (aI ⟨hd,hk,trivial⟩) fun r hr=>hr▸h
theorem nT (l:List Req) (f:FuncId) (caps:List D1) (p:Req→Bool) (hl:l.length<2^40) (hc:caps.all D1.dQ=true) (hf: ∀x∈l,∀(H:aA) (nx:Nat) (K:D→aA→Nat→Prop),K (dB (p x)) H nx→aB Tryz.prog f (dA (eB x)::caps.map fun d=>.one (.c d)) H nx K):
 aB Tryz.prog cN [dS (l.map eB),.one (.c (.clo f caps))] .nil 0 fun r _ _=>r.plain=true∧r=dB (decide (0≤bK p l)):=by
 refine m7 rfl fun Q hQ=> ?_
 unfold dX
 repeat' (first| (with_reducible first| (refine hK _ _ _ ?_;clear hK K)| (refine hA ?_;clear hA hB A B)| (refine hB ?_;clear hA hB A B)|refine Z1 ?_|refine Z2 ?_|refine Z3 fun KB hKB=> ?_|refine Z4 (by omega) ?_|refine Z5 (by omega) ?_|refine Z6 (fun h=> ?_) fun h=> ?_|refine Z7 (fun h=> ?_) fun h=> ?_|refine fun(cap:Nat) (hcap:_≤cap)=> ?_|refine fun(hcp:_≤cap)=> ?_|refine fun(b:Bool)=> ?_|refine hKX _ _ _ ?_|refine hKY _ _ _ ?_|refine hKZ _ _ _ ?_)| (first| (with_reducible first|refine Y1 fun K hK=> ?_|refine Y2 fun K hK=> ?_|refine Y3 fun A B hA hB=> ?_|refine Y4 (by omega) ?_|refine Y5 (by omega) ?_|refine Y6 (fun h=> ?_) fun h=> ?_| (refine Y7 (fun h=> ?_) (fun h=> ?_)<;>try subst h))| (refine qC hl hc (aE rfl) (kC hc) hf ?_))<;>(simp only[go_sem];try simp (disch:=omega) only[Iw])| ((with_reducible first|refine Y8 ?_|refine Y9 ?_);try simp only[AQ.then,AQ.blk,reduceIte,Nat.reduceEqDiff])| ((with_reducible refine Y0 ?_);simp only[AQ.then,AQ.blk])| ((with_reducible refine Z8 (fun h=> ?_) (fun h=> ?_))<;>try subst h)|refine⟨by omega,?_⟩| (refine⟨by(rw[List.length_take];omega),?_⟩)| (with_reducible first|refine hKB _ _ _ ?_| (clear hKB KB;refine hKB _ _ _ ?_)| (clear hKB KB;clear hKB KB;refine hKB _ _ _ ?_))|fail)
 all_goals exact aZ hQ _ rfl rfl rfl
theorem nW {l:List Req} {f:FuncId} {caps caps0:List D1} {p:Req→Bool} {d:D} (hl:l.length<2^40) (hc:caps.all D1.dQ=true) (hd:CvD H (fun _=>True) id 0 (dS (l.map eB)) d) (hk:CvD H (fun _=>True) id 0 (.one (.c (.clo f caps))) (.one (.c (.clo f caps0)))) (hf: ∀x∈l,∀(H:aA) (nx:Nat) (K:D→aA→Nat→Prop),K (dB (p x)) H nx→aB Tryz.prog f (dA (eB x)::caps.map fun d=>.one (.c d)) H nx K)
 (h:K (dB (decide (0≤bK p l))) H nx):aB Tryz.prog cN [d,.one (.c (.clo f caps0))] H nx K:=
 (nT l f caps p hl hc hf).pure rfl (aI ⟨hd,hk,trivial⟩) fun r hr=>hr▸h
theorem oH (l:List (List Req)) (f:FuncId) (caps:List D1) (p:(List Req)→Bool) (hl:l.length<2^40) (hc:caps.all D1.dQ=true) (hf: ∀x∈l,∀(H:aA) (nx:Nat) (K:D→aA→Nat→Prop),K (dB (p x)) H nx→aB Tryz.prog f (dS (x.map eB)::caps.map fun d=>.one (.c d)) H nx K):
 aB Tryz.prog cT [dS (l.map jR),.one (.c (.clo f caps))] .nil 0 fun r _ _=>r.plain=true∧r=dI (bK p l):=by
 refine nU rfl fun Q hQ=> ?_
 unfold eD
 repeat' (first| (with_reducible first| (refine hK _ _ _ ?_;clear hK K)|refine Z1 ?_|refine Z3 fun KB hKB=> ?_)| (with_reducible refine Y2 fun K hK=> ?_)<;>(simp only[go_sem])|fail)
 (have hKX:=hKB;clear hKB);(refine aM.loop (α:={k:Nat//k≤l.length∧(∀i,i<k→p (l.getD i default)=false)}) (fun u=>en [(8,dI u.1),(7,dI l.length),(1,.one (.c (.clo f caps))),(0,dS (l.map jR))]) (fun _=>.nil) _ (fun u=>l.length-u.1) ⟨0,by omega,(by intros;first|trivial|omega)⟩ (bU (Nat.le_refl _) (by repeat' (first| (with_reducible first|exact C1|refine C2 ?_ ?_)| ((with_reducible refine C0 ?_);exact CH (by assumption))| ((with_reducible refine D0 ?_);first|exact CA rfl|refine CJ ?_)|fail))) ?_);(rintro⟨k,hk,hinv⟩ KL hKL)
 by_cases hlt:k<l.length
 ·have hmem:l.getD k default∈l:=by simp[List.getD,hlt]
  repeat' (first| (with_reducible first| (refine hK _ _ _ ?_;clear hK K)| (refine hA ?_;clear hA hB A B)| (refine hB ?_;clear hA hB A B)|refine Z1 ?_|refine Z2 ?_|refine Z3 fun KB hKB=> ?_|refine Z4 (by omega) ?_)| (first| (with_reducible first|refine Y2 fun K hK=> ?_|refine Y3 fun A B hA hB=> ?_)| (with_reducible refine hf _ hmem _ _ _ ?_))<;>(simp only[go_sem];try simp (disch:=omega) only[Iw])| ((with_reducible refine Y8 ?_);try simp only[AQ.then,AQ.blk,reduceIte,Nat.reduceEqDiff])| ((with_reducible refine Y0 ?_);simp only[AQ.then,AQ.blk])| ((with_reducible refine Z8 (fun h=> ?_) (fun h=> ?_))<;>try subst h)|refine⟨by omega,?_⟩| (with_reducible refine hKB _ _ _ ?_)|fail)
  ·refine aZ hQ _ rfl rfl (qA (Eq.symm (CU (by omega) (by assumption) hinv)))
  · (refine hKL _ _ _ ⟨k+1,by omega,iS hinv (by assumption)⟩ (by omega) (by(try dsimp only);omega) (bU (Nat.le_refl _) (by repeat' (first| (with_reducible first|exact C1|refine C2 ?_ ?_)| ((with_reducible refine C0 ?_);exact CH (by assumption))| ((with_reducible refine D0 ?_);first|exact CA rfl|refine CJ ?_)|fail))))
 ·repeat' (first| (with_reducible first| (refine hK _ _ _ ?_;clear hK K)| (refine hB ?_;clear hA hB A B)|refine Z1 ?_|refine Z5 (by omega) ?_|refine hKX _ _ _ ?_)| (with_reducible first|refine Y2 fun K hK=> ?_|refine Y3 fun A B hA hB=> ?_)<;>(simp only[go_sem])| ((with_reducible first|refine Y8 ?_|refine Y9 ?_);try simp only[AQ.then,AQ.blk,reduceIte,Nat.reduceEqDiff])|fail)
  ·refine aZ hQ _ rfl rfl (qA (Eq.symm (tI fun i hi=>hinv i (by omega))))
theorem oN {l:List (List Req)} {f:FuncId} {caps caps0:List D1} {p:(List Req)→Bool} {d:D} (hl:l.length<2^40) (hc:caps.all D1.dQ=true) (hd:CvD H (fun _=>True) id 0 (dS (l.map jR)) d) (hk:CvD H (fun _=>True) id 0 (.one (.c (.clo f caps))) (.one (.c (.clo f caps0)))) (hf: ∀x∈l,∀(H:aA) (nx:Nat) (K:D→aA→Nat→Prop),K (dB (p x)) H nx→aB Tryz.prog f (dS (x.map eB)::caps.map fun d=>.one (.c d)) H nx K)
 (h:K (dI (bK p l)) H nx):aB Tryz.prog cT [d,.one (.c (.clo f caps0))] H nx K:=
 (oH l f caps p hl hc hf).pure rfl (aI ⟨hd,hk,trivial⟩) fun r hr=>hr▸h
theorem mJ (l:List (List Req)) (f:FuncId) (caps:List D1) (p:(List Req)→Bool) (hl:l.length<2^40) (hc:caps.all D1.dQ=true) (hf: ∀x∈l,∀(H:aA) (nx:Nat) (K:D→aA→Nat→Prop),K (dB (p x)) H nx→aB Tryz.prog f (dS (x.map eB)::caps.map fun d=>.one (.c d)) H nx K):
 aB Tryz.prog cF [dS (l.map jR),.one (.c (.clo f caps))] .nil 0 fun r _ _=>r.plain=true∧r=dB (decide (0≤bK p l)):=by
 refine l7 rfl fun Q hQ=> ?_
 unfold dG
 repeat' (first| (with_reducible first| (refine hK _ _ _ ?_;clear hK K)| (refine hA ?_;clear hA hB A B)| (refine hB ?_;clear hA hB A B)|refine Z1 ?_|refine Z2 ?_|refine Z3 fun KB hKB=> ?_|refine Z4 (by omega) ?_|refine Z5 (by omega) ?_|refine Z6 (fun h=> ?_) fun h=> ?_|refine Z7 (fun h=> ?_) fun h=> ?_|refine fun(cap:Nat) (hcap:_≤cap)=> ?_|refine fun(hcp:_≤cap)=> ?_|refine fun(b:Bool)=> ?_|refine hKX _ _ _ ?_|refine hKY _ _ _ ?_|refine hKZ _ _ _ ?_)| (first| (with_reducible first|refine Y1 fun K hK=> ?_|refine Y2 fun K hK=> ?_|refine Y3 fun A B hA hB=> ?_|refine Y4 (by omega) ?_|refine Y5 (by omega) ?_|refine Y6 (fun h=> ?_) fun h=> ?_| (refine Y7 (fun h=> ?_) (fun h=> ?_)<;>try subst h))| (refine oN hl hc (aE rfl) (kC hc) hf ?_))<;>(simp only[go_sem];try simp (disch:=omega) only[Iw])| ((with_reducible first|refine Y8 ?_|refine Y9 ?_);try simp only[AQ.then,AQ.blk,reduceIte,Nat.reduceEqDiff])| ((with_reducible refine Y0 ?_);simp only[AQ.then,AQ.blk])| ((with_reducible refine Z8 (fun h=> ?_) (fun h=> ?_))<;>try subst h)|refine⟨by omega,?_⟩| (refine⟨by(rw[List.length_take];omega),?_⟩)| (with_reducible first|refine hKB _ _ _ ?_| (clear hKB KB;refine hKB _ _ _ ?_)| (clear hKB KB;clear hKB KB;refine hKB _ _ _ ?_))|fail)
 all_goals exact aZ hQ _ rfl rfl rfl
theorem mS {l:List (List Req)} {f:FuncId} {caps caps0:List D1} {p:(List Req)→Bool} {d:D} (hl:l.length<2^40) (hc:caps.all D1.dQ=true) (hd:CvD H (fun _=>True) id 0 (dS (l.map jR)) d) (hk:CvD H (fun _=>True) id 0 (.one (.c (.clo f caps))) (.one (.c (.clo f caps0)))) (hf: ∀x∈l,∀(H:aA) (nx:Nat) (K:D→aA→Nat→Prop),K (dB (p x)) H nx→aB Tryz.prog f (dS (x.map eB)::caps.map fun d=>.one (.c d)) H nx K)
 (h:K (dB (decide (0≤bK p l))) H nx):aB Tryz.prog cF [d,.one (.c (.clo f caps0))] H nx K:=
 (mJ l f caps p hl hc hf).pure rfl (aI ⟨hd,hk,trivial⟩) fun r hr=>hr▸h
end
end Go.Proofs.YtmccpdapaccnoaaGreat
end
section
namespace Go.Proofs.YtmccpdapaccnoaaGreat
open Go Go.AM
set_option maxRecDepth 100000
section
variable {H : aA} {nx : Nat} {K : D → aA → Nat → Prop}
theorem MJ (r:Rng) (addr:Int):aB Tryz.prog nJ [dA (eN r),.one (.c (.fQ [cI addr]))] .nil 0 fun rr _ _=>rr.plain=true∧rr=dB (inR r addr):=by
 refine J4 rfl fun Q hQ=> ?_
 unfold rO
 repeat' (first| (with_reducible first| (refine hK _ _ _ ?_;clear hK K)|refine Z1 ?_)| (first| (with_reducible refine Y2 fun K hK=> ?_)| (with_reducible refine fE ?_))<;>(simp only[go_sem])| ((with_reducible refine Y8 ?_);try simp only[AQ.then,AQ.blk,reduceIte,Nat.reduceEqDiff])|fail)
 all_goals first|with_reducible refine aZ hQ _ rfl rfl ?_|skip
 all_goals exact pD Iff.rfl
theorem NC {r:Rng} {addr:Int} (h:K (dB (inR r addr)) H nx):aB Tryz.prog nJ [dA (eN r),.one (.c (.fQ [cI addr]))] H nx K:=
 (MJ r addr).pure rfl (aI ⟨aE rfl,aE rfl,trivial⟩) (fun r hr=>hr▸h)
theorem R0 (l:List Rng) (addr:Int) (hl:l.length<2^40):aB Tryz.prog qX [dS (l.map eN),dI addr] .nil 0 fun rr _ _=>rr.plain=true∧rr=dI (bK (inR · addr) l):=by
 refine O4 rfl fun Q hQ=> ?_
 unfold u5
 repeat' (first| (with_reducible first| (refine hK _ _ _ ?_;clear hK K)|refine Z1 ?_)| (first| (with_reducible refine Y2 fun K hK=> ?_)| (refine gS (caps:=[.fQ [cI addr]]) (p:=(inR · addr)) hl rfl (aE rfl) (PR ⟨zE rfl trivial rfl rfl rfl,trivial⟩) (fun x _ H nx K h=>NC h) ?_))<;>(simp only[go_sem])| ((with_reducible refine Y8 ?_);try simp only[AQ.then,AQ.blk,reduceIte,Nat.reduceEqDiff])|fail)
 all_goals first|with_reducible refine aZ hQ _ rfl rfl ?_|skip
 all_goals first|rfl|exact qA (by omega)
theorem SX {l:List Rng} {addr:Int} (hl:l.length<2^40) (h:K (dI (bK (inR · addr) l)) H nx):aB Tryz.prog qX [dS (l.map eN),dI addr] H nx K:=
 (R0 l addr hl).pure rfl (aI ⟨aE rfl,aE rfl,trivial⟩) (fun r hr=>hr▸h)
theorem QR (q r:Rng):aB Tryz.prog rE [dA (eN q),.one (.c (.fQ (eN r)))] .nil 0 fun rr _ _=>rr.plain=true∧rr=dB (aaM q r):=by
 refine N2 rfl fun Q hQ=> ?_
 unfold u3
 repeat' (first| (with_reducible first| (refine hK _ _ _ ?_;clear hK K)|refine Z1 ?_)| (with_reducible first|refine Y2 fun K hK=> ?_|refine Y6 (fun h=> ?_) fun h=> ?_)<;>(simp only[go_sem])| ((with_reducible refine Y8 ?_);try simp only[AQ.then,AQ.blk,reduceIte,Nat.reduceEqDiff])|fail)
 all_goals first|with_reducible refine aZ hQ _ rfl rfl ?_|skip
 all_goals unfold aaM
 all_goals first|exact pD (by omega)|exact q9 (by omega)|exact j7 (by omega)
theorem RE {q:Rng} {r:Rng} (h:K (dB (aaM q r)) H nx):aB Tryz.prog rE [dA (eN q),.one (.c (.fQ (eN r)))] H nx K:=
 (QR q r).pure rfl (aI ⟨aE rfl,aE rfl,trivial⟩) (fun r hr=>hr▸h)
theorem YI (l:List Rng) (hl:l.length<2^40):aB Tryz.prog wR [dS (l.map eN)] .nil 0 fun rr _ _=>rr.plain=true∧rr=dB (decide (DH l)):=by
 refine VB rfl fun Q hQ=> ?_
 unfold zQ
 repeat' (first| (with_reducible first| (refine hK _ _ _ ?_;clear hK K)|refine Z1 ?_|refine Z3 fun KB hKB=> ?_)| (with_reducible refine Y2 fun K hK=> ?_)<;>(simp only[go_sem])|fail)
 (have hKX:=hKB;clear hKB);(refine aM.loop (α:={k:Nat//k≤l.length∧(∀i,i<k→V9 l i)}) (fun u=>en [(7,dI u.1),(6,dI l.length),(5,dS (l.map eN)),(0,dS (l.map eN))]) (fun _=>.nil) _ (fun u=>l.length-u.1) ⟨0,by omega,(by intros;first|trivial|omega)⟩ (bU (Nat.le_refl _) (by repeat' (first| (with_reducible first|exact C1|refine C2 ?_ ?_)| ((with_reducible refine D0 ?_);exact CA rfl)|fail))) ?_);(rintro⟨k,hk,hinv⟩ KL hKL)
 by_cases hlt:k<l.length
 ·repeat' (first| (with_reducible first| (refine hK _ _ _ ?_;clear hK K)| (refine hA ?_;clear hA hB A B)| (refine hB ?_;clear hA hB A B)|refine Z1 ?_|refine Z2 ?_|refine Z3 fun KB hKB=> ?_|refine Z4 (by omega) ?_|refine Z6 (fun h=> ?_) fun h=> ?_)| (first| (with_reducible first|refine Y2 fun K hK=> ?_|refine Y3 fun A B hA hB=> ?_|refine Y6 (fun h=> ?_) fun h=> ?_)| (with_reducible refine fE ?_)| (refine lN (l:=l.take k) (caps:=[.fQ (eN (l.getD k default))]) (p:=fun q=>aaM q (l.getD k default)) (by simp;omega) rfl (aE rfl) (PR ⟨zE rfl trivial rfl rfl rfl,trivial⟩) (fun x _ H nx K h=>RE h) ?_))<;>(simp only[go_sem];try simp (disch:=omega) only[Iw])| ((with_reducible refine Y8 ?_);try simp only[AQ.then,AQ.blk,reduceIte,Nat.reduceEqDiff])| ((with_reducible refine Y0 ?_);simp only[AQ.then,AQ.blk])|refine⟨by omega,?_⟩| (with_reducible refine hKB _ _ _ ?_)|fail)
  all_goals first
   | (refine aZ hQ _ rfl rfl (j7 fun hm=> ?_);have:=(hm.2 k hlt);unfold V9 SF at this;omega)
   | (refine hKL _ _ _ ⟨k+1,by omega,iS hinv (by unfold V9 SF;omega)⟩ (by omega) (by(try dsimp only);omega) (bU (Nat.le_refl _) (by repeat' (first| (with_reducible first|exact C1|refine C2 ?_ ?_)| ((with_reducible refine D0 ?_);exact CA rfl)|fail))))
 ·repeat' (first| (with_reducible first| (refine hK _ _ _ ?_;clear hK K)| (refine hB ?_;clear hA hB A B)|refine Z1 ?_|refine Z5 (by omega) ?_|refine hKX _ _ _ ?_)| (with_reducible first|refine Y2 fun K hK=> ?_|refine Y3 fun A B hA hB=> ?_)<;>(simp only[go_sem])| ((with_reducible first|refine Y8 ?_|refine Y9 ?_);try simp only[AQ.then,AQ.blk,reduceIte,Nat.reduceEqDiff])|fail)
  have hk2:k=l.length:=by omega
  subst hk2
  exact aZ hQ _ rfl rfl (pD ⟨fun h=>⟨h,hinv⟩,fun h=>h.1⟩)
theorem YK {l:List Rng} (hl:l.length<2^40) (h:K (dB (decide (DH l))) H nx):aB Tryz.prog wR [dS (l.map eN)] H nx K:=
 (YI l hl).pure rfl (aI ⟨aE rfl,trivial⟩) (fun r hr=>hr▸h)
theorem ET (q:Req):aB Tryz.prog eY [dA (eB q)] .nil 0 fun rr _ _=>rr.plain=true∧rr=dB (wrM q):=by
 refine EO rfl fun Q hQ=> ?_
 unfold lM
 repeat' (first| (with_reducible first| (refine hK _ _ _ ?_;clear hK K)|refine Z1 ?_)| (with_reducible first|refine Y2 fun K hK=> ?_|refine Y6 (fun h=> ?_) fun h=> ?_)<;>(simp only[go_sem])| ((with_reducible refine Y8 ?_);try simp only[AQ.then,AQ.blk,reduceIte,Nat.reduceEqDiff])|fail)
 all_goals first|with_reducible refine aZ hQ _ rfl rfl ?_|skip
 all_goals unfold wrM
 all_goals first|exact pD (by omega)|exact q9 (by omega)|exact j7 (by omega)|rfl
theorem gH {q:Req} (h:K (dB (wrM q)) H nx):aB Tryz.prog eY [dA (eB q)] H nx K:=
 (ET q).pure rfl (aI ⟨aE rfl,trivial⟩) (fun r hr=>hr▸h)
theorem LX (n:Int):aB Tryz.prog lX [dI n] .nil 0 fun rr _ _=>rr.plain=true∧rr=dB (decide (¬(0≤n∧n≤65535))):=by
 refine JM rfl fun Q hQ=> ?_
 unfold o8
 repeat' (first| (with_reducible first| (refine hK _ _ _ ?_;clear hK K)|refine Z1 ?_)| (first| (with_reducible refine Y2 fun K hK=> ?_)| (with_reducible refine U5 ?_))<;>(simp only[go_sem])| ((with_reducible refine Y8 ?_);try simp only[AQ.then,AQ.blk,reduceIte,Nat.reduceEqDiff])|fail)
 all_goals first|with_reducible refine aZ hQ _ rfl rfl ?_|skip
 all_goals first|exact pD (by omega)|exact q9 (by omega)|exact j7 (by omega)|rfl
theorem LA {n:Int} (h:K (dB (decide (¬(0≤n∧n≤65535)))) H nx):aB Tryz.prog lX [dI n] H nx K:=
 (LX n).pure rfl (aI ⟨aE rfl,trivial⟩) (fun r hr=>hr▸h)
theorem RD (n:Int):aB Tryz.prog rC [dI n] .nil 0 fun rr _ _=>rr.plain=true∧rr=dB (decide (¬(-1≤n∧n≤63))):=by
 refine OW rfl fun Q hQ=> ?_
 unfold vO
 repeat' (first| (with_reducible first| (refine hK _ _ _ ?_;clear hK K)|refine Z1 ?_)| (first| (with_reducible refine Y2 fun K hK=> ?_)| (with_reducible refine fE ?_))<;>(simp only[go_sem])| ((with_reducible refine Y8 ?_);try simp only[AQ.then,AQ.blk,reduceIte,Nat.reduceEqDiff])|fail)
 all_goals first|with_reducible refine aZ hQ _ rfl rfl ?_|skip
 all_goals first|exact pD (by omega)|exact q9 (by omega)|exact j7 (by omega)|rfl
theorem S7 {n:Int} (h:K (dB (decide (¬(-1≤n∧n≤63)))) H nx):aB Tryz.prog rC [dI n] H nx K:=
 (RD n).pure rfl (aI ⟨aE rfl,trivial⟩) (fun r hr=>hr▸h)
theorem P6 (n:Int):aB Tryz.prog qK [dI n] .nil 0 fun rr _ _=>rr.plain=true∧rr=dB (decide (¬(0≤n∧n≤3))):=by
 refine PF rfl fun Q hQ=> ?_
 unfold vK
 repeat' (first| (with_reducible first| (refine hK _ _ _ ?_;clear hK K)|refine Z1 ?_)| (first| (with_reducible refine Y2 fun K hK=> ?_)| (with_reducible refine fE ?_))<;>(simp only[go_sem])| ((with_reducible refine Y8 ?_);try simp only[AQ.then,AQ.blk,reduceIte,Nat.reduceEqDiff])|fail)
 all_goals first|with_reducible refine aZ hQ _ rfl rfl ?_|skip
 all_goals first|exact pD (by omega)|exact q9 (by omega)|exact j7 (by omega)|rfl
theorem QA {n:Int} (h:K (dB (decide (¬(0≤n∧n≤3)))) H nx):aB Tryz.prog qK [dI n] H nx K:=
 (P6 n).pure rfl (aI ⟨aE rfl,trivial⟩) (fun r hr=>hr▸h)
theorem SK (n:Int):aB Tryz.prog rT [dI n] .nil 0 fun rr _ _=>rr.plain=true∧rr=dB (decide (¬(0≤n∧n≤3))):=by
 refine ON rfl fun Q hQ=> ?_
 unfold vC
 repeat' (first| (with_reducible first| (refine hK _ _ _ ?_;clear hK K)|refine Z1 ?_)| (first| (with_reducible refine Y2 fun K hK=> ?_)| (with_reducible refine fE ?_))<;>(simp only[go_sem])| ((with_reducible refine Y8 ?_);try simp only[AQ.then,AQ.blk,reduceIte,Nat.reduceEqDiff])|fail)
 all_goals first|with_reducible refine aZ hQ _ rfl rfl ?_|skip
 all_goals first|exact pD (by omega)|exact q9 (by omega)|exact j7 (by omega)|rfl
theorem S5 {n:Int} (h:K (dB (decide (¬(0≤n∧n≤3)))) H nx):aB Tryz.prog rT [dI n] H nx K:=
 (SK n).pure rfl (aI ⟨aE rfl,trivial⟩) (fun r hr=>hr▸h)
theorem O3 (l:List Int) (hl:l.length<2^40):aB Tryz.prog jB [dS (l.map aJ)] .nil 0 fun rr _ _=>rr.plain=true∧rr=dB (decide (All l 0 65535)):=by
 refine NB rfl fun Q hQ=> ?_
 unfold sO
 repeat' (first| (with_reducible first| (refine hK _ _ _ ?_;clear hK K)|refine Z1 ?_)| (first| (with_reducible refine Y2 fun K hK=> ?_)| (refine d8 (caps:=[]) (p:=fun x=>decide (¬(0≤x∧x≤65535))) hl rfl (aE rfl) (kC rfl) (fun x _ H nx K h=>LA h) ?_))<;>(simp only[go_sem])| ((with_reducible refine Y8 ?_);try simp only[AQ.then,AQ.blk,reduceIte,Nat.reduceEqDiff])|fail)
 all_goals first|with_reducible refine aZ hQ _ rfl rfl ?_|skip
 all_goals exact pD KP.symm
theorem vG {l:List Int} (hl:l.length<2^40) {d0:D} (hd0:CvD H (fun _=>True) id 0 (dS (l.map aJ)) d0) (h:K (dB (decide (All l 0 65535))) H nx):aB Tryz.prog jB [d0] H nx K:=
 (O3 l hl).pure rfl (aI ⟨hd0,trivial⟩) (fun r hr=>hr▸h)
end
end Go.Proofs.YtmccpdapaccnoaaGreat
end
