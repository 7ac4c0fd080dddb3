/- Texts laid together by a program: rules, contracts and the walk that leads to the law. -/
import Derived.Test.YtegiblhkjfiooaaGreatPk9
import Derived.Test.YtegiblhkjfiooaaGreatPk7
set_option linter.unusedVariables false
set_option linter.unusedSimpArgs false
set_option linter.unusedSectionVars false
section
namespace Go.Proofs.YtegiblhkjfiooaaGreat
open Go Go.AM
set_option maxRecDepth 100000
set_option maxHeartbeats 4000000
section
variable {H : aA} {nx : Nat} {K : D → aA → Nat → Prop}
theorem DA (l:List Int) (x:Int) (hl:l.length<2^40):aB Tryz.prog iA [dS (l.map aE),dI x] .nil 0 fun rr _ _=>rr.plain=true∧rr=dI (aW (fun y=>decide (x=y)) l):=by
 refine A6 rfl fun Q hQ=> ?_
 unfold kD
 repeat' (first| (with_reducible first| (refine hK _ _ _ ?_;clear hK K)|refine Z1 ?_|refine Z3 fun KB hKB=> ?_)| (with_reducible refine Y2 fun K hK=> ?_)<;>(simp only[go_sem])|fail)
 (have hKX:=hKB;clear hKB);(refine aQ.loop (α:={k:Nat//k≤l.length∧(∀i,i<k→(fun y=>decide (x=y)) (l.getD i default)=false)}) (fun u=>en [(8,dI u.1),(7,dI l.length),(1,dI x),(0,dS (l.map aE))]) (fun _=>.nil) _ (fun u=>l.length-u.1) ⟨0,by omega,(by intros;first|trivial|omega)⟩ (dL (Nat.le_refl _) (by repeat' (first| (with_reducible first|exact C1|refine C2 ?_ ?_)| ((with_reducible refine D0 ?_);exact CA rfl)|fail))) ?_);(rintro⟨k,hk,hinv⟩ KL hKL)
 by_cases hlt:k<l.length
 ·repeat' (first| (with_reducible first| (refine hK _ _ _ ?_;clear hK K)| (refine hA ?_;clear hA hB A B)| (refine hB ?_;clear hA hB A B)|refine Z1 ?_|refine Z2 ?_|refine Z3 fun KB hKB=> ?_|refine Z4 (by omega) ?_|refine Z6 (fun h=> ?_) fun h=> ?_)| (with_reducible first|refine Y2 fun K hK=> ?_|refine Y3 fun A B hA hB=> ?_)<;>(simp only[go_sem];try simp (disch:=omega) only[Iw])| ((with_reducible refine Y8 ?_);try simp only[AQ.then,AQ.blk,reduceIte,Nat.reduceEqDiff])| ((with_reducible refine Y0 ?_);simp only[AQ.then,AQ.blk])|refine⟨by omega,?_⟩| (with_reducible refine hKB _ _ _ ?_)|fail)
  ·refine bJ hQ _ rfl rfl (nQ (Eq.symm (AH (by omega) (decide_eq_true (by assumption)) hinv)))
  · (refine hKL _ _ _ ⟨k+1,by omega,nG hinv (decide_eq_false (by assumption))⟩ (by omega) (by(try dsimp only);omega) (dL (Nat.le_refl _) (by repeat' (first| (with_reducible first|exact C1|refine C2 ?_ ?_)| ((with_reducible refine D0 ?_);exact CA rfl)|fail))))
 ·repeat' (first| (with_reducible first| (refine hK _ _ _ ?_;clear hK K)| (refine hB ?_;clear hA hB A B)|refine Z1 ?_|refine Z5 (by omega) ?_|refine hKX _ _ _ ?_)| (with_reducible first|refine Y2 fun K hK=> ?_|refine Y3 fun A B hA hB=> ?_)<;>(simp only[go_sem])| ((with_reducible first|refine Y8 ?_|refine Y9 ?_);try simp only[AQ.then,AQ.blk,reduceIte,Nat.reduceEqDiff])|fail)
  refine bJ hQ (dI _) rfl rfl (nQ (Eq.symm (rI fun i hi=>hinv i (by omega))))
theorem C5 {l:List Int} {x:Int} (hl:l.length<2^40) {d0:D} (hd0:CvD H (fun _=>True) id 0 (dS (l.map aE)) d0) (h:K (dI (aW (fun y=>decide (x=y)) l)) H nx):aB Tryz.prog iA [d0,dI x] H nx K:=
 (DA l x hl).pure rfl (aI ⟨hd0,aF rfl,trivial⟩) (fun r hr=>hr▸h)
theorem zJ (l:List Int) (x:Int) (hl:l.length<2^40):aB Tryz.prog fR [dS (l.map aE),dI x] .nil 0 fun rr _ _=>rr.plain=true∧rr=dB (decide (x∈l)):=by
 refine yB rfl fun Q hQ=> ?_
 unfold iQ
 repeat' (first| (with_reducible first| (refine hK _ _ _ ?_;clear hK K)|refine Z1 ?_)| (first| (with_reducible refine Y2 fun K hK=> ?_)| (refine C5 hl (aF rfl) ?_))<;>(simp only[go_sem])| ((with_reducible refine Y8 ?_);try simp only[AQ.then,AQ.blk,reduceIte,Nat.reduceEqDiff])|fail)
 all_goals first|with_reducible refine bJ hQ _ rfl rfl ?_|skip
 all_goals refine pF (cL.trans ⟨fun⟨y,hy,he⟩=> ?_,fun h=>⟨x,h,by simp⟩⟩)
 all_goals have:=of_decide_eq_true he;subst this;exact hy
theorem nC {l:List Int} {x:Int} (hl:l.length<2^40) {d0:D} (hd0:CvD H (fun _=>True) id 0 (dS (l.map aE)) d0) (h:K (dB (decide (x∈l))) H nx):aB Tryz.prog fR [d0,dI x] H nx K:=
 (zJ l x hl).pure rfl (aI ⟨hd0,aF rfl,trivial⟩) (fun r hr=>hr▸h)
theorem QL {f:Nat→Int} {n k:Nat} {x:Int} (hk:k<n) (hx:x=f k):((List.range k).map f++List.replicate (n-k) (0:Int)).set k x=(List.range (k+1)).map f++List.replicate (n-(k+1)) 0:=by
 have e:n-k=(n-(k+1))+1:=by omega
 have h1:((List.range k).map f).length=k:=by simp
 rw[List.set_append,h1,if_neg (Nat.lt_irrefl k),Nat.sub_self,e,List.replicate_succ,List.set_cons_zero,List.range_succ,List.map_append,List.append_assoc,hx]
 rfl
theorem P1 (addr many:Int) (wrap:Bool):aB Tryz.prog qE [dI addr,dI many,dB wrap] .nil 0 fun rr _ nn=>nn=0∧rr.imm=true∧rr=dS ((bE addr many wrap).map aE):=by
 refine NP rfl fun Q hQ=> ?_
 unfold u9
 by_cases hok:qU addr many wrap
 ·obtain⟨f1,f2,f3,f4,f5,f6,f7,f8⟩:=abC hok
  repeat' (first| (with_reducible first| (refine hK _ _ _ ?_;clear hK K)| (refine hB ?_;clear hA hB A B)|refine Z1 ?_|refine Z2 ?_|refine Z3 fun KB hKB=> ?_)| (first| (with_reducible first|refine Y2 fun K hK=> ?_|refine Y3 fun A B hA hB=> ?_)| (with_reducible refine x7 ?_))<;>(simp only[go_sem,f6,eq_true hok])|refine⟨by omega,?_⟩|fail)
  (have hKX:=hKB;clear hKB)
  refine aQ.wI 1 (β:=Nat) (fun b k=>en [(18,dI k),(17,dI many),(7,dO 1 b many.toNat many.toNat),(2,dB wrap),(1,dI many),(0,dI addr)])
   (fun b k=>hp [(b,⟨1,many.toNat,((List.range k).map (bAt addr many wrap)++List.replicate (many.toNat-k) (0:Int)).map aE⟩)]) (fun k=>k≤many.toNat) (fun k=>many.toNat-k) 0 ?_ (by omega) ?_
  · (refine dH [7] (by omega) (by repeat' (first| (with_reducible first|exact C1|refine C2 ?_ ?_)| ((with_reducible refine C0 ?_);first|exact CQ (by omega) rfl rfl (by rfl) rfl| (exact CG (by(congr 2;omega)) rfl))| ((with_reducible refine D0 ?_);first|exact CA rfl|refine CJ ?_)|fail)) ⟨⟨by simp,by simp[sgL],_,rfl,aO (aC aJ _) (by simp[aE]) rfl⟩,trivial⟩ (by simp[sgL]))
  intro k hk KL hKL
  have hlen:((List.range k).map (bAt addr many wrap)++List.replicate (many.toNat-k) (0:Int)).length=many.toNat:=by simp;omega
  by_cases hlt:k<many.toNat
  ·obtain⟨g1,g2,g3⟩:=ag4 hok k hlt
   have hmod:(addr+k).tmod many=(addr+k)%many:=Int.tmod_eq_emod_of_nonneg (by omega)
   have hm2:=Int.emod_lt_of_pos (addr+k) f2
   have hm3:=Int.emod_nonneg (addr+k) f1
   repeat' (first| (with_reducible first| (refine hK _ _ _ ?_;clear hK K)| (refine hA ?_;clear hA hB A B)| (refine hB ?_;clear hA hB A B)|refine Z1 ?_|refine Z2 ?_|refine Z3 fun KB hKB=> ?_|refine Z4 (by omega) ?_)| (with_reducible first|refine Y2 fun K hK=> ?_|refine Y3 fun A B hA hB=> ?_)<;>(simp only[go_sem,f6,hmod,List.set_set,hlen];try simp (disch:=omega) only[Iw])| ((with_reducible refine Y0 ?_);simp only[AQ.then,AQ.blk])| ((with_reducible refine Z8 (fun h=> ?_) (fun h=> ?_))<;>try subst h)|refine⟨by omega,?_⟩| (with_reducible refine hKB _ _ _ ?_)|fail)
   ·exact hKL _ _ _ (k+1) (by omega) (by(refine dH [12] (by omega) (by repeat' (first| (with_reducible first|exact C1|refine C2 ?_ ?_)| ((with_reducible refine C0 ?_);exact CQ (by omega) rfl rfl (by rfl) rfl)| ((with_reducible refine D0 ?_);first|exact CA rfl|refine CJ ?_)|fail)) ⟨⟨by simp,by simp[sgL],_,rfl,aO (aC aJ _) (congrArg _ (QL hlt (by simp only[bAt,if_true])).symm) rfl⟩,trivial⟩ (by simp[sgL]))) (by omega) (by omega)
   ·exact hKL _ _ _ (k+1) (by omega) (by(refine dH [12] (by omega) (by repeat' (first| (with_reducible first|exact C1|refine C2 ?_ ?_)| ((with_reducible refine C0 ?_);exact CQ (by omega) rfl rfl (by rfl) rfl)| ((with_reducible refine D0 ?_);first|exact CA rfl|refine CJ ?_)|fail)) ⟨⟨by simp,by simp[sgL],_,rfl,aO (aC aJ _) (congrArg _ (QL hlt (by simp[bAt])).symm) rfl⟩,trivial⟩ (by simp[sgL]))) (by omega) (by omega)
  ·repeat' (first| (with_reducible first| (refine hK _ _ _ ?_;clear hK K)| (refine hB ?_;clear hA hB A B)|refine Z1 ?_|refine Z5 (by omega) ?_|refine hKX _ _ _ ?_)| (with_reducible first|refine Y2 fun K hK=> ?_|refine Y3 fun A B hA hB=> ?_)<;>(simp only[go_sem])| ((with_reducible first|refine Y8 ?_|refine Y9 ?_);try simp only[AQ.then,AQ.blk,reduceIte,Nat.reduceEqDiff])|fail)
   have hk2:k=many.toNat:=by omega
   subst hk2
   exact af6 hQ (dS ((bE addr many wrap).map aE)) _ rfl (vQ (l:=bE addr many wrap) aJ (by simp[bE,hok];rfl) (zE hok).symm (by rw[zE hok];omega) trivial) rfl rfl
 ·repeat' (first| (with_reducible first| (refine hK _ _ _ ?_;clear hK K)| (refine hA ?_;clear hA hB A B)|refine Z1 ?_)| (first| (with_reducible first|refine Y2 fun K hK=> ?_|refine Y3 fun A B hA hB=> ?_)| (with_reducible refine x7 ?_))<;>(simp only[go_sem,eq_false hok])| ((with_reducible refine Y8 ?_);try simp only[AQ.then,AQ.blk,reduceIte,Nat.reduceEqDiff])|fail)
  exact af6 hQ (dS []) _ rfl GI rfl (by simp[bE,hok])
theorem PF {addr:Int} {many:Int} {wrap:Bool} (h:K (dS ((bE addr many wrap).map aE)) H nx):aB Tryz.prog qE [dI addr,dI many,dB wrap] H nx K:=
 (P1 addr many wrap).fresh rfl (fun r hr=>hr▸h)
theorem IB (q:Req):aB Tryz.prog eO [dA (d9 q)] .nil 0 fun rr _ nn=>nn=0∧rr.imm=true∧rr=dS ((bE q.addr q.many q.wrap).map aE):=by
 refine FQ rfl fun Q hQ=> ?_
 unfold nH
 repeat' (first| (with_reducible first| (refine hK _ _ _ ?_;clear hK K)|refine Z1 ?_)| (first| (with_reducible refine Y2 fun K hK=> ?_)| (with_reducible refine PF ?_))<;>(simp only[go_sem])| ((with_reducible refine Y8 ?_);try simp only[AQ.then,AQ.blk,reduceIte,Nat.reduceEqDiff])|fail)
 all_goals exact af6 hQ (dS _) _ rfl (aF rfl) rfl rfl
theorem oZ {q:Req} (h:K (dS ((bE q.addr q.many q.wrap).map aE)) H nx):aB Tryz.prog eO [dA (d9 q)] H nx K:=
 (IB q).fresh rfl (fun r hr=>hr▸h)
theorem XY (l:List Rng) (q:Req) (hl:l.length<2^40):aB Tryz.prog lQ [dS (l.map eY),dA (d9 q)] .nil 0 fun rr _ _=>rr.plain=true∧rr=dI (cS l (bE q.addr q.many q.wrap)):=by
 refine U1 rfl fun Q hQ=> ?_
 unfold BG
 have hb4:=HS (addr:=q.addr) (many:=q.many) (wrap:=q.wrap)
 repeat' (first| (with_reducible first| (refine hK _ _ _ ?_;clear hK K)|refine Z1 ?_|refine Z3 fun KB hKB=> ?_)| (first| (with_reducible refine Y2 fun K hK=> ?_)| (with_reducible refine oZ ?_))<;>(simp only[go_sem])|fail)
 generalize bE q.addr q.many q.wrap=all at*
 (have hKX:=hKB;clear hKB);(refine aQ.loop (α:={k:Nat//k≤all.length∧(∀i,i<k→¬aW (inR · (all.getD i default)) l<0∧aW (inR · (all.getD i default)) l=aW (inR · (all.getD 0 default)) l)}) (fun u=>en [(12,dI u.1),(11,dI all.length),(10,dS (all.map aE)),(5,dI (if u.1=0 then-1 else aW (inR · (all.getD 0 default)) l)),(0,dS (l.map eY))]) (fun _=>.nil) _ (fun u=>all.length-u.1) ⟨0,by omega,(by intros;first|trivial|omega)⟩ (dL (Nat.le_refl _) (by repeat' (first| (with_reducible first|exact C1|refine C2 ?_ ?_)| ((with_reducible refine D0 ?_);exact CA rfl)|fail))) ?_);(rintro⟨k,hk,hinv⟩ KL hKL)
 by_cases hlt:k<all.length
 ·repeat' (first| (with_reducible first| (refine hK _ _ _ ?_;clear hK K)| (refine hA ?_;clear hA hB A B)| (refine hB ?_;clear hA hB A B)|refine Z1 ?_|refine Z2 ?_|refine Z3 fun KB hKB=> ?_|refine Z4 (by omega) ?_|refine Z6 (fun h=> ?_) fun h=> ?_)| (first| (with_reducible first|refine Y2 fun K hK=> ?_|refine Y3 fun A B hA hB=> ?_|refine Y6 (fun h=> ?_) fun h=> ?_)| (with_reducible refine TX hl ?_))<;>(simp only[go_sem];try simp (disch:=omega) only[Iw])| ((with_reducible refine Y8 ?_);try simp only[AQ.then,AQ.blk,reduceIte,Nat.reduceEqDiff])| ((with_reducible refine Y0 ?_);simp only[AQ.then,AQ.blk])|refine⟨by omega,?_⟩| (with_reducible refine hKB _ _ _ ?_)|fail)
  ·refine bJ hQ (dI _) rfl rfl (nQ ?_)
   rcases Nat.eq_zero_or_pos k with h0|h0
   ·subst h0
    have hg:=aoY (p:=(inR · (all.getD 0 default))) (l:=l)
    by_cases hy: ∀i,i<all.length→1≤i→aW (inR · (all.getD i default)) l=aW (inR · (all.getD 0 default)) l
    ·rw[TR (by omega) hy];omega
    ·have: ∃i,i<all.length∧ ¬aW (inR · (all.getD i default)) l=aW (inR · (all.getD 0 default)) l:=Classical.byContradiction fun hc=>hy fun i hi _=>Classical.byContradiction fun hn=>hc ⟨i,hi,hn⟩
     obtain⟨i,hi,hn⟩:=this
     rw[N7 hi hn]
   ·have:=(hinv 0 h0).1
    exact(N7 hlt (by omega)).symm
  ·refine bJ hQ (dI _) rfl rfl (nQ (N7 hlt (fun he=> ?_)).symm)
   grind
  all_goals
   have heq:aW (inR · (all.getD k default)) l=aW (inR · (all.getD 0 default)) l:=by grind
   refine hKL _ _ _ ⟨k+1,by omega,nG hinv ⟨by omega,heq⟩⟩ (by omega) (by dsimp only;omega) (dL (Nat.le_refl _) ?_)
   dsimp only
   rw[if_neg (Nat.succ_ne_zero k),←heq]
   repeat' (first| (with_reducible first|exact C1|refine C2 ?_ ?_)| ((with_reducible refine D0 ?_);exact CA rfl)|fail)
 ·repeat' (first| (with_reducible first| (refine hK _ _ _ ?_;clear hK K)| (refine hB ?_;clear hA hB A B)|refine Z1 ?_|refine Z5 (by omega) ?_|refine hKX _ _ _ ?_)| (with_reducible first|refine Y2 fun K hK=> ?_|refine Y3 fun A B hA hB=> ?_)<;>(simp only[go_sem])| ((with_reducible first|refine Y8 ?_|refine Y9 ?_);try simp only[AQ.then,AQ.blk,reduceIte,Nat.reduceEqDiff])|fail)
  refine bJ hQ (dI _) rfl rfl (nQ ?_)
  by_cases h0:k=0
  ·rw[if_pos h0,ad7 (by omega)]
  ·rw[if_neg h0,TR (by omega) (fun i hi _=>(hinv i (by omega)).2)]
theorem EH {l:List Rng} {q:Req} (hl:l.length<2^40) (h:K (dI (cS l (bE q.addr q.many q.wrap))) H nx):aB Tryz.prog lQ [dS (l.map eY),dA (d9 q)] H nx K:=
 (XY l q hl).pure rfl (aI ⟨aF rfl,aF rfl,trivial⟩) (fun r hr=>hr▸h)
end
end Go.Proofs.YtegiblhkjfiooaaGreat
end
section
namespace Go.Proofs.YtegiblhkjfiooaaGreat
open Go Go.AM
set_option maxRecDepth 100000
set_option maxHeartbeats 4000000
section
variable {H : aA} {nx : Nat} {K : D → aA → Nat → Prop}
theorem acQ (old new lanes:Int) (h1:0≤old∧old≤65535) (h2:0≤new∧new≤65535) (h3:0≤lanes∧lanes≤3):aB Tryz.prog DT [dI old,dI new,dI lanes] .nil 0 fun rr _ _=>rr.plain=true∧rr=dI (yV old new lanes):=by
 refine Z9 rfl fun Q hQ=> ?_
 unfold GU
 have hc:lanes=0∨lanes=1∨lanes=2∨lanes=3:=by omega
 rcases hc with rfl|rfl|rfl|rfl
 all_goals repeat' (first| (with_reducible first| (refine hK _ _ _ ?_;clear hK K)|refine Z1 ?_)| (with_reducible refine Y2 fun K hK=> ?_)<;>(simp only[go_sem])| ((with_reducible refine Y8 ?_);try simp only[AQ.then,AQ.blk,reduceIte,Nat.reduceEqDiff])|fail)
 ·exact bJ hQ (dI (acL old new (aaV 0))) rfl rfl (nQ (by rw[arF];exact QF h1 h2 (by omega)))
 ·exact bJ hQ (dI (acL old new (aaV 1))) rfl rfl (nQ (by rw[arG];exact QF h1 h2 (by omega)))
 ·exact bJ hQ (dI (acL old new (aaV 2))) rfl rfl (nQ (by rw[arI];exact QF h1 h2 (by omega)))
 ·exact bJ hQ (dI (acL old new (aaV 3))) rfl rfl (nQ (by rw[aq1];exact QF h1 h2 (by omega)))
theorem T2 {old:Int} {new:Int} {lanes:Int} (h1:0≤old∧old≤65535) (h2:0≤new∧new≤65535) (h3:0≤lanes∧lanes≤3) (h:K (dI (yV old new lanes)) H nx):aB Tryz.prog DT [dI old,dI new,dI lanes] H nx K:=
 (acQ old new lanes h1 h2 h3).pure rfl (aI ⟨aF rfl,aF rfl,aF rfl,trivial⟩) (fun r hr=>hr▸h)
theorem ab9 {w all:List Int}:(List.range all.length).map (fun k=>w.getD (all.getD k default).toNat default)=all.map fun a=>w.getD a.toNat default:=by
 apply List.ext_getElem
 ·simp
 ·intro i h1 h2
  simp only[List.length_map] at h2
  simp[List.getD,h2]
theorem KV (m:List Rng) (s:TSt) (who:Int) (q:Req) (c0 c1 c2 c3 c4 c5 m0 m1:Nat) (o3 o4 o5 o6:bC) (hm4:m.length<2^20) (hf:ON s.words s.holds) (hc0:s.words.length≤c0) (hc1:s.holds.length≤c1) (hw:0≤who∧who≤2) (hq:gH q) (hi3:u6 o3) (hi4:u6 o4) (hi5:u6 o5) (hi6:u6 o6):
 aB Tryz.prog eZ [dP 6 0,dS (m.map eY),dI who,dA (d9 q)] (hp [(0,⟨6,1,[oIm 1 2 3 4 5 6 c0 c1 c2 c3 c4 c5 s]⟩),(1,⟨1,m0,(s.words).map aE⟩),(2,⟨1,m1,(s.holds).map aE⟩),(3,o3),(4,o4),(5,o5),(6,o6)]) 7
 fun r H' n'=>n'=7∧H'=hp [(0,⟨6,1,[oIm 1 2 3 4 5 6 c0 c1 c2 c3 c4 c5 s]⟩),(1,⟨1,m0,((doM m s.words s.holds who q).1.1).map aE⟩),(2,⟨1,m1,((doM m s.words s.holds who q).1.2).map aE⟩),(3,o3),(4,o4),(5,o5),(6,o6)]∧r=dA (qY (doM m s.words s.holds who q).2):=by
 obtain⟨hwl,hwr,hsl,hsr⟩:=hf
 obtain⟨hq1,hq2,hq3,hq4,hq5,hq6,hq7,hq8⟩:=hq
 have hbl:=zE hq3
 have hbp:=WR hq3
 have hb4:=HS (addr:=q.addr) (many:=q.many) (wrap:=q.wrap)
 have hbi:All (bE q.addr q.many q.wrap) 0 63:=W6
 have hlt:=QA (p:=(inR · ((bE q.addr q.many q.wrap).getD 0 default))) (l:=m)
 have hwh:cS m (bE q.addr q.many q.wrap)<m.length:=by unfold cS;grind
 have hdl:wrM q=true→q.data.length=(bE q.addr q.many q.wrap).length∧q.lanes.length=(bE q.addr q.many q.wrap).length:=by
  intro h;unfold wrM at h;unfold rZ at hq4 hq5;simp at h;simp only[h,if_true] at hq4 hq5;omega
 have hwi:=QE (q:=q)
 refine IU rfl fun Q hQ=> ?_
 unfold iG
 generalize hall:bE q.addr q.many q.wrap=all at*
 have hwo: ∀{H:aA} {nx:Nat} {K:D→aA→Nat→Prop},K (dI (cS m all)) H nx→aB Tryz.prog lQ [dS (m.map eY),dA (d9 q)] H nx K:=fun h=>EH (by omega) (by rw[hall];exact h)
 have hbu: ∀{H:aA} {nx:Nat} {K:D→aA→Nat→Prop},K (dS (all.map aE)) H nx→aB Tryz.prog eO [dA (d9 q)] H nx K:=fun h=>oZ (by rw[hall];exact h)
 by_cases h1:cS m all<0
 ·rw[aaY (by rw[hall];exact h1)] at hQ
  simp only[oIm]
  repeat' (first| (with_reducible first| (refine hK _ _ _ ?_;clear hK K)| (refine hA ?_;clear hA hB A B)|refine Z1 ?_|refine Z3 fun KB hKB=> ?_|refine Z4 (by omega) ?_)| (first| (with_reducible first|refine Y2 fun K hK=> ?_|refine Y3 fun A B hA hB=> ?_)| (with_reducible refine hwo ?_))<;>(simp only[go_sem];try simp (disch:=omega) only[Iw])| ((with_reducible refine Y8 ?_);try simp only[AQ.then,AQ.blk,reduceIte,Nat.reduceEqDiff])|refine⟨by omega,?_⟩|fail)
  (refine hQ _ _ _ _ _ 7 (dA (qY ⟨q.id,4,[]⟩)) (hp [(0,⟨6,1,[oIm 1 2 3 4 5 6 c0 c1 c2 c3 c4 c5 s]⟩),(1,⟨1,m0,(s.words).map aE⟩),(2,⟨1,m1,(s.holds).map aE⟩),(3,o3),(4,o4),(5,o5),(6,o6)]) _ _ (.inr rfl) rfl (cV [0,1,2,3,4,5,6] (by omega) (by repeat' (first| ((with_reducible refine C0 ?_);first|exact CB rfl|exact CF)| ((with_reducible refine D0 ?_);refine C9 ?_)|exact C3|refine C4 ?_ ?_|fail)) ⟨⟨by simp,by simp[sgL],_,rfl,aM (by repeat' (first| (with_reducible first|exact C3|refine C4 ?_ ?_)| ((with_reducible refine C0 ?_);exact CQ (by omega) rfl rfl (by rfl) rfl)|refine C4 ?_ ?_|fail))⟩,⟨by simp,by simp[sgL],_,rfl,aO (aC aJ _) rfl rfl⟩,⟨by simp,by simp[sgL],_,rfl,aO (aC aJ _) rfl rfl⟩,⟨by simp,by simp[sgL],_,rfl,aN hi3⟩,⟨by simp,by simp[sgL],_,rfl,aN hi4⟩,⟨by simp,by simp[sgL],_,rfl,aN hi5⟩,⟨by simp,by simp[sgL],_,rfl,aN hi6⟩,trivial⟩ (by simp[sgL])) ?_)
  exact⟨rfl,rfl,rfl⟩
 have h1': ¬cS m (bE q.addr q.many q.wrap)<0:=by rw[hall];exact h1
 by_cases h2:wrM q=true
 ·obtain⟨hd1,hd2⟩:=hdl h2
  by_cases h3:(m.getD (cS m all).toNat default).only=true
  ·rw[aaO h1' h2 (by rw[hall];exact h3)] at hQ
   simp only[oIm]
   repeat' (first| (with_reducible first| (refine hK _ _ _ ?_;clear hK K)| (refine hA ?_;clear hA hB A B)| (refine hB ?_;clear hA hB A B)|refine Z1 ?_|refine Z3 fun KB hKB=> ?_|refine Z5 (by omega) ?_)| (first| (with_reducible first|refine Y2 fun K hK=> ?_|refine Y3 fun A B hA hB=> ?_)| (with_reducible refine hwo ?_)| (with_reducible refine cG ?_))<;>(simp only[go_sem,h2,h3];try simp (disch:=omega) only[Iw])| ((with_reducible refine Y8 ?_);try simp only[AQ.then,AQ.blk,reduceIte,Nat.reduceEqDiff])|refine⟨by omega,?_⟩|fail)
   (refine hQ _ _ _ _ _ 7 (dA (qY ⟨q.id,3,[]⟩)) (hp [(0,⟨6,1,[oIm 1 2 3 4 5 6 c0 c1 c2 c3 c4 c5 s]⟩),(1,⟨1,m0,(s.words).map aE⟩),(2,⟨1,m1,(s.holds).map aE⟩),(3,o3),(4,o4),(5,o5),(6,o6)]) _ _ (.inr rfl) rfl (cV [0,1,2,3,4,5,6] (by omega) (by repeat' (first| ((with_reducible refine C0 ?_);first|exact CB rfl|exact CF)| ((with_reducible refine D0 ?_);refine C9 ?_)|exact C3|refine C4 ?_ ?_|fail)) ⟨⟨by simp,by simp[sgL],_,rfl,aM (by repeat' (first| (with_reducible first|exact C3|refine C4 ?_ ?_)| ((with_reducible refine C0 ?_);exact CQ (by omega) rfl rfl (by rfl) rfl)|refine C4 ?_ ?_|fail))⟩,⟨by simp,by simp[sgL],_,rfl,aO (aC aJ _) rfl rfl⟩,⟨by simp,by simp[sgL],_,rfl,aO (aC aJ _) rfl rfl⟩,⟨by simp,by simp[sgL],_,rfl,aN hi3⟩,⟨by simp,by simp[sgL],_,rfl,aN hi4⟩,⟨by simp,by simp[sgL],_,rfl,aN hi5⟩,⟨by simp,by simp[sgL],_,rfl,aN hi6⟩,trivial⟩ (by simp[sgL])) ?_)
   exact⟨rfl,rfl,rfl⟩
  have h3': ¬(m.getD (cS m (bE q.addr q.many q.wrap)).toNat default).only=true:=by rw[hall];exact h3
  have h3f:(m.getD (cS m all).toNat default).only=false:=by simpa using h3
  by_cases h4:q.kind=4∧ ¬s.holds.getD (who*2+q.id).toNat default=q.addr
  ·rw[akN h1' h3' h4.1 h4.2] at hQ
   have h41:=h4.1
   have h42:=h4.2
   simp only[oIm]
   repeat' (first| (with_reducible first| (refine hK _ _ _ ?_;clear hK K)| (refine hA ?_;clear hA hB A B)| (refine hB ?_;clear hA hB A B)|refine Z1 ?_|refine Z3 fun KB hKB=> ?_|refine Z4 (by omega) ?_|refine Z5 (by omega) ?_)| (first| (with_reducible first|refine Y2 fun K hK=> ?_|refine Y3 fun A B hA hB=> ?_|refine Y4 (by omega) ?_)| (with_reducible refine hwo ?_)| (with_reducible refine cG ?_))<;>(simp only[go_sem,h2,h3f];try simp (disch:=omega) only[Iw])| ((with_reducible refine Y8 ?_);try simp only[AQ.then,AQ.blk,reduceIte,Nat.reduceEqDiff])|refine⟨by omega,?_⟩|fail)
   (refine hQ _ _ _ _ _ 7 (dA (qY ⟨q.id,1,[]⟩)) (hp [(0,⟨6,1,[oIm 1 2 3 4 5 6 c0 c1 c2 c3 c4 c5 s]⟩),(1,⟨1,m0,(s.words).map aE⟩),(2,⟨1,m1,(s.holds).map aE⟩),(3,o3),(4,o4),(5,o5),(6,o6)]) _ _ (.inr rfl) rfl (cV [0,1,2,3,4,5,6] (by omega) (by repeat' (first| ((with_reducible refine C0 ?_);first|exact CB rfl|exact CF)| ((with_reducible refine D0 ?_);refine C9 ?_)|exact C3|refine C4 ?_ ?_|fail)) ⟨⟨by simp,by simp[sgL],_,rfl,aM (by repeat' (first| (with_reducible first|exact C3|refine C4 ?_ ?_)| ((with_reducible refine C0 ?_);exact CQ (by omega) rfl rfl (by rfl) rfl)|refine C4 ?_ ?_|fail))⟩,⟨by simp,by simp[sgL],_,rfl,aO (aC aJ _) rfl rfl⟩,⟨by simp,by simp[sgL],_,rfl,aO (aC aJ _) rfl rfl⟩,⟨by simp,by simp[sgL],_,rfl,aN hi3⟩,⟨by simp,by simp[sgL],_,rfl,aN hi4⟩,⟨by simp,by simp[sgL],_,rfl,aN hi5⟩,⟨by simp,by simp[sgL],_,rfl,aN hi6⟩,trivial⟩ (by simp[sgL])) ?_)
   exact⟨rfl,rfl,rfl⟩
  obtain⟨code,hcode⟩: ∃code:Int,code=if q.kind=4 then 2 else 1:=⟨_,rfl⟩
  have hD:doM m s.words s.holds who q=((IN s.words all q.data q.lanes all.length,oS s.holds all),⟨q.id,code,[]⟩):=by
   rcases hwi.1 h2 with hk|hk
   ·rw[afM h1' h3' hk,hall,hcode,if_neg (by omega)]
   ·rw[af5 h1' h3' hk (Classical.byContradiction fun hc=>h4 ⟨hk,hc⟩),hall,hcode,if_pos hk]
  rw[hD] at hQ
  simp only[oIm]
  have hk24:=hwi.1 h2
  repeat' (first| (with_reducible first| (refine hK _ _ _ ?_;clear hK K)| (refine hA ?_;clear hA hB A B)| (refine hB ?_;clear hA hB A B)|refine Z1 ?_|refine Z2 ?_|refine Z3 fun KB hKB=> ?_|refine Z4 (by omega) ?_|refine Z5 (by omega) ?_)| (first| (with_reducible first|refine Y2 fun K hK=> ?_|refine Y3 fun A B hA hB=> ?_|refine Y6 (fun h=> ?_) fun h=> ?_)| (with_reducible refine hwo ?_)| (with_reducible refine hbu ?_)| (with_reducible refine cG ?_))<;>(simp only[go_sem,h2,h3f];try simp (disch:=omega) only[Iw])| ((with_reducible refine Y0 ?_);simp only[AQ.then,AQ.blk])|refine⟨by omega,?_⟩| (with_reducible refine hKB _ _ _ ?_)|fail)
  all_goals
   have hcd:(code=2∧q.kind=4)∨(code=1∧ ¬q.kind=4):=by rw[hcode];split<;>simp[*]
   have hl2: ∀n:Int,code=n→D1.v (Value.int IntKind.i64 n)=cI code:=fun n hn=>by rw[hn]
   first|rw[hl2 2 (by omega)]|rw[hl2 1 (by omega)]|fail
   (have hKX:=hKB;clear hKB)
   refine aQ.wI 0 (β:=Nat) (fun b k=>en [(109,dI k),(108,dI all.length),(107,dS (all.map aE)),(12,dS (all.map aE)),(10,dP 3 16),(8,dP 3 8),(7,dP 7 7),(0,dP 6 0)])
    (fun b k=>hp [(0,⟨6,1,[[.osl 1 1 0 s.words.length c0,.osl 1 2 0 s.holds.length c1,.osl 1 3 0 s.asked.length c2,.osl 5 4 0 s.wait.length c3,.osl 5 5 0 s.done.length c4,.osl 5 6 0 s.told.length c5]]⟩),(1,⟨1,m0,(IN s.words all q.data q.lanes k).map aE⟩),(2,⟨1,m1,(s.holds).map aE⟩),(3,o3),(4,o4),(5,o5),(6,o6),(7,⟨7,1,[d9 q]⟩),(8,⟨3,1,[[cI 0,cI 0,.osl 0 0 0 0 0]]⟩),(16,⟨3,1,[[cI q.id,cI code,.osl 0 0 0 0 0]]⟩)]) (fun k=>k≤all.length) (fun k=>all.length-k) 0
    (by(refine dH [0,1,2,3,4,5,6,7,8,16] (by omega) (by repeat' (first| (with_reducible first|exact C1|refine C2 ?_ ?_)| ((with_reducible refine C0 ?_);exact CE (by omega) rfl)| ((with_reducible refine D0 ?_);first|exact CA rfl|refine CJ ?_)|fail)) ⟨⟨by simp,by simp[sgL],_,rfl,aM (by repeat' (first| (with_reducible first|exact C3|refine C4 ?_ ?_)| ((with_reducible refine C0 ?_);exact CQ (by omega) rfl rfl (by rfl) rfl)|fail))⟩,⟨by simp,by simp[sgL],_,rfl,aO (aC aJ _) rfl rfl⟩,⟨by simp,by simp[sgL],_,rfl,aO (aC aJ _) rfl rfl⟩,⟨by simp,by simp[sgL],_,rfl,aN hi3⟩,⟨by simp,by simp[sgL],_,rfl,aN hi4⟩,⟨by simp,by simp[sgL],_,rfl,aN hi5⟩,⟨by simp,by simp[sgL],_,rfl,aN hi6⟩,⟨by simp,by simp[sgL],_,rfl,aM (r8 fun x hx=>List.all_eq_true.1 (vE q).2 x hx)⟩,⟨by simp,by simp[sgL],_,rfl,aM (by repeat' (first| (with_reducible first|exact C3|refine C4 ?_ ?_)| ((with_reducible refine C0 ?_);first|exact CB rfl|exact CC)|fail))⟩,⟨by simp,by simp[sgL],_,rfl,aM (by repeat' (first| (with_reducible first|exact C3|refine C4 ?_ ?_)| ((with_reducible refine C0 ?_);first|exact CB rfl|exact CC)|fail))⟩,trivial⟩ (by simp[sgL]))) (by omega) ?_
   intro k hk KL hKL
   have hpl:=SD (w:=s.words) (all:=all) (data:=q.data) (lanes:=q.lanes) k
   have hpw:=XD (all:=all) (lanes:=q.lanes) hwr hq6 k
   by_cases hlt:k<all.length
   ·have hb:=sQ hbi hlt
    have hb2:(all.getD k default).toNat<(IN s.words all q.data q.lanes k).length:=by omega
    repeat' (first| (with_reducible first| (refine hK _ _ _ ?_;clear hK K)| (refine hA ?_;clear hA hB A B)|refine Z1 ?_|refine Z2 ?_|refine Z3 fun KB hKB=> ?_|refine Z4 (by omega) ?_)| (first| (with_reducible first|refine Y2 fun K hK=> ?_|refine Y3 fun A B hA hB=> ?_)| (with_reducible refine T2 (sQ hpw hb2) (sQ hq6 (by omega)) (sQ hq7 (by omega)) ?_))<;>(simp only[go_sem];try simp (disch:=omega) only[Iw])| ((with_reducible refine Y0 ?_);simp only[AQ.then,AQ.blk])|refine⟨by omega,?_⟩| (with_reducible refine hKB _ _ _ ?_)|fail)
    exact hKL _ _ _ (k+1) (by omega) (by(refine dH [0,1,2,3,4,5,6,7,8,16] (by omega) (by repeat' (first| (with_reducible first|exact C1|refine C2 ?_ ?_)| ((with_reducible refine C0 ?_);exact CE (by omega) rfl)| ((with_reducible refine D0 ?_);first|exact CA rfl|refine CJ ?_)|fail)) ⟨⟨by simp,by simp[sgL],_,rfl,aM (by repeat' (first| (with_reducible first|exact C3|refine C4 ?_ ?_)| ((with_reducible refine C0 ?_);exact CQ (by omega) rfl rfl (by rfl) rfl)|fail))⟩,⟨by simp,by simp[sgL],_,rfl,aO (aC aJ _) rfl rfl⟩,⟨by simp,by simp[sgL],_,rfl,aO (aC aJ _) rfl rfl⟩,⟨by simp,by simp[sgL],_,rfl,aN hi3⟩,⟨by simp,by simp[sgL],_,rfl,aN hi4⟩,⟨by simp,by simp[sgL],_,rfl,aN hi5⟩,⟨by simp,by simp[sgL],_,rfl,aN hi6⟩,⟨by simp,by simp[sgL],_,rfl,aM (r8 fun x hx=>List.all_eq_true.1 (vE q).2 x hx)⟩,⟨by simp,by simp[sgL],_,rfl,aM (by repeat' (first| (with_reducible first|exact C3|refine C4 ?_ ?_)| ((with_reducible refine C0 ?_);first|exact CB rfl|exact CC)|fail))⟩,⟨by simp,by simp[sgL],_,rfl,aM (by repeat' (first| (with_reducible first|exact C3|refine C4 ?_ ?_)| ((with_reducible refine C0 ?_);first|exact CB rfl|exact CC)|fail))⟩,trivial⟩ (by simp[sgL]))) (by omega) (by omega)
   ·repeat' (first| (with_reducible first| (refine hK _ _ _ ?_;clear hK K)| (refine hB ?_;clear hA hB A B)|refine Z1 ?_|refine Z3 fun KB hKB=> ?_|refine Z5 (by omega) ?_|refine hKX _ _ _ ?_)| (with_reducible first|refine Y2 fun K hK=> ?_|refine Y3 fun A B hA hB=> ?_)<;>(simp only[go_sem])| ((with_reducible refine Y9 ?_);try simp only[AQ.then,AQ.blk,reduceIte,Nat.reduceEqDiff])|fail)
    have hk2:k=all.length:=by omega
    subst hk2
    (have hKY:=hKB;clear hKB)
    refine aQ.wI 0 (β:=Nat) (fun b k=>en [(146,dI k),(145,dI 6),(144,dO 1 2 6 c1),(12,dS (all.map aE)),(10,dP 3 16),(8,dP 3 8),(0,dP 6 0)])
     (fun b k=>hp [(0,⟨6,1,[[.osl 1 1 0 s.words.length c0,.osl 1 2 0 s.holds.length c1,.osl 1 3 0 s.asked.length c2,.osl 5 4 0 s.wait.length c3,.osl 5 5 0 s.done.length c4,.osl 5 6 0 s.told.length c5]]⟩),(1,⟨1,m0,(IN s.words all q.data q.lanes all.length).map aE⟩),(2,⟨1,m1,(xU s.holds all k).map aE⟩),(3,o3),(4,o4),(5,o5),(6,o6),(8,⟨3,1,[[cI 0,cI 0,.osl 0 0 0 0 0]]⟩),(16,⟨3,1,[[cI q.id,cI code,.osl 0 0 0 0 0]]⟩)]) (fun k=>k≤6) (fun k=>6-k) 0
     (by(refine dH [0,1,2,3,4,5,6,8,16] (by omega) (by repeat' (first| (with_reducible first|exact C1|refine C2 ?_ ?_)| ((with_reducible refine C0 ?_);first|exact CQ (by omega) rfl rfl (by first|rfl|omega) rfl|exact CE (by omega) rfl| (exact CG (by(congr 2;omega)) rfl))| ((with_reducible refine D0 ?_);first|exact CA rfl|refine CJ ?_)|fail)) ⟨⟨by simp,by simp[sgL],_,rfl,aM (by repeat' (first| (with_reducible first|exact C3|refine C4 ?_ ?_)| ((with_reducible refine C0 ?_);exact CQ (by omega) rfl rfl (by rfl) rfl)|fail))⟩,⟨by simp,by simp[sgL],_,rfl,aO (aC aJ _) rfl rfl⟩,⟨by simp,by simp[sgL],_,rfl,aO (aC aJ _) (congrArg _ Q2) rfl⟩,⟨by simp,by simp[sgL],_,rfl,aN hi3⟩,⟨by simp,by simp[sgL],_,rfl,aN hi4⟩,⟨by simp,by simp[sgL],_,rfl,aN hi5⟩,⟨by simp,by simp[sgL],_,rfl,aN hi6⟩,⟨by simp,by simp[sgL],_,rfl,aM (by repeat' (first| (with_reducible first|exact C3|refine C4 ?_ ?_)| ((with_reducible refine C0 ?_);first|exact CB rfl|exact CC)|fail))⟩,⟨by simp,by simp[sgL],_,rfl,aM (by repeat' (first| (with_reducible first|exact C3|refine C4 ?_ ?_)| ((with_reducible refine C0 ?_);first|exact CB rfl|exact CC)|fail))⟩,trivial⟩ (by simp[sgL]))) (by omega) ?_
    intro k hk KM hKM
    have hfl:=WI (all:=all) (show k≤s.holds.length by omega)
    by_cases hlt:k<6
    ·have hfa:=ZD (all:=all) (show k<s.holds.length by omega)
     have hfs:=fun x=>W0 (all:=all) (x:=x) (show k<s.holds.length by omega)
     have hsm:=TH (all:=all) (show k<s.holds.length by omega)
     repeat' (first| (with_reducible first| (refine hK _ _ _ ?_;clear hK K)| (refine hA ?_;clear hA hB A B)| (refine hB ?_;clear hA hB A B)|refine Z1 ?_|refine Z2 ?_|refine Z3 fun KB hKB=> ?_|refine Z4 (by omega) ?_|refine Z6 (fun h=> ?_) fun h=> ?_)| (first| (with_reducible first|refine Y2 fun K hK=> ?_|refine Y3 fun A B hA hB=> ?_)| (refine nC (by omega) (aF rfl) ?_))<;>(simp only[go_sem,hfa];try simp (disch:=omega) only[Iw])| ((with_reducible refine Y0 ?_);simp only[AQ.then,AQ.blk])|refine⟨by omega,?_⟩| (with_reducible refine hKB _ _ _ ?_)|fail)
     ·exact hKM _ _ _ (k+1) (by omega) (by(refine dH [0,1,2,3,4,5,6,8,16] (by omega) (by repeat' (first| (with_reducible first|exact C1|refine C2 ?_ ?_)| ((with_reducible refine C0 ?_);first|exact CQ (by omega) rfl rfl (by rfl) rfl|exact CE (by omega) rfl)| ((with_reducible refine D0 ?_);first|exact CA rfl|refine CJ ?_)|fail)) ⟨⟨by simp,by simp[sgL],_,rfl,aM (by repeat' (first| (with_reducible first|exact C3|refine C4 ?_ ?_)| ((with_reducible refine C0 ?_);exact CQ (by omega) rfl rfl (by rfl) rfl)|fail))⟩,⟨by simp,by simp[sgL],_,rfl,aO (aC aJ _) rfl rfl⟩,⟨by simp,by simp[sgL],_,rfl,aO (aC aJ _) (congrArg _ (hfs (-1) (by rw[if_pos (by assumption)])).symm) rfl⟩,⟨by simp,by simp[sgL],_,rfl,aN hi3⟩,⟨by simp,by simp[sgL],_,rfl,aN hi4⟩,⟨by simp,by simp[sgL],_,rfl,aN hi5⟩,⟨by simp,by simp[sgL],_,rfl,aN hi6⟩,⟨by simp,by simp[sgL],_,rfl,aM (by repeat' (first| (with_reducible first|exact C3|refine C4 ?_ ?_)| ((with_reducible refine C0 ?_);first|exact CB rfl|exact CC)|fail))⟩,⟨by simp,by simp[sgL],_,rfl,aM (by repeat' (first| (with_reducible first|exact C3|refine C4 ?_ ?_)| ((with_reducible refine C0 ?_);first|exact CB rfl|exact CC)|fail))⟩,trivial⟩ (by simp[sgL]))) (by omega) (by omega)
     ·exact hKM _ _ _ (k+1) (by omega) (by(refine dH [0,1,2,3,4,5,6,8,16] (by omega) (by repeat' (first| (with_reducible first|exact C1|refine C2 ?_ ?_)| ((with_reducible refine C0 ?_);first|exact CQ (by omega) rfl rfl (by rfl) rfl|exact CE (by omega) rfl)| ((with_reducible refine D0 ?_);first|exact CA rfl|refine CJ ?_)|fail)) ⟨⟨by simp,by simp[sgL],_,rfl,aM (by repeat' (first| (with_reducible first|exact C3|refine C4 ?_ ?_)| ((with_reducible refine C0 ?_);exact CQ (by omega) rfl rfl (by rfl) rfl)|fail))⟩,⟨by simp,by simp[sgL],_,rfl,aO (aC aJ _) rfl rfl⟩,⟨by simp,by simp[sgL],_,rfl,aO (aC aJ _) (congrArg _ (hsm.symm.trans (hfs _ (by rw[if_neg (by assumption)]))).symm) rfl⟩,⟨by simp,by simp[sgL],_,rfl,aN hi3⟩,⟨by simp,by simp[sgL],_,rfl,aN hi4⟩,⟨by simp,by simp[sgL],_,rfl,aN hi5⟩,⟨by simp,by simp[sgL],_,rfl,aN hi6⟩,⟨by simp,by simp[sgL],_,rfl,aM (by repeat' (first| (with_reducible first|exact C3|refine C4 ?_ ?_)| ((with_reducible refine C0 ?_);first|exact CB rfl|exact CC)|fail))⟩,⟨by simp,by simp[sgL],_,rfl,aM (by repeat' (first| (with_reducible first|exact C3|refine C4 ?_ ?_)| ((with_reducible refine C0 ?_);first|exact CB rfl|exact CC)|fail))⟩,trivial⟩ (by simp[sgL]))) (by omega) (by omega)
    ·repeat' (first| (with_reducible first| (refine hK _ _ _ ?_;clear hK K)| (refine hB ?_;clear hA hB A B)|refine Z1 ?_|refine Z5 (by omega) ?_|refine hKY _ _ _ ?_)| (with_reducible first|refine Y2 fun K hK=> ?_|refine Y3 fun A B hA hB=> ?_)<;>(simp only[go_sem])| ((with_reducible first|refine Y8 ?_|refine Y9 ?_);try simp only[AQ.then,AQ.blk,reduceIte,Nat.reduceEqDiff])|fail)
     have hk2:k=s.holds.length:=by omega
     subst hk2
     (refine hQ _ _ _ _ _ 7 (dA (qY ⟨q.id,code,[]⟩)) (hp [(0,⟨6,1,[oIm 1 2 3 4 5 6 c0 c1 c2 c3 c4 c5 s]⟩),(1,⟨1,m0,(IN s.words all q.data q.lanes all.length).map aE⟩),(2,⟨1,m1,(oS s.holds all).map aE⟩),(3,o3),(4,o4),(5,o5),(6,o6)]) _ _ (.inr rfl) rfl (cV [0,1,2,3,4,5,6] (by omega) (by repeat' (first| ((with_reducible refine C0 ?_);first|exact CB rfl|exact CF)| ((with_reducible refine D0 ?_);refine C9 ?_)|exact C3|refine C4 ?_ ?_|fail)) ⟨⟨by simp,by simp[sgL],_,rfl,aM (by repeat' (first| (with_reducible first|exact C3|refine C4 ?_ ?_)| ((with_reducible refine C0 ?_);exact CQ (by omega) rfl rfl (by rfl) rfl)|refine C4 ?_ ?_|fail))⟩,⟨by simp,by simp[sgL],_,rfl,aO (aC aJ _) rfl rfl⟩,⟨by simp,by simp[sgL],_,rfl,aO (aC aJ _) (congrArg _ WW.symm) rfl⟩,⟨by simp,by simp[sgL],_,rfl,aN hi3⟩,⟨by simp,by simp[sgL],_,rfl,aN hi4⟩,⟨by simp,by simp[sgL],_,rfl,aN hi5⟩,⟨by simp,by simp[sgL],_,rfl,aN hi6⟩,trivial⟩ (by simp[sgL])) ?_)
     exact⟨rfl,rfl,rfl⟩
 have h2f:wrM q=false:=by simpa using h2
 have hk13:q.kind=1∨q.kind=3:=by have h3: ¬(q.kind=2∨q.kind=4):=fun h=>h2 (hwi.2 h);omega
 simp only[oIm]
 repeat' (first| (with_reducible first| (refine hK _ _ _ ?_;clear hK K)| (refine hA ?_;clear hA hB A B)| (refine hB ?_;clear hA hB A B)|refine Z1 ?_|refine Z2 ?_|refine Z3 fun KB hKB=> ?_|refine Z5 (by omega) ?_)| (first| (with_reducible first|refine Y2 fun K hK=> ?_|refine Y3 fun A B hA hB=> ?_|refine Y5 (by omega) ?_)| (with_reducible refine hwo ?_)| (with_reducible refine hbu ?_)| (with_reducible refine cG ?_))<;>(simp only[go_sem,h2f];try simp (disch:=omega) only[Iw])| ((with_reducible refine Y0 ?_);simp only[AQ.then,AQ.blk])|refine⟨by omega,?_⟩| (with_reducible refine hKB _ _ _ ?_)|fail)
 (have hKX:=hKB;clear hKB)
 refine aQ.wI 0 (β:=Nat) (fun b k=>en [(76,dI k),(75,dI all.length),(74,dS (all.map aE)),(11,.one (.c (.ptr 1 2 (who*2+q.id).toNat 0))),(10,dP 3 16),(8,dP 3 8),(7,dP 7 7),(0,dP 6 0)])
  (fun b k=>hp [(0,⟨6,1,[[.osl 1 1 0 s.words.length c0,.osl 1 2 0 s.holds.length c1,.osl 1 3 0 s.asked.length c2,.osl 5 4 0 s.wait.length c3,.osl 5 5 0 s.done.length c4,.osl 5 6 0 s.told.length c5]]⟩),(1,⟨1,m0,(s.words).map aE⟩),(2,⟨1,m1,(s.holds).map aE⟩),(3,o3),(4,o4),(5,o5),(6,o6),(7,⟨7,1,[d9 q]⟩),(8,⟨3,1,[[cI 0,cI 0,.osl 0 0 0 0 0]]⟩),(16,⟨3,1,[[cI q.id,cI 1,.osl 1 62 0 all.length all.length]]⟩),(62,⟨1,all.length,((List.range k).map (fun k=>s.words.getD (all.getD k default).toNat default)++List.replicate (all.length-k) (0:Int)).map aE⟩)])
  (fun k=>k≤all.length) (fun k=>all.length-k) 0
  (by(refine dH [0,1,2,3,4,5,6,7,8,16,62] (by omega) (by repeat' (first| (with_reducible first|exact C1|refine C2 ?_ ?_)| ((with_reducible refine C0 ?_);exact CE (by omega) rfl)| ((with_reducible refine D0 ?_);first|exact CA rfl|refine CJ ?_)|fail)) ⟨⟨by simp,by simp[sgL],_,rfl,aM (by repeat' (first| (with_reducible first|exact C3|refine C4 ?_ ?_)| ((with_reducible refine C0 ?_);exact CQ (by omega) rfl rfl (by rfl) rfl)|fail))⟩,⟨by simp,by simp[sgL],_,rfl,aO (aC aJ _) rfl rfl⟩,⟨by simp,by simp[sgL],_,rfl,aO (aC aJ _) rfl rfl⟩,⟨by simp,by simp[sgL],_,rfl,aN hi3⟩,⟨by simp,by simp[sgL],_,rfl,aN hi4⟩,⟨by simp,by simp[sgL],_,rfl,aN hi5⟩,⟨by simp,by simp[sgL],_,rfl,aN hi6⟩,⟨by simp,by simp[sgL],_,rfl,aM (r8 fun x hx=>List.all_eq_true.1 (vE q).2 x hx)⟩,⟨by simp,by simp[sgL],_,rfl,aM (by repeat' (first| (with_reducible first|exact C3|refine C4 ?_ ?_)| ((with_reducible refine C0 ?_);first|exact CB rfl|exact CC)|fail))⟩,⟨by simp,by simp[sgL],_,rfl,aM (by repeat' (first| (with_reducible first|exact C3|refine C4 ?_ ?_)| ((with_reducible refine C0 ?_);first|exact CB rfl|exact CQ (by omega) rfl rfl (by rfl) rfl)|fail))⟩,⟨by simp,by simp[sgL],_,rfl,aO (aC aJ _) (by simp[aE]) rfl⟩,trivial⟩ (by simp[sgL]))) (by omega) ?_
 intro k hk KL hKL
 have hdlen:((List.range k).map (fun k=>s.words.getD (all.getD k default).toNat default)++List.replicate (all.length-k) (0:Int)).length=all.length:=by simp;omega
 by_cases hlt:k<all.length
 ·have hb:=sQ hbi hlt
  have hbs:=fun x=>QL (f:=fun k=>s.words.getD (all.getD k default).toNat default) (x:=x) hlt
  repeat' (first| (with_reducible first| (refine hK _ _ _ ?_;clear hK K)| (refine hA ?_;clear hA hB A B)|refine Z1 ?_|refine Z2 ?_|refine Z3 fun KB hKB=> ?_|refine Z4 (by omega) ?_)| (with_reducible first|refine Y2 fun K hK=> ?_|refine Y3 fun A B hA hB=> ?_)<;>(simp only[go_sem,hdlen];try simp (disch:=omega) only[Iw])| ((with_reducible refine Y0 ?_);simp only[AQ.then,AQ.blk])|refine⟨by omega,?_⟩| (with_reducible refine hKB _ _ _ ?_)|fail)
  exact hKL _ _ _ (k+1) (by omega) (by(refine dH [0,1,2,3,4,5,6,7,8,16,62] (by omega) (by repeat' (first| (with_reducible first|exact C1|refine C2 ?_ ?_)| ((with_reducible refine C0 ?_);exact CE (by omega) rfl)| ((with_reducible refine D0 ?_);first|exact CA rfl|refine CJ ?_)|fail)) ⟨⟨by simp,by simp[sgL],_,rfl,aM (by repeat' (first| (with_reducible first|exact C3|refine C4 ?_ ?_)| ((with_reducible refine C0 ?_);exact CQ (by omega) rfl rfl (by rfl) rfl)|fail))⟩,⟨by simp,by simp[sgL],_,rfl,aO (aC aJ _) rfl rfl⟩,⟨by simp,by simp[sgL],_,rfl,aO (aC aJ _) rfl rfl⟩,⟨by simp,by simp[sgL],_,rfl,aN hi3⟩,⟨by simp,by simp[sgL],_,rfl,aN hi4⟩,⟨by simp,by simp[sgL],_,rfl,aN hi5⟩,⟨by simp,by simp[sgL],_,rfl,aN hi6⟩,⟨by simp,by simp[sgL],_,rfl,aM (r8 fun x hx=>List.all_eq_true.1 (vE q).2 x hx)⟩,⟨by simp,by simp[sgL],_,rfl,aM (by repeat' (first| (with_reducible first|exact C3|refine C4 ?_ ?_)| ((with_reducible refine C0 ?_);first|exact CB rfl|exact CC)|fail))⟩,⟨by simp,by simp[sgL],_,rfl,aM (by repeat' (first| (with_reducible first|exact C3|refine C4 ?_ ?_)| ((with_reducible refine C0 ?_);first|exact CB rfl|exact CQ (by omega) rfl rfl (by rfl) rfl)|fail))⟩,⟨by simp,by simp[sgL],_,rfl,aO (aC aJ _) (congrArg _ (hbs _ rfl).symm) rfl⟩,trivial⟩ (by simp[sgL]))) (by omega) (by omega)
 ·have hk2:k=all.length:=by omega
  subst hk2
  repeat' (first| (with_reducible first| (refine hK _ _ _ ?_;clear hK K)| (refine hA ?_;clear hA hB A B)| (refine hB ?_;clear hA hB A B)|refine Z1 ?_|refine Z2 ?_|refine Z5 (by omega) ?_|refine Z6 (fun h=> ?_) fun h=> ?_|refine hKX _ _ _ ?_)| (with_reducible first|refine Y2 fun K hK=> ?_|refine Y3 fun A B hA hB=> ?_)<;>(simp only[go_sem,hdlen])| ((with_reducible first|refine Y8 ?_|refine Y9 ?_);try simp only[AQ.then,AQ.blk,reduceIte,Nat.reduceEqDiff])|refine⟨by omega,?_⟩|fail)
  ·have hrd:(List.range all.length).map (fun k=>s.words.getD (all.getD k default).toNat default)++List.replicate (all.length-all.length) (0:Int)=all.map fun a=>s.words.getD a.toNat default:=by rw[ab9];simp
   rw[hrd]
   rw[ZZ h1' (by assumption),hall] at hQ
   (refine hQ _ _ _ _ _ 7 (dA (qY ⟨q.id,2,all.map fun a=>s.words.getD a.toNat default⟩)) (hp [(0,⟨6,1,[oIm 1 2 3 4 5 6 c0 c1 c2 c3 c4 c5 s]⟩),(1,⟨1,m0,(s.words).map aE⟩),(2,⟨1,m1,(s.holds.set (who*2+q.id).toNat q.addr).map aE⟩),(3,o3),(4,o4),(5,o5),(6,o6)]) _ _ (.inr rfl) rfl (cV [0,1,2,3,4,5,6] (by omega) (aH (bG rfl) (aH (bG rfl) (aH (bU (l:=all.map fun a=>s.words.getD a.toNat default) aJ rfl (by simp) (by simp) (by simp)) eR))) ⟨⟨by simp,by simp[sgL],_,rfl,aM (by repeat' (first| (with_reducible first|exact C3|refine C4 ?_ ?_)| ((with_reducible refine C0 ?_);exact CQ (by omega) rfl rfl (by rfl) rfl)|refine C4 ?_ ?_|fail))⟩,⟨by simp,by simp[sgL],_,rfl,aO (aC aJ _) rfl rfl⟩,⟨by simp,by simp[sgL],_,rfl,aO (aC aJ _) rfl rfl⟩,⟨by simp,by simp[sgL],_,rfl,aN hi3⟩,⟨by simp,by simp[sgL],_,rfl,aN hi4⟩,⟨by simp,by simp[sgL],_,rfl,aN hi5⟩,⟨by simp,by simp[sgL],_,rfl,aN hi6⟩,trivial⟩ (by simp[sgL])) ?_)
   exact⟨rfl,rfl,rfl⟩
  ·have hrd:(List.range all.length).map (fun k=>s.words.getD (all.getD k default).toNat default)++List.replicate (all.length-all.length) (0:Int)=all.map fun a=>s.words.getD a.toNat default:=by rw[ab9];simp
   rw[hrd]
   rw[abW h1' (by omega),hall] at hQ
   (refine hQ _ _ _ _ _ 7 (dA (qY ⟨q.id,1,all.map fun a=>s.words.getD a.toNat default⟩)) (hp [(0,⟨6,1,[oIm 1 2 3 4 5 6 c0 c1 c2 c3 c4 c5 s]⟩),(1,⟨1,m0,(s.words).map aE⟩),(2,⟨1,m1,(s.holds).map aE⟩),(3,o3),(4,o4),(5,o5),(6,o6)]) _ _ (.inr rfl) rfl (cV [0,1,2,3,4,5,6] (by omega) (aH (bG rfl) (aH (bG rfl) (aH (bU (l:=all.map fun a=>s.words.getD a.toNat default) aJ rfl (by simp) (by simp) (by simp)) eR))) ⟨⟨by simp,by simp[sgL],_,rfl,aM (by repeat' (first| (with_reducible first|exact C3|refine C4 ?_ ?_)| ((with_reducible refine C0 ?_);exact CQ (by omega) rfl rfl (by rfl) rfl)|refine C4 ?_ ?_|fail))⟩,⟨by simp,by simp[sgL],_,rfl,aO (aC aJ _) rfl rfl⟩,⟨by simp,by simp[sgL],_,rfl,aO (aC aJ _) rfl rfl⟩,⟨by simp,by simp[sgL],_,rfl,aN hi3⟩,⟨by simp,by simp[sgL],_,rfl,aN hi4⟩,⟨by simp,by simp[sgL],_,rfl,aN hi5⟩,⟨by simp,by simp[sgL],_,rfl,aN hi6⟩,trivial⟩ (by simp[sgL])) ?_)
   exact⟨rfl,rfl,rfl⟩
end
end Go.Proofs.YtegiblhkjfiooaaGreat
end
section
namespace Go.Proofs.YtegiblhkjfiooaaGreat
open Go Go.AM
set_option maxRecDepth 100000
set_option maxHeartbeats 8000000
section
variable {H : aA} {nx : Nat} {K : D → aA → Nat → Prop}
theorem KI {m:List Rng} {s:TSt} {who:Int} {q:Req} {c0 c1 c2 c3 c4 c5 m0 m1 i0 i1 i2 i3 i4 i5 i6:Nat} {o3 o4 o5 o6:bC} (hm4:m.length<2^20) (hf:ON s.words s.holds) (hc0:s.words.length≤c0) (hc1:s.holds.length≤c1) (hw:0≤who∧who≤2) (hq:gH q) (hi3:u6 o3) (hi4:u6 o4) (hi5:u6 o5) (hi6:u6 o6)
 (hlt:i0<nx∧i1<nx∧i2<nx∧i3<nx∧i4<nx∧i5<nx∧i6<nx) (hd:[i0,i1,i2,i3,i4,i5,i6].Nodup) (h0:H i0=some ⟨6,1,[oIm i1 i2 i3 i4 i5 i6 c0 c1 c2 c3 c4 c5 s]⟩) (h1:H i1=some ⟨1,m0,s.words.map aE⟩) (h2:H i2=some ⟨1,m1,s.holds.map aE⟩) (h3:H i3=some o3) (h4:H i4=some o4) (h5:H i5=some o5) (h6:H i6=some o6)
 (h:K (dA (qY (doM m s.words s.holds who q).2)) (((((((H.set i0 ⟨6,1,[oIm i1 i2 i3 i4 i5 i6 c0 c1 c2 c3 c4 c5 s]⟩).set i1 ⟨1,m0,(doM m s.words s.holds who q).1.1.map aE⟩).set i2 ⟨1,m1,(doM m s.words s.holds who q).1.2.map aE⟩).set i3 o3).set i4 o4).set i5 o5).set i6 o6) nx):aB Tryz.prog eZ [dP 6 i0,dS (m.map eY),dI who,dA (d9 q)] H nx K:=by
 refine(KV m s who q c0 c1 c2 c3 c4 c5 m0 m1 o3 o4 o5 o6 hm4 hf hc0 hc1 hw hq hi3 hi4 hi5 hi6).x4 [i0,i1,i2,i3,i4,i5,i6] rfl ⟨AI (by simp) rfl,aF rfl,aF rfl,aF rfl,trivial⟩ ?_ ?_ ?_ hd fun r H' n' _ ⟨q1,q2,q3⟩=> ?_
 ·refine⟨⟨by simp,id,_,h0,aM ?_⟩,⟨by simp,id,_,h1,aO (aC aJ _) rfl rfl⟩,⟨by simp,id,_,h2,aO (aC aJ _) rfl rfl⟩,⟨by simp,id,_,h3,aN hi3⟩,⟨by simp,id,_,h4,aN hi4⟩,⟨by simp,id,_,h5,aN hi5⟩,⟨by simp,id,_,h6,aN hi6⟩,trivial⟩
  unfold oIm
  exact aH (jU (by simp) rfl rfl rfl rfl) (aH (jU (by simp) rfl rfl rfl rfl) (aH (jU (by simp) rfl rfl rfl rfl) (aH (jU (by simp) rfl rfl rfl rfl) (aH (jU (by simp) rfl rfl rfl rfl) (aH (jU (by simp) rfl rfl rfl rfl) eR)))))
 ·exact hd
 ·intro x hx;simp only[List.mem_cons,List.not_mem_nil,or_false] at hx;omega
 ·subst q1;subst q2;subst q3
  generalize (doM m s.words s.holds who q)=dm at*
  obtain⟨⟨w',h'⟩,r'⟩:=dm
  have e0:bC.rn (tau 7 nx (nth [i0,i1,i2,i3,i4,i5,i6])) ⟨6,1,[oIm 1 2 3 4 5 6 c0 c1 c2 c3 c4 c5 s]⟩=⟨6,1,[oIm i1 i2 i3 i4 i5 i6 c0 c1 c2 c3 c4 c5 s]⟩:=rfl
  have e1:back (tau 7 nx (nth [i0,i1,i2,i3,i4,i5,i6])) (hp [(0,⟨6,1,[oIm 1 2 3 4 5 6 c0 c1 c2 c3 c4 c5 s]⟩),(1,⟨1,m0,w'.map aE⟩),(2,⟨1,m1,h'.map aE⟩),(3,o3),(4,o4),(5,o5),(6,o6)]) 7 H=(((((((H.set i0 ⟨6,1,[oIm i1 i2 i3 i4 i5 i6 c0 c1 c2 c3 c4 c5 s]⟩).set i1 ⟨1,m0,w'.map aE⟩).set i2 ⟨1,m1,h'.map aE⟩).set i3 o3).set i4 o4).set i5 o5).set i6 o6):=by
   simp only[back,hp,aA.set,Option.map_some,e0,j8,tC hi3,tC hi4,tC hi5,tC hi6,aA.dK,if_true,Nat.reduceEqDiff,if_false,reduceIte]
   rfl
  rw[←e1] at h
  exact h
theorem G9 (c:Cfg) (s:TSt) (e:Ev) (c0 c1 c2 c3 c4 c5 m0 m1 m2 m3 m4 m5:Nat) (hb:aY c) (hs:rL c s) (hwhy:yL c s e=0) (hc:s.words.length≤c0∧s.holds.length≤c1∧s.asked.length≤c2∧s.wait.length≤c3∧s.done.length≤c4∧s.told.length≤c5) (hm:c3≤m3∧c4≤m4∧c5≤m5):
 aB Tryz.prog jV [dA (cH c),dP 6 0,dA (eEv e)] (hp [(0,⟨6,1,[oIm 1 2 3 4 5 6 c0 c1 c2 c3 c4 c5 s]⟩),(1,⟨1,m0,s.words.map aE⟩),(2,⟨1,m1,s.holds.map aE⟩),(3,⟨1,m2,s.asked.map aE⟩),(4,⟨5,m3,s.wait.map aK⟩),(5,⟨5,m4,s.done.map aK⟩),(6,⟨5,m5,s.told.map aK⟩)]) 7
 fun r H' n'=>∃c3' c4' c5' m3' m4' m5',((bQ c s e).wait.length≤c3'∧(bQ c s e).done.length≤c4'∧(bQ c s e).told.length≤c5')∧(c3'≤m3'∧c4'≤m4'∧c5'≤m5')∧n'=10∧
  H'=hp [(0,⟨6,1,[oIm 1 2 3 7 8 9 c0 c1 c2 c3' c4' c5' (bQ c s e)]⟩),(1,⟨1,m0,(bQ c s e).words.map aE⟩),(2,⟨1,m1,(bQ c s e).holds.map aE⟩),(3,⟨1,m2,(bQ c s e).asked.map aE⟩),(7,⟨5,m3',(bQ c s e).wait.map aK⟩),(8,⟨5,m4',(bQ c s e).done.map aK⟩),(9,⟨5,m5',(bQ c s e).told.map aK⟩)]∧r= .tup []:=by
 have hl:=hs.lens hb
 have hf:=hs.fit hb
 obtain⟨hp3,hp12⟩:=i7 hb
 have hwl:=hs.atm.wl
 have hhl:=hs.atm.hl
 have hal:=hs.mF
 have hmap:=hb.1.1
 have hb12:=hp12 e.who.toNat
 obtain⟨hcw,hch,hca,hct,hcd,hcl⟩:=hc
 obtain⟨hmt,hmd,hml⟩:=hm
 obtain⟨hok,hcase⟩:=oG hwhy
 have hrq:=L7 hb hok
 obtain⟨ho1,ho2⟩:=hok
 have hnd:=SI hs.nodup
 have har:=hs.BQ e.who.toNat (by omega)
 refine E2 rfl fun Q hQ=> ?_
 unfold mK
 simp only[oIm]
 rcases hcase with⟨hk,hi⟩|⟨hk,hi⟩|⟨hk,hi⟩
 ·have hnot:(e.who,e.n)∉s.wait.map key:=fun hm=>by
   have:=(hs.ZF (e.who,e.n) (by simp only[keys,List.map_append];exact List.mem_append_left _ (List.mem_append_left _ hm))).2.2
   dsimp only at this;omega
  repeat' (first| (with_reducible first| (refine hK _ _ _ ?_;clear hK K)| (refine hA ?_;clear hA hB A B)|refine Z1 ?_|refine Z3 fun KB hKB=> ?_|refine Z4 (by omega) ?_)| (first| (with_reducible first|refine Y2 fun K hK=> ?_|refine Y3 fun A B hA hB=> ?_)| (refine S5 (by omega) hs.K8 hnot hct hmt (by omega) rfl (fun cap' m' q1 q2=> ?_)))<;>(simp only[go_sem];try simp (disch:=omega) only[Iw])| ((with_reducible refine Y0 ?_);simp only[AQ.then,AQ.blk])|refine⟨by omega,?_⟩| (with_reducible refine hKB _ _ _ ?_)|fail)
  have hnx:bQ c s e=({s with asked:=s.asked.set e.who.toNat (e.n+1),wait:=gL s.wait ⟨e.who,e.n,kO⟩}:TSt):=by simp only[bQ];rw[if_pos (by assumption)]
  have hst:s.asked.getD e.who.toNat default+1=e.n+1:=by omega
  rw[hst]
  rw[hnx] at hQ
  refine aQ.nil ?_
  (refine hQ _ _ _ _ _ 10 (.tup []) (hp [(0,⟨6,1,[oIm 1 2 3 7 8 9 c0 c1 c2 cap' c4 c5 ({s with asked:=s.asked.set e.who.toNat (e.n+1),wait:=gL s.wait ⟨e.who,e.n,kO⟩}:TSt)]⟩),(1,⟨1,m0,({s with asked:=s.asked.set e.who.toNat (e.n+1),wait:=gL s.wait ⟨e.who,e.n,kO⟩}:TSt).words.map aE⟩),(2,⟨1,m1,({s with asked:=s.asked.set e.who.toNat (e.n+1),wait:=gL s.wait ⟨e.who,e.n,kO⟩}:TSt).holds.map aE⟩),(3,⟨1,m2,({s with asked:=s.asked.set e.who.toNat (e.n+1),wait:=gL s.wait ⟨e.who,e.n,kO⟩}:TSt).asked.map aE⟩),(7,⟨5,m',({s with asked:=s.asked.set e.who.toNat (e.n+1),wait:=gL s.wait ⟨e.who,e.n,kO⟩}:TSt).wait.map aK⟩),(8,⟨5,m4,({s with asked:=s.asked.set e.who.toNat (e.n+1),wait:=gL s.wait ⟨e.who,e.n,kO⟩}:TSt).done.map aK⟩),(9,⟨5,m5,({s with asked:=s.asked.set e.who.toNat (e.n+1),wait:=gL s.wait ⟨e.who,e.n,kO⟩}:TSt).told.map aK⟩)]) _ _ (.inl rfl) rfl (cV [38,5,6,0,1,2,3] (by omega) (by repeat' ((with_reducible refine D0 ?_);exact CA rfl)) ⟨⟨by simp,by simp[sgL],_,rfl,aM (by unfold oIm;repeat' (first| (with_reducible first|exact C3|refine C4 ?_ ?_)| ((with_reducible refine C0 ?_);(exact CQ (by omega) rfl rfl (by first|rfl| (simp;done)) rfl))|fail))⟩,⟨by simp,by simp[sgL],_,rfl,aO (aC aJ _) rfl rfl⟩,⟨by simp,by simp[sgL],_,rfl,aO (aC aJ _) rfl rfl⟩,⟨by simp,by simp[sgL],_,rfl,aO (aC aJ _) rfl rfl⟩,⟨by simp,by simp[sgL],_,rfl,aO (aC aV _) rfl rfl⟩,⟨by simp,by simp[sgL],_,rfl,aO (aC aV _) rfl rfl⟩,⟨by simp,by simp[sgL],_,rfl,aO (aC aV _) rfl rfl⟩,trivial⟩ (by simp[sgL])) ?_)
  exact⟨cap',c4,c5,m',m4,m5,⟨q1,hcd,hcl⟩,⟨q2,hmd,hml⟩,rfl,rfl,rfl⟩
 ·have hkey:=cU hi
  have hnot:(e.who,e.n)∉s.done.map key:=hnd _ (List.mem_map.2 ⟨_,cY hkey.1,hkey.2⟩)
  repeat' (first| (with_reducible first| (refine hK _ _ _ ?_;clear hK K)| (refine hA ?_;clear hA hB A B)| (refine hB ?_;clear hA hB A B)|refine Z1 ?_|refine Z3 fun KB hKB=> ?_|refine Z4 (by omega) ?_|refine Z5 (by omega) ?_)| (first| (with_reducible first|refine Y2 fun K hK=> ?_|refine Y3 fun A B hA hB=> ?_)| (refine yG (l:=s.wait) (by omega) (vQ aV rfl rfl hct trivial) ?_)| (refine lB (by omega) hi hkey.1 hct hmt (by omega) rfl (fun cap1 m1' q1 q2=> ?_))| (refine KI (s:=({s with wait:=iJ s.wait (aW (bV e.who e.n) s.wait).toNat}:TSt)) (c0:=c0) (c1:=c1) (c2:=c2) (c3:=cap1) (c4:=c4) (c5:=c5) (m:=c.map) (q:=bF c e.who e.n) (by omega) hs.atm hcw hch ho1 hrq (iH aJ _) (iH aV _) (iH aV _) (iH aV _) (by omega) (by simp) rfl rfl rfl rfl rfl rfl rfl ?_)| (refine QW (by omega) hs.KZ hnot hcd hmd (by omega) rfl (fun cap' m' q3 q4=> ?_)))<;>(simp only[go_sem,oIm];try simp (disch:=omega) only[Iw])| ((with_reducible refine Y0 ?_);simp only[AQ.then,AQ.blk])|refine⟨by omega,?_⟩| (with_reducible refine hKB _ _ _ ?_)|fail)
  have hnx:bQ c s e=({s with words:=(doM c.map s.words s.holds e.who (bF c e.who e.n)).1.1,holds:=(doM c.map s.words s.holds e.who (bF c e.who e.n)).1.2,wait:=iJ s.wait (aW (bV e.who e.n) s.wait).toNat,done:=gL s.done ⟨e.who,e.n,(doM c.map s.words s.holds e.who (bF c e.who e.n)).2⟩}:TSt):=by simp only[bQ];rw[if_neg (by omega),if_pos (by assumption)]
  have hwl2:=(YJ (m:=c.map) (who:=e.who) hs.atm hrq).wl
  have hhl2:=(YJ (m:=c.map) (who:=e.who) hs.atm hrq).hl
  rw[hnx] at hQ
  refine aQ.nil ?_
  (refine hQ _ _ _ _ _ 10 (.tup []) (hp [(0,⟨6,1,[oIm 1 2 3 7 8 9 c0 c1 c2 cap1 cap' c5 ({s with words:=(doM c.map s.words s.holds e.who (bF c e.who e.n)).1.1,holds:=(doM c.map s.words s.holds e.who (bF c e.who e.n)).1.2,wait:=iJ s.wait (aW (bV e.who e.n) s.wait).toNat,done:=gL s.done ⟨e.who,e.n,(doM c.map s.words s.holds e.who (bF c e.who e.n)).2⟩}:TSt)]⟩),(1,⟨1,m0,({s with words:=(doM c.map s.words s.holds e.who (bF c e.who e.n)).1.1,holds:=(doM c.map s.words s.holds e.who (bF c e.who e.n)).1.2,wait:=iJ s.wait (aW (bV e.who e.n) s.wait).toNat,done:=gL s.done ⟨e.who,e.n,(doM c.map s.words s.holds e.who (bF c e.who e.n)).2⟩}:TSt).words.map aE⟩),(2,⟨1,m1,({s with words:=(doM c.map s.words s.holds e.who (bF c e.who e.n)).1.1,holds:=(doM c.map s.words s.holds e.who (bF c e.who e.n)).1.2,wait:=iJ s.wait (aW (bV e.who e.n) s.wait).toNat,done:=gL s.done ⟨e.who,e.n,(doM c.map s.words s.holds e.who (bF c e.who e.n)).2⟩}:TSt).holds.map aE⟩),(3,⟨1,m2,({s with words:=(doM c.map s.words s.holds e.who (bF c e.who e.n)).1.1,holds:=(doM c.map s.words s.holds e.who (bF c e.who e.n)).1.2,wait:=iJ s.wait (aW (bV e.who e.n) s.wait).toNat,done:=gL s.done ⟨e.who,e.n,(doM c.map s.words s.holds e.who (bF c e.who e.n)).2⟩}:TSt).asked.map aE⟩),(7,⟨5,m1',({s with words:=(doM c.map s.words s.holds e.who (bF c e.who e.n)).1.1,holds:=(doM c.map s.words s.holds e.who (bF c e.who e.n)).1.2,wait:=iJ s.wait (aW (bV e.who e.n) s.wait).toNat,done:=gL s.done ⟨e.who,e.n,(doM c.map s.words s.holds e.who (bF c e.who e.n)).2⟩}:TSt).wait.map aK⟩),(8,⟨5,m',({s with words:=(doM c.map s.words s.holds e.who (bF c e.who e.n)).1.1,holds:=(doM c.map s.words s.holds e.who (bF c e.who e.n)).1.2,wait:=iJ s.wait (aW (bV e.who e.n) s.wait).toNat,done:=gL s.done ⟨e.who,e.n,(doM c.map s.words s.holds e.who (bF c e.who e.n)).2⟩}:TSt).done.map aK⟩),(9,⟨5,m5,({s with words:=(doM c.map s.words s.holds e.who (bF c e.who e.n)).1.1,holds:=(doM c.map s.words s.holds e.who (bF c e.who e.n)).1.2,wait:=iJ s.wait (aW (bV e.who e.n) s.wait).toNat,done:=gL s.done ⟨e.who,e.n,(doM c.map s.words s.holds e.who (bF c e.who e.n)).2⟩}:TSt).told.map aK⟩)]) _ _ (.inl rfl) rfl (cV [37,70,6,0,1,2,3] (by omega) (by repeat' ((with_reducible refine D0 ?_);exact CA rfl)) ⟨⟨by simp,by simp[sgL],_,rfl,aM (by unfold oIm;repeat' (first| (with_reducible first|exact C3|refine C4 ?_ ?_)| ((with_reducible refine C0 ?_);(exact CQ (by omega) rfl rfl (by first|rfl| (dsimp only;omega)) rfl))|fail))⟩,⟨by simp,by simp[sgL],_,rfl,aO (aC aJ _) rfl rfl⟩,⟨by simp,by simp[sgL],_,rfl,aO (aC aJ _) rfl rfl⟩,⟨by simp,by simp[sgL],_,rfl,aO (aC aJ _) rfl rfl⟩,⟨by simp,by simp[sgL],_,rfl,aO (aC aV _) rfl rfl⟩,⟨by simp,by simp[sgL],_,rfl,aO (aC aV _) rfl rfl⟩,⟨by simp,by simp[sgL],_,rfl,aO (aC aV _) rfl rfl⟩,trivial⟩ (by simp[sgL])) ?_)
  exact⟨cap1,cap',c5,m1',m',m5,⟨q1,q3,hcl⟩,⟨q2,q4,hml⟩,rfl,rfl,rfl⟩
 ·have hkey:=cU hi
  repeat' (first| (with_reducible first| (refine hK _ _ _ ?_;clear hK K)| (refine hA ?_;clear hA hB A B)| (refine hB ?_;clear hA hB A B)|refine Z1 ?_|refine Z3 fun KB hKB=> ?_|refine Z4 (by omega) ?_|refine Z5 (by omega) ?_|refine fun(cap:Nat) (hcap:_≤cap)=> ?_|refine fun(hcp:_≤cap)=> ?_)| (first| (with_reducible first|refine Y2 fun K hK=> ?_|refine Y3 fun A B hA hB=> ?_)| (refine yG (l:=s.done) (by omega) (vQ aV rfl rfl hcd trivial) ?_)| (refine lB (by omega) hi hkey.1 hcd hmd (by omega) rfl (fun cap1 m1' q1 q2=> ?_)))<;>(simp only[go_sem];try simp (disch:=omega) only[Iw])| ((with_reducible refine Y0 ?_);simp only[AQ.then,AQ.blk])|refine⟨by omega,?_⟩| (with_reducible refine hKB _ _ _ ?_)|fail)
  have hnx:bQ c s e=({s with told:=s.told++[s.done.getD (aW (bV e.who e.n) s.done).toNat default],done:=iJ s.done (aW (bV e.who e.n) s.done).toNat}:TSt):=by simp only[bQ];rw[if_neg (by omega),if_neg (by omega)]
  rw[hnx] at hQ
  refine aQ.nil ?_
  (refine hQ _ _ _ _ _ 10 (.tup []) (hp [(0,⟨6,1,[oIm 1 2 3 7 8 9 c0 c1 c2 c3 cap1 cap ({s with told:=s.told++[s.done.getD (aW (bV e.who e.n) s.done).toNat default],done:=iJ s.done (aW (bV e.who e.n) s.done).toNat}:TSt)]⟩),(1,⟨1,m0,({s with told:=s.told++[s.done.getD (aW (bV e.who e.n) s.done).toNat default],done:=iJ s.done (aW (bV e.who e.n) s.done).toNat}:TSt).words.map aE⟩),(2,⟨1,m1,({s with told:=s.told++[s.done.getD (aW (bV e.who e.n) s.done).toNat default],done:=iJ s.done (aW (bV e.who e.n) s.done).toNat}:TSt).holds.map aE⟩),(3,⟨1,m2,({s with told:=s.told++[s.done.getD (aW (bV e.who e.n) s.done).toNat default],done:=iJ s.done (aW (bV e.who e.n) s.done).toNat}:TSt).asked.map aE⟩),(7,⟨5,m3,({s with told:=s.told++[s.done.getD (aW (bV e.who e.n) s.done).toNat default],done:=iJ s.done (aW (bV e.who e.n) s.done).toNat}:TSt).wait.map aK⟩),(8,⟨5,m1',({s with told:=s.told++[s.done.getD (aW (bV e.who e.n) s.done).toNat default],done:=iJ s.done (aW (bV e.who e.n) s.done).toNat}:TSt).done.map aK⟩),(9,⟨5,cap,({s with told:=s.told++[s.done.getD (aW (bV e.who e.n) s.done).toNat default],done:=iJ s.done (aW (bV e.who e.n) s.done).toNat}:TSt).told.map aK⟩)]) _ _ (.inl rfl) rfl (cV [4,56,40,0,1,2,3] (by omega) (by repeat' ((with_reducible refine D0 ?_);exact CA rfl)) ⟨⟨by simp,by simp[sgL],_,rfl,aM (by unfold oIm;repeat' (first| (with_reducible first|exact C3|refine C4 ?_ ?_)| ((with_reducible refine C0 ?_);(exact CQ (by omega) rfl rfl (by first|rfl| (simp;done)) rfl))|fail))⟩,⟨by simp,by simp[sgL],_,rfl,aO (aC aJ _) rfl rfl⟩,⟨by simp,by simp[sgL],_,rfl,aO (aC aJ _) rfl rfl⟩,⟨by simp,by simp[sgL],_,rfl,aO (aC aJ _) rfl rfl⟩,⟨by simp,by simp[sgL],_,rfl,aO (aC aV _) rfl rfl⟩,⟨by simp,by simp[sgL],_,rfl,aO (aC aV _) rfl rfl⟩,⟨by simp,by simp[sgL],_,rfl,aO (aC aV _) rfl rfl⟩,trivial⟩ (by simp[sgL])) ?_)
  exact⟨c3,cap1,cap,m3,m1',cap,⟨hct,q1,by simpa using hcap⟩,⟨hmt,q2,Nat.le_refl _⟩,rfl,rfl,rfl⟩
end
end Go.Proofs.YtegiblhkjfiooaaGreat
end
