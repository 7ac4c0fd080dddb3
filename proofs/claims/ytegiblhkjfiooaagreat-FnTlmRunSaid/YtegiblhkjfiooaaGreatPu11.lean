/- Texts laid together by a program: rules, contracts and the walk that leads to the law. -/
import Derived.Test.YtegiblhkjfiooaaGreatPu10
import Derived.Test.YtegiblhkjfiooaaGreatPu8
set_option linter.unusedVariables false
set_option linter.unusedSimpArgs false
set_option linter.unusedSectionVars false
section
namespace Go.Proofs.YtegiblhkjfiooaaGreat
open Go Go.AM
set_option maxRecDepth 100000
set_option maxHeartbeats 4000000
section
variable {H : aA} {nx : Nat} {K : D → aA → Nat → Prop}
theorem BS (l:List Int) (x:Int) (hl:l.length<2^40):aB Tryz.prog gN [dS (l.map aJ),dI x] .nil 0 fun rr _ _=>rr.plain=true∧rr=dI (bK (fun y=>decide (x=y)) l):=by
 refine AD rfl fun Q hQ=> ?_
 unfold jQ
 repeat' (first| (with_reducible first| (refine hK _ _ _ ?_;clear hK K)|refine Z1 ?_|refine Z3 fun KB hKB=> ?_)| (with_reducible refine Y2 fun K hK=> ?_)<;>(simp only[go_sem])|fail)
 (have hKX:=hKB;clear hKB);(refine aM.loop (α:={k:Nat//k≤l.length∧(∀i,i<k→(fun y=>decide (x=y)) (l.getD i default)=false)}) (fun u=>en [(8,dI u.1),(7,dI l.length),(1,dI x),(0,dS (l.map aJ))]) (fun _=>.nil) _ (fun u=>l.length-u.1) ⟨0,by omega,(by intros;first|trivial|omega)⟩ (bU (Nat.le_refl _) (by repeat' (first| (with_reducible first|exact C1|refine C2 ?_ ?_)| ((with_reducible refine D0 ?_);exact CA rfl)|fail))) ?_);(rintro⟨k,hk,hinv⟩ KL hKL)
 by_cases hlt:k<l.length
 ·repeat' (first| (with_reducible first| (refine hK _ _ _ ?_;clear hK K)| (refine hA ?_;clear hA hB A B)| (refine hB ?_;clear hA hB A B)|refine Z1 ?_|refine Z2 ?_|refine Z3 fun KB hKB=> ?_|refine Z4 (by omega) ?_|refine Z6 (fun h=> ?_) fun h=> ?_)| (with_reducible first|refine Y2 fun K hK=> ?_|refine Y3 fun A B hA hB=> ?_)<;>(simp only[go_sem];try simp (disch:=omega) only[Iw])| ((with_reducible refine Y8 ?_);try simp only[AQ.then,AQ.blk,reduceIte,Nat.reduceEqDiff])| ((with_reducible refine Y0 ?_);simp only[AQ.then,AQ.blk])|refine⟨by omega,?_⟩| (with_reducible refine hKB _ _ _ ?_)|fail)
  ·refine aZ hQ _ rfl rfl (qA (Eq.symm (CU (by omega) (decide_eq_true (by assumption)) hinv)))
  · (refine hKL _ _ _ ⟨k+1,by omega,iS hinv (decide_eq_false (by assumption))⟩ (by omega) (by(try dsimp only);omega) (bU (Nat.le_refl _) (by repeat' (first| (with_reducible first|exact C1|refine C2 ?_ ?_)| ((with_reducible refine D0 ?_);exact CA rfl)|fail))))
 ·repeat' (first| (with_reducible first| (refine hK _ _ _ ?_;clear hK K)| (refine hB ?_;clear hA hB A B)|refine Z1 ?_|refine Z5 (by omega) ?_|refine hKX _ _ _ ?_)| (with_reducible first|refine Y2 fun K hK=> ?_|refine Y3 fun A B hA hB=> ?_)<;>(simp only[go_sem])| ((with_reducible first|refine Y8 ?_|refine Y9 ?_);try simp only[AQ.then,AQ.blk,reduceIte,Nat.reduceEqDiff])|fail)
  refine aZ hQ (dI _) rfl rfl (qA (Eq.symm (tI fun i hi=>hinv i (by omega))))
theorem BG {l:List Int} {x:Int} (hl:l.length<2^40) {d0:D} (hd0:CvD H (fun _=>True) id 0 (dS (l.map aJ)) d0) (h:K (dI (bK (fun y=>decide (x=y)) l)) H nx):aB Tryz.prog gN [d0,dI x] H nx K:=
 (BS l x hl).pure rfl (aI ⟨hd0,aE rfl,trivial⟩) (fun r hr=>hr▸h)
theorem xC (l:List Int) (x:Int) (hl:l.length<2^40):aB Tryz.prog fK [dS (l.map aJ),dI x] .nil 0 fun rr _ _=>rr.plain=true∧rr=dB (decide (x∈l)):=by
 refine wG rfl fun Q hQ=> ?_
 unfold iC
 repeat' (first| (with_reducible first| (refine hK _ _ _ ?_;clear hK K)|refine Z1 ?_)| (first| (with_reducible refine Y2 fun K hK=> ?_)| (refine BG hl (aE rfl) ?_))<;>(simp only[go_sem])| ((with_reducible refine Y8 ?_);try simp only[AQ.then,AQ.blk,reduceIte,Nat.reduceEqDiff])|fail)
 all_goals first|with_reducible refine aZ hQ _ rfl rfl ?_|skip
 all_goals refine pD (cH.trans ⟨fun⟨y,hy,he⟩=> ?_,fun h=>⟨x,h,by simp⟩⟩)
 all_goals have:=of_decide_eq_true he;subst this;exact hy
theorem x8 {l:List Int} {x:Int} (hl:l.length<2^40) {d0:D} (hd0:CvD H (fun _=>True) id 0 (dS (l.map aJ)) d0) (h:K (dB (decide (x∈l))) H nx):aB Tryz.prog fK [d0,dI x] H nx K:=
 (xC l x hl).pure rfl (aI ⟨hd0,aE rfl,trivial⟩) (fun r hr=>hr▸h)
theorem XT {f:Nat→Int} {n k:Nat} {x:Int} (hk:k<n) (hx:x=f k):((List.range k).map f++List.replicate (n-k) (0:Int)).set k x=(List.range (k+1)).map f++List.replicate (n-(k+1)) 0:=by
 have e:n-k=(n-(k+1))+1:=by omega
 have h1:((List.range k).map f).length=k:=by simp
 rw[List.set_append,h1,if_neg (Nat.lt_irrefl k),Nat.sub_self,e,List.replicate_succ,List.set_cons_zero,List.range_succ,List.map_append,List.append_assoc,hx]
 rfl
theorem N0 (addr many:Int) (wrap:Bool):aB Tryz.prog oS [dI addr,dI many,dB wrap] .nil 0 fun rr _ nn=>nn=0∧rr.imm=true∧rr=dS ((bE addr many wrap).map aJ):=by
 refine M3 rfl fun Q hQ=> ?_
 unfold s6
 by_cases hok:o7 addr many wrap
 ·obtain⟨f1,f2,f3,f4,f5,f6,f7,f8⟩:=aaA hok
  repeat' (first| (with_reducible first| (refine hK _ _ _ ?_;clear hK K)| (refine hB ?_;clear hA hB A B)|refine Z1 ?_|refine Z2 ?_|refine Z3 fun KB hKB=> ?_)| (first| (with_reducible first|refine Y2 fun K hK=> ?_|refine Y3 fun A B hA hB=> ?_)| (with_reducible refine wS ?_))<;>(simp only[go_sem,f6,eq_true hok])|refine⟨by omega,?_⟩|fail)
  (have hKX:=hKB;clear hKB)
  refine aM.sG 1 (β:=Nat) (fun b k=>en [(18,dI k),(17,dI many),(7,dO 1 b many.toNat many.toNat),(2,dB wrap),(1,dI many),(0,dI addr)])
   (fun b k=>hp [(b,⟨1,many.toNat,((List.range k).map (bAt addr many wrap)++List.replicate (many.toNat-k) (0:Int)).map aJ⟩)]) (fun k=>k≤many.toNat) (fun k=>many.toNat-k) 0 ?_ (by omega) ?_
  · (refine cR [7] (by omega) (by repeat' (first| (with_reducible first|exact C1|refine C2 ?_ ?_)| ((with_reducible refine C0 ?_);first|exact CQ (by omega) rfl rfl (by rfl) rfl| (exact CG (by(congr 2;omega)) rfl))| ((with_reducible refine D0 ?_);first|exact CA rfl|refine CJ ?_)|fail)) ⟨⟨by simp,by simp[sgL],_,rfl,bP (aG bF _) (by simp[aJ]) rfl⟩,trivial⟩ (by simp[sgL]))
  intro k hk KL hKL
  have hlen:((List.range k).map (bAt addr many wrap)++List.replicate (many.toNat-k) (0:Int)).length=many.toNat:=by simp;omega
  by_cases hlt:k<many.toNat
  ·obtain⟨g1,g2,g3⟩:=agW hok k hlt
   have hmod:(addr+k).tmod many=(addr+k)%many:=Int.tmod_eq_emod_of_nonneg (by omega)
   have hm2:=Int.emod_lt_of_pos (addr+k) f2
   have hm3:=Int.emod_nonneg (addr+k) f1
   repeat' (first| (with_reducible first| (refine hK _ _ _ ?_;clear hK K)| (refine hA ?_;clear hA hB A B)| (refine hB ?_;clear hA hB A B)|refine Z1 ?_|refine Z2 ?_|refine Z3 fun KB hKB=> ?_|refine Z4 (by omega) ?_)| (with_reducible first|refine Y2 fun K hK=> ?_|refine Y3 fun A B hA hB=> ?_)<;>(simp only[go_sem,f6,hmod,List.set_set,hlen];try simp (disch:=omega) only[Iw])| ((with_reducible refine Y0 ?_);simp only[AQ.then,AQ.blk])| ((with_reducible refine Z8 (fun h=> ?_) (fun h=> ?_))<;>try subst h)|refine⟨by omega,?_⟩| (with_reducible refine hKB _ _ _ ?_)|fail)
   ·exact hKL _ _ _ (k+1) (by omega) (by(refine cR [12] (by omega) (by repeat' (first| (with_reducible first|exact C1|refine C2 ?_ ?_)| ((with_reducible refine C0 ?_);exact CQ (by omega) rfl rfl (by rfl) rfl)| ((with_reducible refine D0 ?_);first|exact CA rfl|refine CJ ?_)|fail)) ⟨⟨by simp,by simp[sgL],_,rfl,bP (aG bF _) (congrArg _ (XT hlt (by simp only[bAt,if_true])).symm) rfl⟩,trivial⟩ (by simp[sgL]))) (by omega) (by omega)
   ·exact hKL _ _ _ (k+1) (by omega) (by(refine cR [12] (by omega) (by repeat' (first| (with_reducible first|exact C1|refine C2 ?_ ?_)| ((with_reducible refine C0 ?_);exact CQ (by omega) rfl rfl (by rfl) rfl)| ((with_reducible refine D0 ?_);first|exact CA rfl|refine CJ ?_)|fail)) ⟨⟨by simp,by simp[sgL],_,rfl,bP (aG bF _) (congrArg _ (XT hlt (by simp[bAt])).symm) rfl⟩,trivial⟩ (by simp[sgL]))) (by omega) (by omega)
  ·repeat' (first| (with_reducible first| (refine hK _ _ _ ?_;clear hK K)| (refine hB ?_;clear hA hB A B)|refine Z1 ?_|refine Z5 (by omega) ?_|refine hKX _ _ _ ?_)| (with_reducible first|refine Y2 fun K hK=> ?_|refine Y3 fun A B hA hB=> ?_)<;>(simp only[go_sem])| ((with_reducible first|refine Y8 ?_|refine Y9 ?_);try simp only[AQ.then,AQ.blk,reduceIte,Nat.reduceEqDiff])|fail)
   have hk2:k=many.toNat:=by omega
   subst hk2
   exact V4 hQ (dS ((bE addr many wrap).map aJ)) _ rfl (yP (l:=bE addr many wrap) bF (by simp[bE,hok];rfl) (DF hok).symm (by rw[DF hok];omega) trivial) rfl rfl
 ·repeat' (first| (with_reducible first| (refine hK _ _ _ ?_;clear hK K)| (refine hA ?_;clear hA hB A B)|refine Z1 ?_)| (first| (with_reducible first|refine Y2 fun K hK=> ?_|refine Y3 fun A B hA hB=> ?_)| (with_reducible refine wS ?_))<;>(simp only[go_sem,eq_false hok])| ((with_reducible refine Y8 ?_);try simp only[AQ.then,AQ.blk,reduceIte,Nat.reduceEqDiff])|fail)
  exact V4 hQ (dS []) _ rfl xG rfl (by simp[bE,hok])
theorem OQ {addr:Int} {many:Int} {wrap:Bool} (h:K (dS ((bE addr many wrap).map aJ)) H nx):aB Tryz.prog oS [dI addr,dI many,dB wrap] H nx K:=
 (N0 addr many wrap).fresh rfl (fun r hr=>hr▸h)
theorem HJ (q:Req):aB Tryz.prog fP [dA (eB q)] .nil 0 fun rr _ nn=>nn=0∧rr.imm=true∧rr=dS ((bE q.addr q.many q.wrap).map aJ):=by
 refine GL rfl fun Q hQ=> ?_
 unfold mQ
 repeat' (first| (with_reducible first| (refine hK _ _ _ ?_;clear hK K)|refine Z1 ?_)| (first| (with_reducible refine Y2 fun K hK=> ?_)| (with_reducible refine OQ ?_))<;>(simp only[go_sem])| ((with_reducible refine Y8 ?_);try simp only[AQ.then,AQ.blk,reduceIte,Nat.reduceEqDiff])|fail)
 all_goals exact V4 hQ (dS _) _ rfl (aE rfl) rfl rfl
theorem vY {q:Req} (h:K (dS ((bE q.addr q.many q.wrap).map aJ)) H nx):aB Tryz.prog fP [dA (eB q)] H nx K:=
 (HJ q).fresh rfl (fun r hr=>hr▸h)
theorem XA (l:List Rng) (q:Req) (hl:l.length<2^40):aB Tryz.prog mZ [dS (l.map eN),dA (eB q)] .nil 0 fun rr _ _=>rr.plain=true∧rr=dI (bV l (bE q.addr q.many q.wrap)):=by
 refine TU rfl fun Q hQ=> ?_
 unfold zZ
 have hb4:=MK (addr:=q.addr) (many:=q.many) (wrap:=q.wrap)
 repeat' (first| (with_reducible first| (refine hK _ _ _ ?_;clear hK K)|refine Z1 ?_|refine Z3 fun KB hKB=> ?_)| (first| (with_reducible refine Y2 fun K hK=> ?_)| (with_reducible refine vY ?_))<;>(simp only[go_sem])|fail)
 generalize bE q.addr q.many q.wrap=all at*
 (have hKX:=hKB;clear hKB);(refine aM.loop (α:={k:Nat//k≤all.length∧(∀i,i<k→¬bK (inR · (all.getD i default)) l<0∧bK (inR · (all.getD i default)) l=bK (inR · (all.getD 0 default)) l)}) (fun u=>en [(12,dI u.1),(11,dI all.length),(10,dS (all.map aJ)),(5,dI (if u.1=0 then-1 else bK (inR · (all.getD 0 default)) l)),(0,dS (l.map eN))]) (fun _=>.nil) _ (fun u=>all.length-u.1) ⟨0,by omega,(by intros;first|trivial|omega)⟩ (bU (Nat.le_refl _) (by repeat' (first| (with_reducible first|exact C1|refine C2 ?_ ?_)| ((with_reducible refine D0 ?_);exact CA rfl)|fail))) ?_);(rintro⟨k,hk,hinv⟩ KL hKL)
 by_cases hlt:k<all.length
 ·repeat' (first| (with_reducible first| (refine hK _ _ _ ?_;clear hK K)| (refine hA ?_;clear hA hB A B)| (refine hB ?_;clear hA hB A B)|refine Z1 ?_|refine Z2 ?_|refine Z3 fun KB hKB=> ?_|refine Z4 (by omega) ?_|refine Z6 (fun h=> ?_) fun h=> ?_)| (first| (with_reducible first|refine Y2 fun K hK=> ?_|refine Y3 fun A B hA hB=> ?_|refine Y6 (fun h=> ?_) fun h=> ?_)| (with_reducible refine SX hl ?_))<;>(simp only[go_sem];try simp (disch:=omega) only[Iw])| ((with_reducible refine Y8 ?_);try simp only[AQ.then,AQ.blk,reduceIte,Nat.reduceEqDiff])| ((with_reducible refine Y0 ?_);simp only[AQ.then,AQ.blk])|refine⟨by omega,?_⟩| (with_reducible refine hKB _ _ _ ?_)|fail)
  ·refine aZ hQ (dI _) rfl rfl (qA ?_)
   rcases Nat.eq_zero_or_pos k with h0|h0
   ·subst h0
    have hg:=aoF (p:=(inR · (all.getD 0 default))) (l:=l)
    by_cases hy: ∀i,i<all.length→1≤i→bK (inR · (all.getD i default)) l=bK (inR · (all.getD 0 default)) l
    ·rw[RH (by omega) hy];omega
    ·have: ∃i,i<all.length∧ ¬bK (inR · (all.getD i default)) l=bK (inR · (all.getD 0 default)) l:=Classical.byContradiction fun hc=>hy fun i hi _=>Classical.byContradiction fun hn=>hc ⟨i,hi,hn⟩
     obtain⟨i,hi,hn⟩:=this
     rw[L8 hi hn]
   ·have:=(hinv 0 h0).1
    exact(L8 hlt (by omega)).symm
  ·refine aZ hQ (dI _) rfl rfl (qA (L8 hlt (fun he=> ?_)).symm)
   grind
  all_goals
   have heq:bK (inR · (all.getD k default)) l=bK (inR · (all.getD 0 default)) l:=by grind
   refine hKL _ _ _ ⟨k+1,by omega,iS hinv ⟨by omega,heq⟩⟩ (by omega) (by dsimp only;omega) (bU (Nat.le_refl _) ?_)
   dsimp only
   rw[if_neg (Nat.succ_ne_zero k),←heq]
   repeat' (first| (with_reducible first|exact C1|refine C2 ?_ ?_)| ((with_reducible refine D0 ?_);exact CA rfl)|fail)
 ·repeat' (first| (with_reducible first| (refine hK _ _ _ ?_;clear hK K)| (refine hB ?_;clear hA hB A B)|refine Z1 ?_|refine Z5 (by omega) ?_|refine hKX _ _ _ ?_)| (with_reducible first|refine Y2 fun K hK=> ?_|refine Y3 fun A B hA hB=> ?_)<;>(simp only[go_sem])| ((with_reducible first|refine Y8 ?_|refine Y9 ?_);try simp only[AQ.then,AQ.blk,reduceIte,Nat.reduceEqDiff])|fail)
  refine aZ hQ (dI _) rfl rfl (qA ?_)
  by_cases h0:k=0
  ·rw[if_pos h0,adL (by omega)]
  ·rw[if_neg h0,RH (by omega) (fun i hi _=>(hinv i (by omega)).2)]
theorem KD {l:List Rng} {q:Req} (hl:l.length<2^40) (h:K (dI (bV l (bE q.addr q.many q.wrap))) H nx):aB Tryz.prog mZ [dS (l.map eN),dA (eB q)] H nx K:=
 (XA l q hl).pure rfl (aI ⟨aE rfl,aE rfl,trivial⟩) (fun r hr=>hr▸h)
end
end Go.Proofs.YtegiblhkjfiooaaGreat
end
section
namespace Go.Proofs.YtegiblhkjfiooaaGreat
open Go Go.AM
set_option maxRecDepth 100000
set_option maxHeartbeats 4000000
section
variable {H : aA} {nx : Nat} {K : D → aA → Nat → Prop}
theorem aeU (old new lanes:Int) (h1:0≤old∧old≤65535) (h2:0≤new∧new≤65535) (h3:0≤lanes∧lanes≤3):aB Tryz.prog DA [dI old,dI new,dI lanes] .nil 0 fun rr _ _=>rr.plain=true∧rr=dI (xZ old new lanes):=by
 refine ZG rfl fun Q hQ=> ?_
 unfold GM
 have hc:lanes=0∨lanes=1∨lanes=2∨lanes=3:=by omega
 rcases hc with rfl|rfl|rfl|rfl
 all_goals repeat' (first| (with_reducible first| (refine hK _ _ _ ?_;clear hK K)|refine Z1 ?_)| (with_reducible refine Y2 fun K hK=> ?_)<;>(simp only[go_sem])| ((with_reducible refine Y8 ?_);try simp only[AQ.then,AQ.blk,reduceIte,Nat.reduceEqDiff])|fail)
 ·exact aZ hQ (dI (aeN old new (aaU 0))) rfl rfl (qA (by rw[arC];exact PW h1 h2 (by omega)))
 ·exact aZ hQ (dI (aeN old new (aaU 1))) rfl rfl (qA (by rw[aqD];exact PW h1 h2 (by omega)))
 ·exact aZ hQ (dI (aeN old new (aaU 2))) rfl rfl (qA (by rw[arO];exact PW h1 h2 (by omega)))
 ·exact aZ hQ (dI (aeN old new (aaU 3))) rfl rfl (qA (by rw[arA];exact PW h1 h2 (by omega)))
theorem ae5 {old:Int} {new:Int} {lanes:Int} (h1:0≤old∧old≤65535) (h2:0≤new∧new≤65535) (h3:0≤lanes∧lanes≤3) (h:K (dI (xZ old new lanes)) H nx):aB Tryz.prog DA [dI old,dI new,dI lanes] H nx K:=
 (aeU old new lanes h1 h2 h3).pure rfl (aI ⟨aE rfl,aE rfl,aE rfl,trivial⟩) (fun r hr=>hr▸h)
theorem aqI {w all:List Int}:(List.range all.length).map (fun k=>w.getD (all.getD k default).toNat default)=all.map fun a=>w.getD a.toNat default:=by
 apply List.ext_getElem
 ·simp
 ·intro i h1 h2
  simp only[List.length_map] at h2
  simp[List.getD,h2]
theorem aw7 (m:List Rng) (s:TSt) (who:Int) (q:Req) (c0 c1 c2 c3 c4 c5 m0 m1:Nat) (o3 o4 o5 o6:bA) (hm4:m.length<2^20) (hf:WK s.words s.holds) (hc0:s.words.length≤c0) (hc1:s.holds.length≤c1) (hw:0≤who∧who≤2) (hq:dH q) (hi3:C7 o3) (hi4:C7 o4) (hi5:C7 o5) (hi6:C7 o6):
 aB Tryz.prog pL [dP 6 0,dS (m.map eN),dI who,dA (eB q)] (hp [(0,⟨6,1,[oIm 1 2 3 4 5 6 c0 c1 c2 c3 c4 c5 s]⟩),(1,⟨1,m0,(s.words).map aJ⟩),(2,⟨1,m1,(s.holds).map aJ⟩),(3,o3),(4,o4),(5,o5),(6,o6)]) 7
 fun r H' n'=>n'=7∧H'=hp [(0,⟨6,1,[oIm 1 2 3 4 5 6 c0 c1 c2 c3 c4 c5 s]⟩),(1,⟨1,m0,((doM m s.words s.holds who q).1.1).map aJ⟩),(2,⟨1,m1,((doM m s.words s.holds who q).1.2).map aJ⟩),(3,o3),(4,o4),(5,o5),(6,o6)]∧r=dA (tG (doM m s.words s.holds who q).2):=by
 obtain⟨hwl,hwr,hsl,hsr⟩:=hf
 obtain⟨hq1,hq2,hq3,hq4,hq5,hq6,hq7,hq8⟩:=hq
 have hbl:=DF hq3
 have hbp:=ai5 hq3
 have hb4:=MK (addr:=q.addr) (many:=q.many) (wrap:=q.wrap)
 have hbi:All (bE q.addr q.many q.wrap) 0 63:=V1
 have hlt:=PQ (p:=(inR · ((bE q.addr q.many q.wrap).getD 0 default))) (l:=m)
 have hwh:bV m (bE q.addr q.many q.wrap)<m.length:=by unfold bV;grind
 have hdl:wrM q=true→q.data.length=(bE q.addr q.many q.wrap).length∧q.lanes.length=(bE q.addr q.many q.wrap).length:=by
  intro h;unfold wrM at h;unfold n5 at hq4 hq5;simp at h;simp only[h,if_true] at hq4 hq5;omega
 have hwi:=W4 (q:=q)
 refine avS rfl fun Q hQ=> ?_
 unfold nS
 generalize hall:bE q.addr q.many q.wrap=all at*
 have hwo: ∀{H:aA} {nx:Nat} {K:D→aA→Nat→Prop},K (dI (bV m all)) H nx→aB Tryz.prog mZ [dS (m.map eN),dA (eB q)] H nx K:=fun h=>KD (by omega) (by rw[hall];exact h)
 have hbu: ∀{H:aA} {nx:Nat} {K:D→aA→Nat→Prop},K (dS (all.map aJ)) H nx→aB Tryz.prog fP [dA (eB q)] H nx K:=fun h=>vY (by rw[hall];exact h)
 by_cases h1:bV m all<0
 ·rw[alZ (by rw[hall];exact h1)] at hQ
  simp only[oIm]
  repeat' (first| (with_reducible first| (refine hK _ _ _ ?_;clear hK K)| (refine hA ?_;clear hA hB A B)|refine Z1 ?_|refine Z3 fun KB hKB=> ?_|refine Z4 (by omega) ?_)| (first| (with_reducible first|refine Y2 fun K hK=> ?_|refine Y3 fun A B hA hB=> ?_)| (with_reducible refine hwo ?_))<;>(simp only[go_sem];try simp (disch:=omega) only[Iw])| ((with_reducible refine Y8 ?_);try simp only[AQ.then,AQ.blk,reduceIte,Nat.reduceEqDiff])|refine⟨by omega,?_⟩|fail)
  (refine hQ _ _ _ _ _ 7 (dA (tG ⟨q.id,4,[]⟩)) (hp [(0,⟨6,1,[oIm 1 2 3 4 5 6 c0 c1 c2 c3 c4 c5 s]⟩),(1,⟨1,m0,(s.words).map aJ⟩),(2,⟨1,m1,(s.holds).map aJ⟩),(3,o3),(4,o4),(5,o5),(6,o6)]) _ _ (.inr rfl) rfl (fU [0,1,2,3,4,5,6] (by omega) (by repeat' (first| ((with_reducible refine C0 ?_);first|exact CB rfl|exact CF)| ((with_reducible refine D0 ?_);refine C9 ?_)|exact C3|refine C4 ?_ ?_|fail)) ⟨⟨by simp,by simp[sgL],_,rfl,aP (by repeat' (first| (with_reducible first|exact C3|refine C4 ?_ ?_)| ((with_reducible refine C0 ?_);exact CQ (by omega) rfl rfl (by rfl) rfl)|refine C4 ?_ ?_|fail))⟩,⟨by simp,by simp[sgL],_,rfl,bP (aG bF _) rfl rfl⟩,⟨by simp,by simp[sgL],_,rfl,bP (aG bF _) rfl rfl⟩,⟨by simp,by simp[sgL],_,rfl,bS hi3⟩,⟨by simp,by simp[sgL],_,rfl,bS hi4⟩,⟨by simp,by simp[sgL],_,rfl,bS hi5⟩,⟨by simp,by simp[sgL],_,rfl,bS hi6⟩,trivial⟩ (by simp[sgL])) ?_)
  exact⟨rfl,rfl,rfl⟩
 have h1': ¬bV m (bE q.addr q.many q.wrap)<0:=by rw[hall];exact h1
 by_cases h2:wrM q=true
 ·obtain⟨hd1,hd2⟩:=hdl h2
  by_cases h3:(m.getD (bV m all).toNat default).only=true
  ·rw[anB h1' h2 (by rw[hall];exact h3)] at hQ
   simp only[oIm]
   repeat' (first| (with_reducible first| (refine hK _ _ _ ?_;clear hK K)| (refine hA ?_;clear hA hB A B)| (refine hB ?_;clear hA hB A B)|refine Z1 ?_|refine Z3 fun KB hKB=> ?_|refine Z5 (by omega) ?_)| (first| (with_reducible first|refine Y2 fun K hK=> ?_|refine Y3 fun A B hA hB=> ?_)| (with_reducible refine hwo ?_)| (with_reducible refine gH ?_))<;>(simp only[go_sem,h2,h3];try simp (disch:=omega) only[Iw])| ((with_reducible refine Y8 ?_);try simp only[AQ.then,AQ.blk,reduceIte,Nat.reduceEqDiff])|refine⟨by omega,?_⟩|fail)
   (refine hQ _ _ _ _ _ 7 (dA (tG ⟨q.id,3,[]⟩)) (hp [(0,⟨6,1,[oIm 1 2 3 4 5 6 c0 c1 c2 c3 c4 c5 s]⟩),(1,⟨1,m0,(s.words).map aJ⟩),(2,⟨1,m1,(s.holds).map aJ⟩),(3,o3),(4,o4),(5,o5),(6,o6)]) _ _ (.inr rfl) rfl (fU [0,1,2,3,4,5,6] (by omega) (by repeat' (first| ((with_reducible refine C0 ?_);first|exact CB rfl|exact CF)| ((with_reducible refine D0 ?_);refine C9 ?_)|exact C3|refine C4 ?_ ?_|fail)) ⟨⟨by simp,by simp[sgL],_,rfl,aP (by repeat' (first| (with_reducible first|exact C3|refine C4 ?_ ?_)| ((with_reducible refine C0 ?_);exact CQ (by omega) rfl rfl (by rfl) rfl)|refine C4 ?_ ?_|fail))⟩,⟨by simp,by simp[sgL],_,rfl,bP (aG bF _) rfl rfl⟩,⟨by simp,by simp[sgL],_,rfl,bP (aG bF _) rfl rfl⟩,⟨by simp,by simp[sgL],_,rfl,bS hi3⟩,⟨by simp,by simp[sgL],_,rfl,bS hi4⟩,⟨by simp,by simp[sgL],_,rfl,bS hi5⟩,⟨by simp,by simp[sgL],_,rfl,bS hi6⟩,trivial⟩ (by simp[sgL])) ?_)
   exact⟨rfl,rfl,rfl⟩
  have h3': ¬(m.getD (bV m (bE q.addr q.many q.wrap)).toNat default).only=true:=by rw[hall];exact h3
  have h3f:(m.getD (bV m all).toNat default).only=false:=by simpa using h3
  by_cases h4:q.kind=4∧ ¬s.holds.getD (who*2+q.id).toNat default=q.addr
  ·rw[aqU h1' h3' h4.1 h4.2] at hQ
   have h41:=h4.1
   have h42:=h4.2
   simp only[oIm]
   repeat' (first| (with_reducible first| (refine hK _ _ _ ?_;clear hK K)| (refine hA ?_;clear hA hB A B)| (refine hB ?_;clear hA hB A B)|refine Z1 ?_|refine Z3 fun KB hKB=> ?_|refine Z4 (by omega) ?_|refine Z5 (by omega) ?_)| (first| (with_reducible first|refine Y2 fun K hK=> ?_|refine Y3 fun A B hA hB=> ?_|refine Y4 (by omega) ?_)| (with_reducible refine hwo ?_)| (with_reducible refine gH ?_))<;>(simp only[go_sem,h2,h3f];try simp (disch:=omega) only[Iw])| ((with_reducible refine Y8 ?_);try simp only[AQ.then,AQ.blk,reduceIte,Nat.reduceEqDiff])|refine⟨by omega,?_⟩|fail)
   (refine hQ _ _ _ _ _ 7 (dA (tG ⟨q.id,1,[]⟩)) (hp [(0,⟨6,1,[oIm 1 2 3 4 5 6 c0 c1 c2 c3 c4 c5 s]⟩),(1,⟨1,m0,(s.words).map aJ⟩),(2,⟨1,m1,(s.holds).map aJ⟩),(3,o3),(4,o4),(5,o5),(6,o6)]) _ _ (.inr rfl) rfl (fU [0,1,2,3,4,5,6] (by omega) (by repeat' (first| ((with_reducible refine C0 ?_);first|exact CB rfl|exact CF)| ((with_reducible refine D0 ?_);refine C9 ?_)|exact C3|refine C4 ?_ ?_|fail)) ⟨⟨by simp,by simp[sgL],_,rfl,aP (by repeat' (first| (with_reducible first|exact C3|refine C4 ?_ ?_)| ((with_reducible refine C0 ?_);exact CQ (by omega) rfl rfl (by rfl) rfl)|refine C4 ?_ ?_|fail))⟩,⟨by simp,by simp[sgL],_,rfl,bP (aG bF _) rfl rfl⟩,⟨by simp,by simp[sgL],_,rfl,bP (aG bF _) rfl rfl⟩,⟨by simp,by simp[sgL],_,rfl,bS hi3⟩,⟨by simp,by simp[sgL],_,rfl,bS hi4⟩,⟨by simp,by simp[sgL],_,rfl,bS hi5⟩,⟨by simp,by simp[sgL],_,rfl,bS hi6⟩,trivial⟩ (by simp[sgL])) ?_)
   exact⟨rfl,rfl,rfl⟩
  obtain⟨code,hcode⟩: ∃code:Int,code=if q.kind=4 then 2 else 1:=⟨_,rfl⟩
  have hD:doM m s.words s.holds who q=((FV s.words all q.data q.lanes all.length,iU s.holds all),⟨q.id,code,[]⟩):=by
   rcases hwi.1 h2 with hk|hk
   ·rw[ao1 h1' h3' hk,hall,hcode,if_neg (by omega)]
   ·rw[aoE h1' h3' hk (Classical.byContradiction fun hc=>h4 ⟨hk,hc⟩),hall,hcode,if_pos hk]
  rw[hD] at hQ
  simp only[oIm]
  have hk24:=hwi.1 h2
  repeat' (first| (with_reducible first| (refine hK _ _ _ ?_;clear hK K)| (refine hA ?_;clear hA hB A B)| (refine hB ?_;clear hA hB A B)|refine Z1 ?_|refine Z2 ?_|refine Z3 fun KB hKB=> ?_|refine Z4 (by omega) ?_|refine Z5 (by omega) ?_)| (first| (with_reducible first|refine Y2 fun K hK=> ?_|refine Y3 fun A B hA hB=> ?_|refine Y6 (fun h=> ?_) fun h=> ?_)| (with_reducible refine hwo ?_)| (with_reducible refine hbu ?_)| (with_reducible refine gH ?_))<;>(simp only[go_sem,h2,h3f];try simp (disch:=omega) only[Iw])| ((with_reducible refine Y0 ?_);simp only[AQ.then,AQ.blk])|refine⟨by omega,?_⟩| (with_reducible refine hKB _ _ _ ?_)|fail)
  all_goals
   have hcd:(code=2∧q.kind=4)∨(code=1∧ ¬q.kind=4):=by rw[hcode];split<;>simp[*]
   have hl2: ∀n:Int,code=n→D1.v (Value.int IntKind.i64 n)=cI code:=fun n hn=>by rw[hn]
   first|rw[hl2 2 (by omega)]|rw[hl2 1 (by omega)]|fail
   (have hKX:=hKB;clear hKB)
   refine aM.sG 0 (β:=Nat) (fun b k=>en [(109,dI k),(108,dI all.length),(107,dS (all.map aJ)),(12,dS (all.map aJ)),(10,dP 3 16),(8,dP 3 8),(7,dP 7 7),(0,dP 6 0)])
    (fun b k=>hp [(0,⟨6,1,[[.osl 1 1 0 s.words.length c0,.osl 1 2 0 s.holds.length c1,.osl 1 3 0 s.asked.length c2,.osl 5 4 0 s.wait.length c3,.osl 5 5 0 s.done.length c4,.osl 5 6 0 s.told.length c5]]⟩),(1,⟨1,m0,(FV s.words all q.data q.lanes k).map aJ⟩),(2,⟨1,m1,(s.holds).map aJ⟩),(3,o3),(4,o4),(5,o5),(6,o6),(7,⟨7,1,[eB q]⟩),(8,⟨3,1,[[cI 0,cI 0,.osl 0 0 0 0 0]]⟩),(16,⟨3,1,[[cI q.id,cI code,.osl 0 0 0 0 0]]⟩)]) (fun k=>k≤all.length) (fun k=>all.length-k) 0
    (by(refine cR [0,1,2,3,4,5,6,7,8,16] (by omega) (by repeat' (first| (with_reducible first|exact C1|refine C2 ?_ ?_)| ((with_reducible refine C0 ?_);exact CE (by omega) rfl)| ((with_reducible refine D0 ?_);first|exact CA rfl|refine CJ ?_)|fail)) ⟨⟨by simp,by simp[sgL],_,rfl,aP (by repeat' (first| (with_reducible first|exact C3|refine C4 ?_ ?_)| ((with_reducible refine C0 ?_);exact CQ (by omega) rfl rfl (by rfl) rfl)|fail))⟩,⟨by simp,by simp[sgL],_,rfl,bP (aG bF _) rfl rfl⟩,⟨by simp,by simp[sgL],_,rfl,bP (aG bF _) rfl rfl⟩,⟨by simp,by simp[sgL],_,rfl,bS hi3⟩,⟨by simp,by simp[sgL],_,rfl,bS hi4⟩,⟨by simp,by simp[sgL],_,rfl,bS hi5⟩,⟨by simp,by simp[sgL],_,rfl,bS hi6⟩,⟨by simp,by simp[sgL],_,rfl,aP (GW fun x hx=>List.all_eq_true.1 (rL q).2 x hx)⟩,⟨by simp,by simp[sgL],_,rfl,aP (by repeat' (first| (with_reducible first|exact C3|refine C4 ?_ ?_)| ((with_reducible refine C0 ?_);first|exact CB rfl|exact CC)|fail))⟩,⟨by simp,by simp[sgL],_,rfl,aP (by repeat' (first| (with_reducible first|exact C3|refine C4 ?_ ?_)| ((with_reducible refine C0 ?_);first|exact CB rfl|exact CC)|fail))⟩,trivial⟩ (by simp[sgL]))) (by omega) ?_
   intro k hk KL hKL
   have hpl:=AX (w:=s.words) (all:=all) (data:=q.data) (lanes:=q.lanes) k
   have hpw:=afR (all:=all) (lanes:=q.lanes) hwr hq6 k
   by_cases hlt:k<all.length
   ·have hb:=HB hbi hlt
    have hb2:(all.getD k default).toNat<(FV s.words all q.data q.lanes k).length:=by omega
    repeat' (first| (with_reducible first| (refine hK _ _ _ ?_;clear hK K)| (refine hA ?_;clear hA hB A B)|refine Z1 ?_|refine Z2 ?_|refine Z3 fun KB hKB=> ?_|refine Z4 (by omega) ?_)| (first| (with_reducible first|refine Y2 fun K hK=> ?_|refine Y3 fun A B hA hB=> ?_)| (with_reducible refine ae5 (HB hpw hb2) (HB hq6 (by omega)) (HB hq7 (by omega)) ?_))<;>(simp only[go_sem];try simp (disch:=omega) only[Iw])| ((with_reducible refine Y0 ?_);simp only[AQ.then,AQ.blk])|refine⟨by omega,?_⟩| (with_reducible refine hKB _ _ _ ?_)|fail)
    exact hKL _ _ _ (k+1) (by omega) (by(refine cR [0,1,2,3,4,5,6,7,8,16] (by omega) (by repeat' (first| (with_reducible first|exact C1|refine C2 ?_ ?_)| ((with_reducible refine C0 ?_);exact CE (by omega) rfl)| ((with_reducible refine D0 ?_);first|exact CA rfl|refine CJ ?_)|fail)) ⟨⟨by simp,by simp[sgL],_,rfl,aP (by repeat' (first| (with_reducible first|exact C3|refine C4 ?_ ?_)| ((with_reducible refine C0 ?_);exact CQ (by omega) rfl rfl (by rfl) rfl)|fail))⟩,⟨by simp,by simp[sgL],_,rfl,bP (aG bF _) rfl rfl⟩,⟨by simp,by simp[sgL],_,rfl,bP (aG bF _) rfl rfl⟩,⟨by simp,by simp[sgL],_,rfl,bS hi3⟩,⟨by simp,by simp[sgL],_,rfl,bS hi4⟩,⟨by simp,by simp[sgL],_,rfl,bS hi5⟩,⟨by simp,by simp[sgL],_,rfl,bS hi6⟩,⟨by simp,by simp[sgL],_,rfl,aP (GW fun x hx=>List.all_eq_true.1 (rL q).2 x hx)⟩,⟨by simp,by simp[sgL],_,rfl,aP (by repeat' (first| (with_reducible first|exact C3|refine C4 ?_ ?_)| ((with_reducible refine C0 ?_);first|exact CB rfl|exact CC)|fail))⟩,⟨by simp,by simp[sgL],_,rfl,aP (by repeat' (first| (with_reducible first|exact C3|refine C4 ?_ ?_)| ((with_reducible refine C0 ?_);first|exact CB rfl|exact CC)|fail))⟩,trivial⟩ (by simp[sgL]))) (by omega) (by omega)
   ·repeat' (first| (with_reducible first| (refine hK _ _ _ ?_;clear hK K)| (refine hB ?_;clear hA hB A B)|refine Z1 ?_|refine Z3 fun KB hKB=> ?_|refine Z5 (by omega) ?_|refine hKX _ _ _ ?_)| (with_reducible first|refine Y2 fun K hK=> ?_|refine Y3 fun A B hA hB=> ?_)<;>(simp only[go_sem])| ((with_reducible refine Y9 ?_);try simp only[AQ.then,AQ.blk,reduceIte,Nat.reduceEqDiff])|fail)
    have hk2:k=all.length:=by omega
    subst hk2
    (have hKY:=hKB;clear hKB)
    refine aM.sG 0 (β:=Nat) (fun b k=>en [(146,dI k),(145,dI 6),(144,dO 1 2 6 c1),(12,dS (all.map aJ)),(10,dP 3 16),(8,dP 3 8),(0,dP 6 0)])
     (fun b k=>hp [(0,⟨6,1,[[.osl 1 1 0 s.words.length c0,.osl 1 2 0 s.holds.length c1,.osl 1 3 0 s.asked.length c2,.osl 5 4 0 s.wait.length c3,.osl 5 5 0 s.done.length c4,.osl 5 6 0 s.told.length c5]]⟩),(1,⟨1,m0,(FV s.words all q.data q.lanes all.length).map aJ⟩),(2,⟨1,m1,(xI s.holds all k).map aJ⟩),(3,o3),(4,o4),(5,o5),(6,o6),(8,⟨3,1,[[cI 0,cI 0,.osl 0 0 0 0 0]]⟩),(16,⟨3,1,[[cI q.id,cI code,.osl 0 0 0 0 0]]⟩)]) (fun k=>k≤6) (fun k=>6-k) 0
     (by(refine cR [0,1,2,3,4,5,6,8,16] (by omega) (by repeat' (first| (with_reducible first|exact C1|refine C2 ?_ ?_)| ((with_reducible refine C0 ?_);first|exact CQ (by omega) rfl rfl (by first|rfl|omega) rfl|exact CE (by omega) rfl| (exact CG (by(congr 2;omega)) rfl))| ((with_reducible refine D0 ?_);first|exact CA rfl|refine CJ ?_)|fail)) ⟨⟨by simp,by simp[sgL],_,rfl,aP (by repeat' (first| (with_reducible first|exact C3|refine C4 ?_ ?_)| ((with_reducible refine C0 ?_);exact CQ (by omega) rfl rfl (by rfl) rfl)|fail))⟩,⟨by simp,by simp[sgL],_,rfl,bP (aG bF _) rfl rfl⟩,⟨by simp,by simp[sgL],_,rfl,bP (aG bF _) (congrArg _ ac9) rfl⟩,⟨by simp,by simp[sgL],_,rfl,bS hi3⟩,⟨by simp,by simp[sgL],_,rfl,bS hi4⟩,⟨by simp,by simp[sgL],_,rfl,bS hi5⟩,⟨by simp,by simp[sgL],_,rfl,bS hi6⟩,⟨by simp,by simp[sgL],_,rfl,aP (by repeat' (first| (with_reducible first|exact C3|refine C4 ?_ ?_)| ((with_reducible refine C0 ?_);first|exact CB rfl|exact CC)|fail))⟩,⟨by simp,by simp[sgL],_,rfl,aP (by repeat' (first| (with_reducible first|exact C3|refine C4 ?_ ?_)| ((with_reducible refine C0 ?_);first|exact CB rfl|exact CC)|fail))⟩,trivial⟩ (by simp[sgL]))) (by omega) ?_
    intro k hk KM hKM
    have hfl:=aiJ (all:=all) (show k≤s.holds.length by omega)
    by_cases hlt:k<6
    ·have hfa:=akN (all:=all) (show k<s.holds.length by omega)
     have hfs:=fun x=>agQ (all:=all) (x:=x) (show k<s.holds.length by omega)
     have hsm:=acP (all:=all) (show k<s.holds.length by omega)
     repeat' (first| (with_reducible first| (refine hK _ _ _ ?_;clear hK K)| (refine hA ?_;clear hA hB A B)| (refine hB ?_;clear hA hB A B)|refine Z1 ?_|refine Z2 ?_|refine Z3 fun KB hKB=> ?_|refine Z4 (by omega) ?_|refine Z6 (fun h=> ?_) fun h=> ?_)| (first| (with_reducible first|refine Y2 fun K hK=> ?_|refine Y3 fun A B hA hB=> ?_)| (refine x8 (by omega) (aE rfl) ?_))<;>(simp only[go_sem,hfa];try simp (disch:=omega) only[Iw])| ((with_reducible refine Y0 ?_);simp only[AQ.then,AQ.blk])|refine⟨by omega,?_⟩| (with_reducible refine hKB _ _ _ ?_)|fail)
     ·exact hKM _ _ _ (k+1) (by omega) (by(refine cR [0,1,2,3,4,5,6,8,16] (by omega) (by repeat' (first| (with_reducible first|exact C1|refine C2 ?_ ?_)| ((with_reducible refine C0 ?_);first|exact CQ (by omega) rfl rfl (by rfl) rfl|exact CE (by omega) rfl)| ((with_reducible refine D0 ?_);first|exact CA rfl|refine CJ ?_)|fail)) ⟨⟨by simp,by simp[sgL],_,rfl,aP (by repeat' (first| (with_reducible first|exact C3|refine C4 ?_ ?_)| ((with_reducible refine C0 ?_);exact CQ (by omega) rfl rfl (by rfl) rfl)|fail))⟩,⟨by simp,by simp[sgL],_,rfl,bP (aG bF _) rfl rfl⟩,⟨by simp,by simp[sgL],_,rfl,bP (aG bF _) (congrArg _ (hfs (-1) (by rw[if_pos (by assumption)])).symm) rfl⟩,⟨by simp,by simp[sgL],_,rfl,bS hi3⟩,⟨by simp,by simp[sgL],_,rfl,bS hi4⟩,⟨by simp,by simp[sgL],_,rfl,bS hi5⟩,⟨by simp,by simp[sgL],_,rfl,bS hi6⟩,⟨by simp,by simp[sgL],_,rfl,aP (by repeat' (first| (with_reducible first|exact C3|refine C4 ?_ ?_)| ((with_reducible refine C0 ?_);first|exact CB rfl|exact CC)|fail))⟩,⟨by simp,by simp[sgL],_,rfl,aP (by repeat' (first| (with_reducible first|exact C3|refine C4 ?_ ?_)| ((with_reducible refine C0 ?_);first|exact CB rfl|exact CC)|fail))⟩,trivial⟩ (by simp[sgL]))) (by omega) (by omega)
     ·exact hKM _ _ _ (k+1) (by omega) (by(refine cR [0,1,2,3,4,5,6,8,16] (by omega) (by repeat' (first| (with_reducible first|exact C1|refine C2 ?_ ?_)| ((with_reducible refine C0 ?_);first|exact CQ (by omega) rfl rfl (by rfl) rfl|exact CE (by omega) rfl)| ((with_reducible refine D0 ?_);first|exact CA rfl|refine CJ ?_)|fail)) ⟨⟨by simp,by simp[sgL],_,rfl,aP (by repeat' (first| (with_reducible first|exact C3|refine C4 ?_ ?_)| ((with_reducible refine C0 ?_);exact CQ (by omega) rfl rfl (by rfl) rfl)|fail))⟩,⟨by simp,by simp[sgL],_,rfl,bP (aG bF _) rfl rfl⟩,⟨by simp,by simp[sgL],_,rfl,bP (aG bF _) (congrArg _ (hsm.symm.trans (hfs _ (by rw[if_neg (by assumption)]))).symm) rfl⟩,⟨by simp,by simp[sgL],_,rfl,bS hi3⟩,⟨by simp,by simp[sgL],_,rfl,bS hi4⟩,⟨by simp,by simp[sgL],_,rfl,bS hi5⟩,⟨by simp,by simp[sgL],_,rfl,bS hi6⟩,⟨by simp,by simp[sgL],_,rfl,aP (by repeat' (first| (with_reducible first|exact C3|refine C4 ?_ ?_)| ((with_reducible refine C0 ?_);first|exact CB rfl|exact CC)|fail))⟩,⟨by simp,by simp[sgL],_,rfl,aP (by repeat' (first| (with_reducible first|exact C3|refine C4 ?_ ?_)| ((with_reducible refine C0 ?_);first|exact CB rfl|exact CC)|fail))⟩,trivial⟩ (by simp[sgL]))) (by omega) (by omega)
    ·repeat' (first| (with_reducible first| (refine hK _ _ _ ?_;clear hK K)| (refine hB ?_;clear hA hB A B)|refine Z1 ?_|refine Z5 (by omega) ?_|refine hKY _ _ _ ?_)| (with_reducible first|refine Y2 fun K hK=> ?_|refine Y3 fun A B hA hB=> ?_)<;>(simp only[go_sem])| ((with_reducible first|refine Y8 ?_|refine Y9 ?_);try simp only[AQ.then,AQ.blk,reduceIte,Nat.reduceEqDiff])|fail)
     have hk2:k=s.holds.length:=by omega
     subst hk2
     (refine hQ _ _ _ _ _ 7 (dA (tG ⟨q.id,code,[]⟩)) (hp [(0,⟨6,1,[oIm 1 2 3 4 5 6 c0 c1 c2 c3 c4 c5 s]⟩),(1,⟨1,m0,(FV s.words all q.data q.lanes all.length).map aJ⟩),(2,⟨1,m1,(iU s.holds all).map aJ⟩),(3,o3),(4,o4),(5,o5),(6,o6)]) _ _ (.inr rfl) rfl (fU [0,1,2,3,4,5,6] (by omega) (by repeat' (first| ((with_reducible refine C0 ?_);first|exact CB rfl|exact CF)| ((with_reducible refine D0 ?_);refine C9 ?_)|exact C3|refine C4 ?_ ?_|fail)) ⟨⟨by simp,by simp[sgL],_,rfl,aP (by repeat' (first| (with_reducible first|exact C3|refine C4 ?_ ?_)| ((with_reducible refine C0 ?_);exact CQ (by omega) rfl rfl (by rfl) rfl)|refine C4 ?_ ?_|fail))⟩,⟨by simp,by simp[sgL],_,rfl,bP (aG bF _) rfl rfl⟩,⟨by simp,by simp[sgL],_,rfl,bP (aG bF _) (congrArg _ ahC.symm) rfl⟩,⟨by simp,by simp[sgL],_,rfl,bS hi3⟩,⟨by simp,by simp[sgL],_,rfl,bS hi4⟩,⟨by simp,by simp[sgL],_,rfl,bS hi5⟩,⟨by simp,by simp[sgL],_,rfl,bS hi6⟩,trivial⟩ (by simp[sgL])) ?_)
     exact⟨rfl,rfl,rfl⟩
 have h2f:wrM q=false:=by simpa using h2
 have hk13:q.kind=1∨q.kind=3:=by have h3: ¬(q.kind=2∨q.kind=4):=fun h=>h2 (hwi.2 h);omega
 simp only[oIm]
 repeat' (first| (with_reducible first| (refine hK _ _ _ ?_;clear hK K)| (refine hA ?_;clear hA hB A B)| (refine hB ?_;clear hA hB A B)|refine Z1 ?_|refine Z2 ?_|refine Z3 fun KB hKB=> ?_|refine Z5 (by omega) ?_)| (first| (with_reducible first|refine Y2 fun K hK=> ?_|refine Y3 fun A B hA hB=> ?_|refine Y5 (by omega) ?_)| (with_reducible refine hwo ?_)| (with_reducible refine hbu ?_)| (with_reducible refine gH ?_))<;>(simp only[go_sem,h2f];try simp (disch:=omega) only[Iw])| ((with_reducible refine Y0 ?_);simp only[AQ.then,AQ.blk])|refine⟨by omega,?_⟩| (with_reducible refine hKB _ _ _ ?_)|fail)
 (have hKX:=hKB;clear hKB)
 refine aM.sG 0 (β:=Nat) (fun b k=>en [(76,dI k),(75,dI all.length),(74,dS (all.map aJ)),(11,.one (.c (.ptr 1 2 (who*2+q.id).toNat 0))),(10,dP 3 16),(8,dP 3 8),(7,dP 7 7),(0,dP 6 0)])
  (fun b k=>hp [(0,⟨6,1,[[.osl 1 1 0 s.words.length c0,.osl 1 2 0 s.holds.length c1,.osl 1 3 0 s.asked.length c2,.osl 5 4 0 s.wait.length c3,.osl 5 5 0 s.done.length c4,.osl 5 6 0 s.told.length c5]]⟩),(1,⟨1,m0,(s.words).map aJ⟩),(2,⟨1,m1,(s.holds).map aJ⟩),(3,o3),(4,o4),(5,o5),(6,o6),(7,⟨7,1,[eB q]⟩),(8,⟨3,1,[[cI 0,cI 0,.osl 0 0 0 0 0]]⟩),(16,⟨3,1,[[cI q.id,cI 1,.osl 1 62 0 all.length all.length]]⟩),(62,⟨1,all.length,((List.range k).map (fun k=>s.words.getD (all.getD k default).toNat default)++List.replicate (all.length-k) (0:Int)).map aJ⟩)])
  (fun k=>k≤all.length) (fun k=>all.length-k) 0
  (by(refine cR [0,1,2,3,4,5,6,7,8,16,62] (by omega) (by repeat' (first| (with_reducible first|exact C1|refine C2 ?_ ?_)| ((with_reducible refine C0 ?_);exact CE (by omega) rfl)| ((with_reducible refine D0 ?_);first|exact CA rfl|refine CJ ?_)|fail)) ⟨⟨by simp,by simp[sgL],_,rfl,aP (by repeat' (first| (with_reducible first|exact C3|refine C4 ?_ ?_)| ((with_reducible refine C0 ?_);exact CQ (by omega) rfl rfl (by rfl) rfl)|fail))⟩,⟨by simp,by simp[sgL],_,rfl,bP (aG bF _) rfl rfl⟩,⟨by simp,by simp[sgL],_,rfl,bP (aG bF _) rfl rfl⟩,⟨by simp,by simp[sgL],_,rfl,bS hi3⟩,⟨by simp,by simp[sgL],_,rfl,bS hi4⟩,⟨by simp,by simp[sgL],_,rfl,bS hi5⟩,⟨by simp,by simp[sgL],_,rfl,bS hi6⟩,⟨by simp,by simp[sgL],_,rfl,aP (GW fun x hx=>List.all_eq_true.1 (rL q).2 x hx)⟩,⟨by simp,by simp[sgL],_,rfl,aP (by repeat' (first| (with_reducible first|exact C3|refine C4 ?_ ?_)| ((with_reducible refine C0 ?_);first|exact CB rfl|exact CC)|fail))⟩,⟨by simp,by simp[sgL],_,rfl,aP (by repeat' (first| (with_reducible first|exact C3|refine C4 ?_ ?_)| ((with_reducible refine C0 ?_);first|exact CB rfl|exact CQ (by omega) rfl rfl (by rfl) rfl)|fail))⟩,⟨by simp,by simp[sgL],_,rfl,bP (aG bF _) (by simp[aJ]) rfl⟩,trivial⟩ (by simp[sgL]))) (by omega) ?_
 intro k hk KL hKL
 have hdlen:((List.range k).map (fun k=>s.words.getD (all.getD k default).toNat default)++List.replicate (all.length-k) (0:Int)).length=all.length:=by simp;omega
 by_cases hlt:k<all.length
 ·have hb:=HB hbi hlt
  have hbs:=fun x=>XT (f:=fun k=>s.words.getD (all.getD k default).toNat default) (x:=x) hlt
  repeat' (first| (with_reducible first| (refine hK _ _ _ ?_;clear hK K)| (refine hA ?_;clear hA hB A B)|refine Z1 ?_|refine Z2 ?_|refine Z3 fun KB hKB=> ?_|refine Z4 (by omega) ?_)| (with_reducible first|refine Y2 fun K hK=> ?_|refine Y3 fun A B hA hB=> ?_)<;>(simp only[go_sem,hdlen];try simp (disch:=omega) only[Iw])| ((with_reducible refine Y0 ?_);simp only[AQ.then,AQ.blk])|refine⟨by omega,?_⟩| (with_reducible refine hKB _ _ _ ?_)|fail)
  exact hKL _ _ _ (k+1) (by omega) (by(refine cR [0,1,2,3,4,5,6,7,8,16,62] (by omega) (by repeat' (first| (with_reducible first|exact C1|refine C2 ?_ ?_)| ((with_reducible refine C0 ?_);exact CE (by omega) rfl)| ((with_reducible refine D0 ?_);first|exact CA rfl|refine CJ ?_)|fail)) ⟨⟨by simp,by simp[sgL],_,rfl,aP (by repeat' (first| (with_reducible first|exact C3|refine C4 ?_ ?_)| ((with_reducible refine C0 ?_);exact CQ (by omega) rfl rfl (by rfl) rfl)|fail))⟩,⟨by simp,by simp[sgL],_,rfl,bP (aG bF _) rfl rfl⟩,⟨by simp,by simp[sgL],_,rfl,bP (aG bF _) rfl rfl⟩,⟨by simp,by simp[sgL],_,rfl,bS hi3⟩,⟨by simp,by simp[sgL],_,rfl,bS hi4⟩,⟨by simp,by simp[sgL],_,rfl,bS hi5⟩,⟨by simp,by simp[sgL],_,rfl,bS hi6⟩,⟨by simp,by simp[sgL],_,rfl,aP (GW fun x hx=>List.all_eq_true.1 (rL q).2 x hx)⟩,⟨by simp,by simp[sgL],_,rfl,aP (by repeat' (first| (with_reducible first|exact C3|refine C4 ?_ ?_)| ((with_reducible refine C0 ?_);first|exact CB rfl|exact CC)|fail))⟩,⟨by simp,by simp[sgL],_,rfl,aP (by repeat' (first| (with_reducible first|exact C3|refine C4 ?_ ?_)| ((with_reducible refine C0 ?_);first|exact CB rfl|exact CQ (by omega) rfl rfl (by rfl) rfl)|fail))⟩,⟨by simp,by simp[sgL],_,rfl,bP (aG bF _) (congrArg _ (hbs _ rfl).symm) rfl⟩,trivial⟩ (by simp[sgL]))) (by omega) (by omega)
 ·have hk2:k=all.length:=by omega
  subst hk2
  repeat' (first| (with_reducible first| (refine hK _ _ _ ?_;clear hK K)| (refine hA ?_;clear hA hB A B)| (refine hB ?_;clear hA hB A B)|refine Z1 ?_|refine Z2 ?_|refine Z5 (by omega) ?_|refine Z6 (fun h=> ?_) fun h=> ?_|refine hKX _ _ _ ?_)| (with_reducible first|refine Y2 fun K hK=> ?_|refine Y3 fun A B hA hB=> ?_)<;>(simp only[go_sem,hdlen])| ((with_reducible first|refine Y8 ?_|refine Y9 ?_);try simp only[AQ.then,AQ.blk,reduceIte,Nat.reduceEqDiff])|refine⟨by omega,?_⟩|fail)
  ·have hrd:(List.range all.length).map (fun k=>s.words.getD (all.getD k default).toNat default)++List.replicate (all.length-all.length) (0:Int)=all.map fun a=>s.words.getD a.toNat default:=by rw[aqI];simp
   rw[hrd]
   rw[amK h1' (by assumption),hall] at hQ
   (refine hQ _ _ _ _ _ 7 (dA (tG ⟨q.id,2,all.map fun a=>s.words.getD a.toNat default⟩)) (hp [(0,⟨6,1,[oIm 1 2 3 4 5 6 c0 c1 c2 c3 c4 c5 s]⟩),(1,⟨1,m0,(s.words).map aJ⟩),(2,⟨1,m1,(s.holds.set (who*2+q.id).toNat q.addr).map aJ⟩),(3,o3),(4,o4),(5,o5),(6,o6)]) _ _ (.inr rfl) rfl (fU [0,1,2,3,4,5,6] (by omega) (aH (bB rfl) (aH (bB rfl) (aH (bW (l:=all.map fun a=>s.words.getD a.toNat default) bF rfl (by simp) (by simp) (by simp)) eP))) ⟨⟨by simp,by simp[sgL],_,rfl,aP (by repeat' (first| (with_reducible first|exact C3|refine C4 ?_ ?_)| ((with_reducible refine C0 ?_);exact CQ (by omega) rfl rfl (by rfl) rfl)|refine C4 ?_ ?_|fail))⟩,⟨by simp,by simp[sgL],_,rfl,bP (aG bF _) rfl rfl⟩,⟨by simp,by simp[sgL],_,rfl,bP (aG bF _) rfl rfl⟩,⟨by simp,by simp[sgL],_,rfl,bS hi3⟩,⟨by simp,by simp[sgL],_,rfl,bS hi4⟩,⟨by simp,by simp[sgL],_,rfl,bS hi5⟩,⟨by simp,by simp[sgL],_,rfl,bS hi6⟩,trivial⟩ (by simp[sgL])) ?_)
   exact⟨rfl,rfl,rfl⟩
  ·have hrd:(List.range all.length).map (fun k=>s.words.getD (all.getD k default).toNat default)++List.replicate (all.length-all.length) (0:Int)=all.map fun a=>s.words.getD a.toNat default:=by rw[aqI];simp
   rw[hrd]
   rw[akI h1' (by omega),hall] at hQ
   (refine hQ _ _ _ _ _ 7 (dA (tG ⟨q.id,1,all.map fun a=>s.words.getD a.toNat default⟩)) (hp [(0,⟨6,1,[oIm 1 2 3 4 5 6 c0 c1 c2 c3 c4 c5 s]⟩),(1,⟨1,m0,(s.words).map aJ⟩),(2,⟨1,m1,(s.holds).map aJ⟩),(3,o3),(4,o4),(5,o5),(6,o6)]) _ _ (.inr rfl) rfl (fU [0,1,2,3,4,5,6] (by omega) (aH (bB rfl) (aH (bB rfl) (aH (bW (l:=all.map fun a=>s.words.getD a.toNat default) bF rfl (by simp) (by simp) (by simp)) eP))) ⟨⟨by simp,by simp[sgL],_,rfl,aP (by repeat' (first| (with_reducible first|exact C3|refine C4 ?_ ?_)| ((with_reducible refine C0 ?_);exact CQ (by omega) rfl rfl (by rfl) rfl)|refine C4 ?_ ?_|fail))⟩,⟨by simp,by simp[sgL],_,rfl,bP (aG bF _) rfl rfl⟩,⟨by simp,by simp[sgL],_,rfl,bP (aG bF _) rfl rfl⟩,⟨by simp,by simp[sgL],_,rfl,bS hi3⟩,⟨by simp,by simp[sgL],_,rfl,bS hi4⟩,⟨by simp,by simp[sgL],_,rfl,bS hi5⟩,⟨by simp,by simp[sgL],_,rfl,bS hi6⟩,trivial⟩ (by simp[sgL])) ?_)
   exact⟨rfl,rfl,rfl⟩
end
end Go.Proofs.YtegiblhkjfiooaaGreat
end
section
namespace Go.Proofs.YtegiblhkjfiooaaGreat
open Go Go.AM
set_option maxRecDepth 100000
set_option maxHeartbeats 8000000
section
variable {H : aA} {nx : Nat} {K : D → aA → Nat → Prop}
theorem aw4 {m:List Rng} {s:TSt} {who:Int} {q:Req} {c0 c1 c2 c3 c4 c5 m0 m1 i0 i1 i2 i3 i4 i5 az6:Nat} {o3 o4 o5 o6:bA} (hm4:m.length<2^20) (hf:WK s.words s.holds) (hc0:s.words.length≤c0) (hc1:s.holds.length≤c1) (hw:0≤who∧who≤2) (hq:dH q) (hi3:C7 o3) (hi4:C7 o4) (hi5:C7 o5) (hi6:C7 o6)
 (hlt:i0<nx∧i1<nx∧i2<nx∧i3<nx∧i4<nx∧i5<nx∧az6<nx) (hd:[i0,i1,i2,i3,i4,i5,az6].Nodup) (h0:H i0=some ⟨6,1,[oIm i1 i2 i3 i4 i5 az6 c0 c1 c2 c3 c4 c5 s]⟩) (h1:H i1=some ⟨1,m0,s.words.map aJ⟩) (h2:H i2=some ⟨1,m1,s.holds.map aJ⟩) (h3:H i3=some o3) (h4:H i4=some o4) (h5:H i5=some o5) (h6:H az6=some o6)
 (h:K (dA (tG (doM m s.words s.holds who q).2)) (((((((H.set i0 ⟨6,1,[oIm i1 i2 i3 i4 i5 az6 c0 c1 c2 c3 c4 c5 s]⟩).set i1 ⟨1,m0,(doM m s.words s.holds who q).1.1.map aJ⟩).set i2 ⟨1,m1,(doM m s.words s.holds who q).1.2.map aJ⟩).set i3 o3).set i4 o4).set i5 o5).set az6 o6) nx):aB Tryz.prog pL [dP 6 i0,dS (m.map eN),dI who,dA (eB q)] H nx K:=by
 refine(aw7 m s who q c0 c1 c2 c3 c4 c5 m0 m1 o3 o4 o5 o6 hm4 hf hc0 hc1 hw hq hi3 hi4 hi5 hi6).AF [i0,i1,i2,i3,i4,i5,az6] rfl ⟨DG (by simp) rfl,aE rfl,aE rfl,aE rfl,trivial⟩ ?_ ?_ ?_ hd fun r H' n' _ ⟨q1,q2,q3⟩=> ?_
 ·refine⟨⟨by simp,id,_,h0,aP ?_⟩,⟨by simp,id,_,h1,bP (aG bF _) rfl rfl⟩,⟨by simp,id,_,h2,bP (aG bF _) rfl rfl⟩,⟨by simp,id,_,h3,bS hi3⟩,⟨by simp,id,_,h4,bS hi4⟩,⟨by simp,id,_,h5,bS hi5⟩,⟨by simp,id,_,h6,bS hi6⟩,trivial⟩
  unfold oIm
  exact aH (aaF (by simp) rfl rfl rfl rfl) (aH (aaF (by simp) rfl rfl rfl rfl) (aH (aaF (by simp) rfl rfl rfl rfl) (aH (aaF (by simp) rfl rfl rfl rfl) (aH (aaF (by simp) rfl rfl rfl rfl) (aH (aaF (by simp) rfl rfl rfl rfl) eP)))))
 ·exact hd
 ·intro x hx;simp only[List.mem_cons,List.not_mem_nil,or_false] at hx;omega
 ·subst q1;subst q2;subst q3
  generalize (doM m s.words s.holds who q)=dm at*
  obtain⟨⟨w',h'⟩,r'⟩:=dm
  have e0:bA.rn (tau 7 nx (nth [i0,i1,i2,i3,i4,i5,az6])) ⟨6,1,[oIm 1 2 3 4 5 6 c0 c1 c2 c3 c4 c5 s]⟩=⟨6,1,[oIm i1 i2 i3 i4 i5 az6 c0 c1 c2 c3 c4 c5 s]⟩:=rfl
  have e1:back (tau 7 nx (nth [i0,i1,i2,i3,i4,i5,az6])) (hp [(0,⟨6,1,[oIm 1 2 3 4 5 6 c0 c1 c2 c3 c4 c5 s]⟩),(1,⟨1,m0,w'.map aJ⟩),(2,⟨1,m1,h'.map aJ⟩),(3,o3),(4,o4),(5,o5),(6,o6)]) 7 H=(((((((H.set i0 ⟨6,1,[oIm i1 i2 i3 i4 i5 az6 c0 c1 c2 c3 c4 c5 s]⟩).set i1 ⟨1,m0,w'.map aJ⟩).set i2 ⟨1,m1,h'.map aJ⟩).set i3 o3).set i4 o4).set i5 o5).set az6 o6):=by
   simp only[back,hp,aA.set,Option.map_some,e0,uB,rF hi3,rF hi4,rF hi5,rF hi6,aA.eL,if_true,Nat.reduceEqDiff,if_false,reduceIte]
   rfl
  rw[←e1] at h
  exact h
theorem awS (c:Cfg) (s:TSt) (e:Ev) (c0 c1 c2 c3 c4 c5 m0 m1 m2 m3 m4 m5:Nat) (hb:aQ c) (hs:BA c s) (hwhy:X6 c s e=0) (hc:s.words.length≤c0∧s.holds.length≤c1∧s.asked.length≤c2∧s.wait.length≤c3∧s.done.length≤c4∧s.told.length≤c5) (hm:c3≤m3∧c4≤m4∧c5≤m5):
 aB Tryz.prog auD [dA (cU c),dP 6 0,dA (eEv e)] (hp [(0,⟨6,1,[oIm 1 2 3 4 5 6 c0 c1 c2 c3 c4 c5 s]⟩),(1,⟨1,m0,s.words.map aJ⟩),(2,⟨1,m1,s.holds.map aJ⟩),(3,⟨1,m2,s.asked.map aJ⟩),(4,⟨5,m3,s.wait.map aS⟩),(5,⟨5,m4,s.done.map aS⟩),(6,⟨5,m5,s.told.map aS⟩)]) 7
 fun r H' n'=>∃c3' c4' c5' m3' m4' m5',((lS c s e).wait.length≤c3'∧(lS c s e).done.length≤c4'∧(lS c s e).told.length≤c5')∧(c3'≤m3'∧c4'≤m4'∧c5'≤m5')∧n'=10∧
  H'=hp [(0,⟨6,1,[oIm 1 2 3 7 8 9 c0 c1 c2 c3' c4' c5' (lS c s e)]⟩),(1,⟨1,m0,(lS c s e).words.map aJ⟩),(2,⟨1,m1,(lS c s e).holds.map aJ⟩),(3,⟨1,m2,(lS c s e).asked.map aJ⟩),(7,⟨5,m3',(lS c s e).wait.map aS⟩),(8,⟨5,m4',(lS c s e).done.map aS⟩),(9,⟨5,m5',(lS c s e).told.map aS⟩)]∧r= .tup []:=by
 have hl:=hs.lens hb
 have hf:=hs.fit hb
 obtain⟨hp3,hp12⟩:=hC hb
 have hwl:=hs.atm.wl
 have hhl:=hs.atm.hl
 have hal:=hs.JI
 have hmap:=hb.1.1
 have hb12:=hp12 e.who.toNat
 obtain⟨hcw,hch,hca,hct,hcd,hcl⟩:=hc
 obtain⟨hmt,hmd,hml⟩:=hm
 obtain⟨hok,hcase⟩:=M8 hwhy
 have hrq:=GK hb hok
 obtain⟨ho1,ho2⟩:=hok
 have hnd:=ab0 hs.nodup
 have har:=hs.DC e.who.toNat (by omega)
 refine awG rfl fun Q hQ=> ?_
 unfold auM
 simp only[oIm]
 rcases hcase with⟨hk,hi⟩|⟨hk,hi⟩|⟨hk,hi⟩
 ·have hnot:(e.who,e.n)∉s.wait.map key:=fun hm=>by
   have:=(hs.ab8 (e.who,e.n) (by simp only[keys,List.map_append];exact List.mem_append_left _ (List.mem_append_left _ hm))).2.2
   dsimp only at this;omega
  repeat' (first| (with_reducible first| (refine hK _ _ _ ?_;clear hK K)| (refine hA ?_;clear hA hB A B)|refine Z1 ?_|refine Z3 fun KB hKB=> ?_|refine Z4 (by omega) ?_)| (first| (with_reducible first|refine Y2 fun K hK=> ?_|refine Y3 fun A B hA hB=> ?_)| (refine ax1 (by omega) hs.NR hnot hct hmt (by omega) rfl (fun cap' m' q1 q2=> ?_)))<;>(simp only[go_sem];try simp (disch:=omega) only[Iw])| ((with_reducible refine Y0 ?_);simp only[AQ.then,AQ.blk])|refine⟨by omega,?_⟩| (with_reducible refine hKB _ _ _ ?_)|fail)
  have hnx:lS c s e=({s with asked:=s.asked.set e.who.toNat (e.n+1),wait:=BM s.wait ⟨e.who,e.n,oW⟩}:TSt):=by simp only[lS];rw[if_pos (by assumption)]
  have hst:s.asked.getD e.who.toNat default+1=e.n+1:=by omega
  rw[hst]
  rw[hnx] at hQ
  refine aM.nil ?_
  (refine hQ _ _ _ _ _ 10 (.tup []) (hp [(0,⟨6,1,[oIm 1 2 3 7 8 9 c0 c1 c2 cap' c4 c5 ({s with asked:=s.asked.set e.who.toNat (e.n+1),wait:=BM s.wait ⟨e.who,e.n,oW⟩}:TSt)]⟩),(1,⟨1,m0,({s with asked:=s.asked.set e.who.toNat (e.n+1),wait:=BM s.wait ⟨e.who,e.n,oW⟩}:TSt).words.map aJ⟩),(2,⟨1,m1,({s with asked:=s.asked.set e.who.toNat (e.n+1),wait:=BM s.wait ⟨e.who,e.n,oW⟩}:TSt).holds.map aJ⟩),(3,⟨1,m2,({s with asked:=s.asked.set e.who.toNat (e.n+1),wait:=BM s.wait ⟨e.who,e.n,oW⟩}:TSt).asked.map aJ⟩),(7,⟨5,m',({s with asked:=s.asked.set e.who.toNat (e.n+1),wait:=BM s.wait ⟨e.who,e.n,oW⟩}:TSt).wait.map aS⟩),(8,⟨5,m4,({s with asked:=s.asked.set e.who.toNat (e.n+1),wait:=BM s.wait ⟨e.who,e.n,oW⟩}:TSt).done.map aS⟩),(9,⟨5,m5,({s with asked:=s.asked.set e.who.toNat (e.n+1),wait:=BM s.wait ⟨e.who,e.n,oW⟩}:TSt).told.map aS⟩)]) _ _ (.inl rfl) rfl (fU [38,5,6,0,1,2,3] (by omega) (by repeat' ((with_reducible refine D0 ?_);exact CA rfl)) ⟨⟨by simp,by simp[sgL],_,rfl,aP (by unfold oIm;repeat' (first| (with_reducible first|exact C3|refine C4 ?_ ?_)| ((with_reducible refine C0 ?_);(exact CQ (by omega) rfl rfl (by first|rfl| (simp;done)) rfl))|fail))⟩,⟨by simp,by simp[sgL],_,rfl,bP (aG bF _) rfl rfl⟩,⟨by simp,by simp[sgL],_,rfl,bP (aG bF _) rfl rfl⟩,⟨by simp,by simp[sgL],_,rfl,bP (aG bF _) rfl rfl⟩,⟨by simp,by simp[sgL],_,rfl,bP (aG dZ _) rfl rfl⟩,⟨by simp,by simp[sgL],_,rfl,bP (aG dZ _) rfl rfl⟩,⟨by simp,by simp[sgL],_,rfl,bP (aG dZ _) rfl rfl⟩,trivial⟩ (by simp[sgL])) ?_)
  exact⟨cap',c4,c5,m',m4,m5,⟨q1,hcd,hcl⟩,⟨q2,hmd,hml⟩,rfl,rfl,rfl⟩
 ·have hkey:=pW hi
  have hnot:(e.who,e.n)∉s.done.map key:=hnd _ (List.mem_map.2 ⟨_,cC hkey.1,hkey.2⟩)
  repeat' (first| (with_reducible first| (refine hK _ _ _ ?_;clear hK K)| (refine hA ?_;clear hA hB A B)| (refine hB ?_;clear hA hB A B)|refine Z1 ?_|refine Z3 fun KB hKB=> ?_|refine Z4 (by omega) ?_|refine Z5 (by omega) ?_)| (first| (with_reducible first|refine Y2 fun K hK=> ?_|refine Y3 fun A B hA hB=> ?_)| (refine avT (l:=s.wait) (by omega) (yP dZ rfl rfl hct trivial) ?_)| (refine auH (by omega) hi hkey.1 hct hmt (by omega) rfl (fun cap1 m1' q1 q2=> ?_))| (refine aw4 (s:=({s with wait:=MT s.wait (bK (iM e.who e.n) s.wait).toNat}:TSt)) (c0:=c0) (c1:=c1) (c2:=c2) (c3:=cap1) (c4:=c4) (c5:=c5) (m:=c.map) (q:=bT c e.who e.n) (by omega) hs.atm hcw hch ho1 hrq (oB bF _) (oB dZ _) (oB dZ _) (oB dZ _) (by omega) (by simp) rfl rfl rfl rfl rfl rfl rfl ?_)| (refine ax7 (by omega) hs.NW hnot hcd hmd (by omega) rfl (fun cap' m' q3 q4=> ?_)))<;>(simp only[go_sem,oIm];try simp (disch:=omega) only[Iw])| ((with_reducible refine Y0 ?_);simp only[AQ.then,AQ.blk])|refine⟨by omega,?_⟩| (with_reducible refine hKB _ _ _ ?_)|fail)
  have hnx:lS c s e=({s with words:=(doM c.map s.words s.holds e.who (bT c e.who e.n)).1.1,holds:=(doM c.map s.words s.holds e.who (bT c e.who e.n)).1.2,wait:=MT s.wait (bK (iM e.who e.n) s.wait).toNat,done:=BM s.done ⟨e.who,e.n,(doM c.map s.words s.holds e.who (bT c e.who e.n)).2⟩}:TSt):=by simp only[lS];rw[if_neg (by omega),if_pos (by assumption)]
  have hwl2:=(ao7 (m:=c.map) (who:=e.who) hs.atm hrq).wl
  have hhl2:=(ao7 (m:=c.map) (who:=e.who) hs.atm hrq).hl
  rw[hnx] at hQ
  refine aM.nil ?_
  (refine hQ _ _ _ _ _ 10 (.tup []) (hp [(0,⟨6,1,[oIm 1 2 3 7 8 9 c0 c1 c2 cap1 cap' c5 ({s with words:=(doM c.map s.words s.holds e.who (bT c e.who e.n)).1.1,holds:=(doM c.map s.words s.holds e.who (bT c e.who e.n)).1.2,wait:=MT s.wait (bK (iM e.who e.n) s.wait).toNat,done:=BM s.done ⟨e.who,e.n,(doM c.map s.words s.holds e.who (bT c e.who e.n)).2⟩}:TSt)]⟩),(1,⟨1,m0,({s with words:=(doM c.map s.words s.holds e.who (bT c e.who e.n)).1.1,holds:=(doM c.map s.words s.holds e.who (bT c e.who e.n)).1.2,wait:=MT s.wait (bK (iM e.who e.n) s.wait).toNat,done:=BM s.done ⟨e.who,e.n,(doM c.map s.words s.holds e.who (bT c e.who e.n)).2⟩}:TSt).words.map aJ⟩),(2,⟨1,m1,({s with words:=(doM c.map s.words s.holds e.who (bT c e.who e.n)).1.1,holds:=(doM c.map s.words s.holds e.who (bT c e.who e.n)).1.2,wait:=MT s.wait (bK (iM e.who e.n) s.wait).toNat,done:=BM s.done ⟨e.who,e.n,(doM c.map s.words s.holds e.who (bT c e.who e.n)).2⟩}:TSt).holds.map aJ⟩),(3,⟨1,m2,({s with words:=(doM c.map s.words s.holds e.who (bT c e.who e.n)).1.1,holds:=(doM c.map s.words s.holds e.who (bT c e.who e.n)).1.2,wait:=MT s.wait (bK (iM e.who e.n) s.wait).toNat,done:=BM s.done ⟨e.who,e.n,(doM c.map s.words s.holds e.who (bT c e.who e.n)).2⟩}:TSt).asked.map aJ⟩),(7,⟨5,m1',({s with words:=(doM c.map s.words s.holds e.who (bT c e.who e.n)).1.1,holds:=(doM c.map s.words s.holds e.who (bT c e.who e.n)).1.2,wait:=MT s.wait (bK (iM e.who e.n) s.wait).toNat,done:=BM s.done ⟨e.who,e.n,(doM c.map s.words s.holds e.who (bT c e.who e.n)).2⟩}:TSt).wait.map aS⟩),(8,⟨5,m',({s with words:=(doM c.map s.words s.holds e.who (bT c e.who e.n)).1.1,holds:=(doM c.map s.words s.holds e.who (bT c e.who e.n)).1.2,wait:=MT s.wait (bK (iM e.who e.n) s.wait).toNat,done:=BM s.done ⟨e.who,e.n,(doM c.map s.words s.holds e.who (bT c e.who e.n)).2⟩}:TSt).done.map aS⟩),(9,⟨5,m5,({s with words:=(doM c.map s.words s.holds e.who (bT c e.who e.n)).1.1,holds:=(doM c.map s.words s.holds e.who (bT c e.who e.n)).1.2,wait:=MT s.wait (bK (iM e.who e.n) s.wait).toNat,done:=BM s.done ⟨e.who,e.n,(doM c.map s.words s.holds e.who (bT c e.who e.n)).2⟩}:TSt).told.map aS⟩)]) _ _ (.inl rfl) rfl (fU [37,70,6,0,1,2,3] (by omega) (by repeat' ((with_reducible refine D0 ?_);exact CA rfl)) ⟨⟨by simp,by simp[sgL],_,rfl,aP (by unfold oIm;repeat' (first| (with_reducible first|exact C3|refine C4 ?_ ?_)| ((with_reducible refine C0 ?_);(exact CQ (by omega) rfl rfl (by first|rfl| (dsimp only;omega)) rfl))|fail))⟩,⟨by simp,by simp[sgL],_,rfl,bP (aG bF _) rfl rfl⟩,⟨by simp,by simp[sgL],_,rfl,bP (aG bF _) rfl rfl⟩,⟨by simp,by simp[sgL],_,rfl,bP (aG bF _) rfl rfl⟩,⟨by simp,by simp[sgL],_,rfl,bP (aG dZ _) rfl rfl⟩,⟨by simp,by simp[sgL],_,rfl,bP (aG dZ _) rfl rfl⟩,⟨by simp,by simp[sgL],_,rfl,bP (aG dZ _) rfl rfl⟩,trivial⟩ (by simp[sgL])) ?_)
  exact⟨cap1,cap',c5,m1',m',m5,⟨q1,q3,hcl⟩,⟨q2,q4,hml⟩,rfl,rfl,rfl⟩
 ·have hkey:=pW hi
  repeat' (first| (with_reducible first| (refine hK _ _ _ ?_;clear hK K)| (refine hA ?_;clear hA hB A B)| (refine hB ?_;clear hA hB A B)|refine Z1 ?_|refine Z3 fun KB hKB=> ?_|refine Z4 (by omega) ?_|refine Z5 (by omega) ?_|refine fun(cap:Nat) (hcap:_≤cap)=> ?_|refine fun(hcp:_≤cap)=> ?_)| (first| (with_reducible first|refine Y2 fun K hK=> ?_|refine Y3 fun A B hA hB=> ?_)| (refine avT (l:=s.done) (by omega) (yP dZ rfl rfl hcd trivial) ?_)| (refine auH (by omega) hi hkey.1 hcd hmd (by omega) rfl (fun cap1 m1' q1 q2=> ?_)))<;>(simp only[go_sem];try simp (disch:=omega) only[Iw])| ((with_reducible refine Y0 ?_);simp only[AQ.then,AQ.blk])|refine⟨by omega,?_⟩| (with_reducible refine hKB _ _ _ ?_)|fail)
  have hnx:lS c s e=({s with told:=s.told++[s.done.getD (bK (iM e.who e.n) s.done).toNat default],done:=MT s.done (bK (iM e.who e.n) s.done).toNat}:TSt):=by simp only[lS];rw[if_neg (by omega),if_neg (by omega)]
  rw[hnx] at hQ
  refine aM.nil ?_
  (refine hQ _ _ _ _ _ 10 (.tup []) (hp [(0,⟨6,1,[oIm 1 2 3 7 8 9 c0 c1 c2 c3 cap1 cap ({s with told:=s.told++[s.done.getD (bK (iM e.who e.n) s.done).toNat default],done:=MT s.done (bK (iM e.who e.n) s.done).toNat}:TSt)]⟩),(1,⟨1,m0,({s with told:=s.told++[s.done.getD (bK (iM e.who e.n) s.done).toNat default],done:=MT s.done (bK (iM e.who e.n) s.done).toNat}:TSt).words.map aJ⟩),(2,⟨1,m1,({s with told:=s.told++[s.done.getD (bK (iM e.who e.n) s.done).toNat default],done:=MT s.done (bK (iM e.who e.n) s.done).toNat}:TSt).holds.map aJ⟩),(3,⟨1,m2,({s with told:=s.told++[s.done.getD (bK (iM e.who e.n) s.done).toNat default],done:=MT s.done (bK (iM e.who e.n) s.done).toNat}:TSt).asked.map aJ⟩),(7,⟨5,m3,({s with told:=s.told++[s.done.getD (bK (iM e.who e.n) s.done).toNat default],done:=MT s.done (bK (iM e.who e.n) s.done).toNat}:TSt).wait.map aS⟩),(8,⟨5,m1',({s with told:=s.told++[s.done.getD (bK (iM e.who e.n) s.done).toNat default],done:=MT s.done (bK (iM e.who e.n) s.done).toNat}:TSt).done.map aS⟩),(9,⟨5,cap,({s with told:=s.told++[s.done.getD (bK (iM e.who e.n) s.done).toNat default],done:=MT s.done (bK (iM e.who e.n) s.done).toNat}:TSt).told.map aS⟩)]) _ _ (.inl rfl) rfl (fU [4,56,40,0,1,2,3] (by omega) (by repeat' ((with_reducible refine D0 ?_);exact CA rfl)) ⟨⟨by simp,by simp[sgL],_,rfl,aP (by unfold oIm;repeat' (first| (with_reducible first|exact C3|refine C4 ?_ ?_)| ((with_reducible refine C0 ?_);(exact CQ (by omega) rfl rfl (by first|rfl| (simp;done)) rfl))|fail))⟩,⟨by simp,by simp[sgL],_,rfl,bP (aG bF _) rfl rfl⟩,⟨by simp,by simp[sgL],_,rfl,bP (aG bF _) rfl rfl⟩,⟨by simp,by simp[sgL],_,rfl,bP (aG bF _) rfl rfl⟩,⟨by simp,by simp[sgL],_,rfl,bP (aG dZ _) rfl rfl⟩,⟨by simp,by simp[sgL],_,rfl,bP (aG dZ _) rfl rfl⟩,⟨by simp,by simp[sgL],_,rfl,bP (aG dZ _) rfl rfl⟩,trivial⟩ (by simp[sgL])) ?_)
  exact⟨c3,cap1,cap,m3,m1',cap,⟨hct,q1,by simpa using hcap⟩,⟨hmt,q2,Nat.le_refl _⟩,rfl,rfl,rfl⟩
end
end Go.Proofs.YtegiblhkjfiooaaGreat
end
