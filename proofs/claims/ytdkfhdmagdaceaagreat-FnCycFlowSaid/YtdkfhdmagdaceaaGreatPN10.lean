/- Texts laid together by a program: rules, contracts and the walk that leads to the law. -/
import Derived.Test.YtdkfhdmagdaceaaGreatPN7
import Derived.Test.YtdkfhdmagdaceaaGreatPN4
import Derived.Test.YtdkfhdmagdaceaaGreatPN3
import Derived.Test.YtdkfhdmagdaceaaGreatPN6
set_option linter.unusedVariables false
set_option linter.unusedSimpArgs false
set_option linter.unusedSectionVars false
set_option maxRecDepth 100000
set_option maxHeartbeats 8000000
namespace Go.Proofs.YtdkfhdmagdaceaaGreat
open Go Go.AM
attribute [local irreducible] aM wv aB vd wvH
section
variable {H : aA} {nx : Nat} {K : D → aA → Nat → Prop}
theorem BG {l:List Int} {x:Int} (hl:l.length<2^40) {c:D} (a:CvD H (fun _=>True) id 0 (dS (l.map aJ)) c) (h:K (boP (bK (fun y=>decide (x=y)) l)) H nx):aB Tryz.prog gN [c,boP x] H nx K:=by
 refine aB.pure (args0:=[dS (l.map aJ),boP x]) (R:=fun e=>e=boP (bK (fun y=>decide (x=y)) l)) ?_ rfl (aI ⟨a,aE rfl,trivial⟩) (fun r hr=>hr▸h);clear h;refine AD rfl fun Q d=> ?_;unfold jQ;repeat' first|apply bn1<;>(simp only[go_sem])|fail
 (refine aM.loop (α:={k:Nat//k≤l.length∧(∀i,i<k→(fun y=>decide (x=y)) (l.getD i default)=false)}) (fun u=>en [(8,boP u.1),(7,boP l.length),(1,boP x),(0,dS (l.map aJ))]) (fun _=>.nil) _ (fun u=>l.length-u.1) ⟨0,by omega,(by intros;first|trivial|omega)⟩ (bU (m5 _) (by repeat' first|exact bo2|refine xqI rfl rfl ?_|fail)) ?_);(rintro⟨k,g,hinv⟩ bpQ b);by_cases f:k<l.length
 ·repeat' first|apply bn1<;>(simp only[go_sem];try simp (disch:=omega) only[Iw])|apply bn2 (by omega)|refine bnE (fun h=> ?_) fun h=> ?_|refine⟨by omega,?_⟩|fail
  ·refine aZ d _ rfl rfl (qA (bq3 (CU (by omega) (decide_eq_true (by assumption)) hinv)))
  · (refine b _ _ _ ⟨k+1,by omega,iS hinv (decide_eq_false (by assumption))⟩ (by omega) (by(try dsimp only);omega) (bU (m5 _) (by repeat' first|exact bo2|refine xqI rfl rfl ?_|fail)))
 ·repeat' first|apply bn1<;>(simp only[go_sem])|apply bn3 (by omega)|fail
  refine aZ d (boP _) rfl rfl (qA (bq3 (tI fun i hi=>hinv i (by omega))))
theorem x8 {l:List Int} {x:Int} (hl:l.length<2^40) {b:D} (a:CvD H (fun _=>True) id 0 (dS (l.map aJ)) b) (h:K (dB (decide (x∈l))) H nx):aB Tryz.prog fK [b,boP x] H nx K:=by
 refine aB.pure (args0:=[dS (l.map aJ),boP x]) (R:=fun c=>c=dB (decide (x∈l))) ?_ rfl (aI ⟨a,aE rfl,trivial⟩) (fun r hr=>hr▸h);clear h;refine wG rfl fun Q d=> ?_;unfold iC;repeat' first| (first|apply bn1|refine BG hl (aE rfl) ?_)<;>(simp only[go_sem])|fail
 all_goals first|with_reducible refine aZ d _ rfl rfl ?_|skip
 all_goals refine pD (cH.trans ⟨fun⟨y,e,he⟩=> ?_,fun h=>⟨x,h,by simp⟩⟩)
 all_goals have:=of_decide_eq_true he;subst this;exact e
theorem XT {f:Nat→Int} {n k:Nat} {x:Int} (c:k<n) (a:x=f k):((List.range k).map f++List.replicate (n-k) (0:Int)).set k x=(List.range (k+1)).map f++List.replicate (n-(k+1)) 0:=by
 have e:n-k=(n-(k+1))+1:=by omega
 have b:((List.range k).map f).length=k:=by simp
 rw[bsB,b,if_neg (br6 k),brJ,e,List.replicate_succ,List.set_cons_zero,brP,bqX,C0,a];rfl
theorem OQ {addr:Int} {many:Int} {wrap:Bool} (h:K (dS ((bE addr many wrap).map aJ)) H nx):aB Tryz.prog oS [boP addr,boP many,dB wrap] H nx K:=by
 refine aB.fresh (R:=fun i=>i=dS ((bE addr many wrap).map aJ)) ?_ rfl (fun r hr=>hr▸h);clear h;refine M3 rfl fun Q g=> ?_;unfold s6;by_cases a:o7 addr many wrap
 ·obtain⟨bpR,j,bpS,bpT,bpU,bpV,bpW,bpX⟩:=aaA a;repeat' first| (first|apply bn1|apply wS)<;>(simp only[go_sem,bpV,eq_true a])|refine⟨by omega,?_⟩|fail
  refine aM.sG 1 (β:=Nat) (fun b k=>en [(18,boP k),(17,boP many),(7,boQ 1 b many.toNat many.toNat),(2,dB wrap),(1,boP many),(0,boP addr)])
   (fun b k=>hp [(b,⟨1,many.toNat,((List.range k).map (bAt addr many wrap)++List.replicate (many.toNat-k) (0:Int)).map aJ⟩)]) (fun k=>k≤many.toNat) (fun k=>many.toNat-k) 0 ?_ (by omega) ?_
  · (refine cR [7] (by omega) (by repeat' first|exact bo2|refine xqI rfl rfl ?_|refine xqO (by omega) rfl rfl (by rfl) ?_|refine xqV rfl (by omega) ?_|fail) ⟨⟨by simp,by simp[sgL],_,rfl,bP (aG bF _) (by simp[aJ]) rfl⟩,trivial⟩ (by simp[sgL]))
  intro k o bpQ d;have hlen:((List.range k).map (bAt addr many wrap)++List.replicate (many.toNat-k) (0:Int)).length=many.toNat:=by simp;omega
  by_cases c:k<many.toNat
  ·obtain⟨p,q,s⟩:=agW a k c;have e:(addr+k).tmod many=(addr+k)%many:=brF (by omega);have m:=Int.emod_lt_of_pos (addr+k) j;have n:=Int.emod_nonneg (addr+k) bpR;repeat' first|apply bn1<;>(simp only[go_sem,bpV,e,bq1,hlen];try simp (disch:=omega) only[Iw])|apply bn2 (by omega)| ((refine bnF (fun h=> ?_) (fun h=> ?_))<;>try subst h)|refine⟨by omega,?_⟩|fail
   ·exact d _ _ _ (k+1) (by omega) (by(refine cR [12] (by omega) (by repeat' first|exact bo2|refine xqI rfl rfl ?_|refine xqO (by omega) rfl rfl (by rfl) ?_|fail) ⟨⟨by simp,by simp[sgL],_,rfl,bP (aG bF _) (congrArg _ (XT c (by simp only[bAt,if_true])).symm) rfl⟩,trivial⟩ (by simp[sgL]))) (by omega) (by omega)
   ·exact d _ _ _ (k+1) (by omega) (by(refine cR [12] (by omega) (by repeat' first|exact bo2|refine xqI rfl rfl ?_|refine xqO (by omega) rfl rfl (by rfl) ?_|fail) ⟨⟨by simp,by simp[sgL],_,rfl,bP (aG bF _) (congrArg _ (XT c (by simp[bAt])).symm) rfl⟩,trivial⟩ (by simp[sgL]))) (by omega) (by omega)
  ·repeat' first|apply bn1<;>(simp only[go_sem])|apply bn3 (by omega)|fail
   have f:k=many.toNat:=(by omega);subst f;exact V4 g (dS ((bE addr many wrap).map aJ)) _ rfl (yP (l:=bE addr many wrap) bF (by simp[bE,a];rfl) (DF a).symm (by rw[DF a];omega) trivial) rfl rfl
 ·repeat' first| (first|apply bn1|apply wS)<;>(simp only[go_sem,eq_false a])|fail
  exact V4 g (dS []) _ rfl xG rfl (by simp[bE,a])
theorem vY {q:Req} (h:K (dS ((bE q.addr q.many q.wrap).map aJ)) H nx):aB Tryz.prog fP [boR (eB q)] H nx K:=by
 refine aB.fresh (R:=fun a=>a=dS ((bE q.addr q.many q.wrap).map aJ)) ?_ rfl (fun r hr=>hr▸h);clear h;refine GL rfl fun Q b=> ?_;unfold mQ;repeat' first| (first|apply bn1|apply OQ)<;>(simp only[go_sem])|fail
 all_goals exact V4 b (dS _) _ rfl (aE rfl) rfl rfl
theorem KD {l:List Rng} {q:Req} (hl:l.length<2^40) (h:K (boP (bV l (bE q.addr q.many q.wrap))) H nx):aB Tryz.prog mZ [dS (l.map eN),boR (eB q)] H nx K:=by
 refine aB.pure (args0:=[dS (l.map eN),boR (eB q)]) (R:=fun g=>g=boP (bV l (bE q.addr q.many q.wrap))) ?_ rfl (aI ⟨aE rfl,aE rfl,trivial⟩) (fun r hr=>hr▸h);clear h;refine TU rfl fun Q c=> ?_;unfold zZ;have j:=MK (addr:=q.addr) (many:=q.many) (wrap:=q.wrap);repeat' first| (first|apply bn1|apply vY)<;>(simp only[go_sem])|fail
 generalize bE q.addr q.many q.wrap=all at*;(refine aM.loop (α:={k:Nat//k≤all.length∧(∀i,i<k→¬bK (inR · (all.getD i default)) l<0∧bK (inR · (all.getD i default)) l=bK (inR · (all.getD 0 default)) l)}) (fun u=>en [(12,boP u.1),(11,boP all.length),(10,dS (all.map aJ)),(5,boP (if u.1=0 then-1 else bK (inR · (all.getD 0 default)) l)),(0,dS (l.map eN))]) (fun _=>.nil) _ (fun u=>all.length-u.1) ⟨0,by omega,(by intros;first|trivial|omega)⟩ (bU (m5 _) (by repeat' first|exact bo2|refine xqI rfl rfl ?_|fail)) ?_);(rintro⟨k,m,hinv⟩ bpQ d);by_cases b:k<all.length
 ·repeat' first| (first|apply bn1|refine bpL (fun h=> ?_) fun h=> ?_|apply SX hl)<;>(simp only[go_sem];try simp (disch:=omega) only[Iw])|apply bn2 (by omega)|refine bnE (fun h=> ?_) fun h=> ?_|refine⟨by omega,?_⟩|fail
  ·refine aZ c (boP _) rfl rfl (qA ?_);rcases CR k with a|a
   ·subst a;have n:=aoF (p:=(inR · (all.getD 0 default))) (l:=l);by_cases f: ∀i,i<all.length→1≤i→bK (inR · (all.getD i default)) l=bK (inR · (all.getD 0 default)) l;·rw[RH (by omega) f];omega
    ·have: ∃i,i<all.length∧ ¬bK (inR · (all.getD i default)) l=bK (inR · (all.getD 0 default)) l:=Classical.byContradiction fun hc=>f fun i hi _=>Classical.byContradiction fun e=>hc ⟨i,hi,e⟩;obtain⟨i,hi,e⟩:=this;rw[L8 hi e]
   ·have:=(hinv 0 a).1;exact(L8 b (by omega)).symm
  ·refine aZ c (boP _) rfl rfl (qA (L8 b (fun he=> ?_)).symm);grind
  all_goals
   have heq:bK (inR · (all.getD k default)) l=bK (inR · (all.getD 0 default)) l:=by grind
   refine d _ _ _ ⟨k+1,by omega,iS hinv ⟨by omega,heq⟩⟩ (by omega) (by dsimp only;omega) (bU (m5 _) ?_)
   dsimp only
   rw[if_neg (Nat.succ_ne_zero k),←heq]
   repeat' first|exact bo2|refine xqI rfl rfl ?_|fail
 ·repeat' first|apply bn1<;>(simp only[go_sem])|apply bn3 (by omega)|fail
  refine aZ c (boP _) rfl rfl (qA ?_);by_cases a:k=0;·rw[if_pos a,adL (by omega)]
  ·rw[if_neg a,RH (by omega) (fun i hi _=>(hinv i (by omega)).2)]
theorem ae5 {old:Int} {new:Int} {g6:Int} (a:0≤old∧old≤65535) (b:0≤new∧new≤65535) (e:0≤g6∧g6≤3) (h:K (boP (xZ old new g6)) H nx):aB Tryz.prog DA [boP old,boP new,boP g6] H nx K:=by
 refine aB.pure (args0:=[boP old,boP new,boP g6]) (R:=fun d=>d=boP (xZ old new g6)) ?_ rfl (aI ⟨aE rfl,aE rfl,aE rfl,trivial⟩) (fun r hr=>hr▸h);clear h;refine ZG rfl fun Q c=> ?_;unfold GM;have hc:g6=0∨g6=1∨g6=2∨g6=3:=by omega
 rcases hc with rfl|rfl|rfl|rfl;all_goals repeat' first|apply bn1<;>(simp only[go_sem])|fail
 ·exact aZ c (boP (aeN old new (aaU 0))) rfl rfl (qA (by rw[arC];exact PW a b (by omega)))
 ·exact aZ c (boP (aeN old new (aaU 1))) rfl rfl (qA (by rw[aqD];exact PW a b (by omega)))
 ·exact aZ c (boP (aeN old new (aaU 2))) rfl rfl (qA (by rw[arO];exact PW a b (by omega)))
 ·exact aZ c (boP (aeN old new (aaU 3))) rfl rfl (qA (by rw[arA];exact PW a b (by omega)))
theorem aqI {w all:List Int}:(List.range all.length).map (fun k=>w.getD (all.getD k default).toNat default)=all.map fun a=>w.getD a.toNat default:=by
 apply br2;·simp
 ·intro i c b;simp only[bqW] at b;simp[List.getD,b]
theorem aoK {i0 i1 a b c d c0 c1 c2 e f g:Nat} {s:TSt}:(oIm i0 i1 a b c d c0 c1 c2 e f g s).length=6:=rfl
theorem aj7 {i0 i1 a b c d c0 c1 c2 e f g:Nat} {s:TSt}:(oIm i0 i1 a b c d c0 c1 c2 e f g s).take 6=oIm i0 i1 a b c d c0 c1 c2 e f g s:=rfl
theorem akC {i0 i1 a b c d c0 c1 c2 e f g:Nat} {s:TSt}:(oIm i0 i1 a b c d c0 c1 c2 e f g s).drop 6=[]:=rfl
theorem alF {i0 i1 a b c d c0 c1 c2 e f g k:Nat} {s:TSt} {cs:List D1}:iA cs (k+1) (oIm i0 i1 a b c d c0 c1 c2 e f g s)=iA cs (k+1) [.osl 1 i0 0 s.words.length c0,.osl 1 i1 0 s.holds.length c1,.osl 1 a 0 s.asked.length c2,.osl 5 b 0 s.wait.length e,.osl 5 c 0 s.done.length f,.osl 5 d 0 s.told.length g]:=rfl
attribute [go_sem] aoK aj7 akC alF
end
end Go.Proofs.YtdkfhdmagdaceaaGreat
namespace Go.AM
abbrev TE:=List Job
def IF (l:TE):List D1:=[.isl (l.map aS)]
theorem ag7 {l:TE}:(IF l).length=1:=rfl
theorem aaZ {l:TE}:(IF l).take 1=[.isl (l.map aS)]:=rfl
theorem ZY {l:TE}:(IF l).drop 1=[]:=rfl
theorem ae8 {l:TE} {cs:List D1} {k:Nat}:iA cs (k+1) (IF l)=iA cs (k+1) [.isl (l.map aS)]:=rfl
theorem al7 (l:TE):(IF l).length=1∧(IF l).all D1.dQ=true:=⟨rfl,rfl⟩
attribute [go_sem] ag7 aaZ ZY ae8
end Go.AM
namespace Go.Proofs.YtdkfhdmagdaceaaGreat
open Go Go.AM
attribute [local irreducible] aM wv aB vd wvH
section
variable {H : aA} {nx : Nat} {K : D → aA → Nat → Prop}
variable{l:List Job}
theorem ac0 (h: ∀i,i<l.length→1≤i→ad5 (l.getD (i-1) default) (l.getD i default)<0):kW l:=by
 have a: ∀(d i:Nat) (hi:i+d+1<l.length),uL (l.getD i default) (l.getD (i+d+1) default)=true:=by
  intro d
  induction d with
  |zero=>intro i hi;have:=h (i+1) (by omega) (by omega);rw[E7] at this;simpa using this
  |succ d b=>intro i hi;have g:=b i (by omega);have c:=h (i+d+2) (by omega) (by omega);rw[E7,show i+d+2-1=i+d+1 by omega] at c;rw[show i+(d+1)+1=i+d+2 by omega];rw[qL] at*;omega
 refine Z6.2 fun i j hi e f=> ?_;have:=a (j-i-1) i (by omega);rw[show i+(j-i-1)+1=j by omega] at this;simpa [List.getD,hi,e] using this
theorem IK (hl:l.length<2^21){j:D} (c:CvD H (fun _=>True) id 0 (dS (l.map aS)) j) (h:K (dB (decide (kW l))) H nx):aB Tryz.prog oI [j] H nx K:=by
 refine aB.pure (args0:=[dS (l.map aS)]) (R:=fun n=>n=dB (decide (kW l))) ?_ rfl (aI ⟨c,trivial⟩) (fun r hr=>hr▸h);clear h;refine Q2 rfl fun Q m=> ?_;unfold x7;repeat' first|apply bn1<;>(simp only[go_sem])|fail
 refine aM.sG 0 (β:=Nat) (fun b k=>en [(3,boP k),(0,dS (l.map aS))]) (fun b k=>hp []) (fun k=>(1≤k∧(k≤l.length∨k=1))∧ ∀i,i<k→i<l.length→1≤i→ad5 (l.getD (i-1) default) (l.getD i default)<0) (fun k=>l.length-k) 1 (bU (m5 _) (by repeat' first| (with_reducible first|exact bo2|apply bo3)| ((with_reducible apply bo1);exact bo8 rfl)|fail)) ⟨by omega,fun i hi _ _=>by omega⟩ ?_;rintro k ⟨q,hinv⟩ bpQ d;by_cases a:k<l.length
 ·have o:((k:Int)-1).toNat=k-1:=by omega
  repeat' first| (first|apply bn1|apply xM)<;>(simp only[go_sem,o];try simp (disch:=omega) only[Iw])|apply bn2 (by omega)|refine bnE (fun h=> ?_) fun h=> ?_|refine⟨by omega,?_⟩|fail
  ·refine aZ m (dB false) rfl rfl (j7 fun hs=> ?_);have p:=Z6.1 hs (k-1) k (by omega) a (by omega);have s:ad5 (l.getD (k-1) default) (l.getD k default)<0:=(by rw[E7];simpa [List.getD,a,show k-1<l.length by omega] using p);omega
  ·exact d _ _ _ (k+1) (by omega) (bU (m5 _) (by repeat' first| (with_reducible first|exact bo2|apply bo3)| ((with_reducible apply bo1);exact bo8 rfl)|fail)) ⟨by omega,fun i hi e f=>by
    rcases br8.1 hi with g|g
    ·exact hinv i g e f
    ·subst g;omega⟩ (by omega)
 ·repeat' first|apply bn1<;>(simp only[go_sem])|apply bn3 (by omega)|refine bw9 rfl ?_|fail
  exact aZ m (dB true) rfl rfl (q9 (ac0 fun i hi f=>hinv i (by omega) hi f))
theorem JG{r:Rsp} (hr:r.data.length<2^40) (h:K (dB (decide (r=oW))) H nx):aB Tryz.prog iT [boR (tG r)] H nx K:=by
 refine aB.pure (args0:=[boR (tG r)]) (R:=fun a=>a=dB (decide (r=oW))) ?_ rfl (aI ⟨aE rfl,trivial⟩) (fun r hr=>hr▸h);clear h;refine HU rfl fun Q b=> ?_;unfold nO;repeat' first| (first|apply bn1|refine bpL (fun h=> ?_) fun h=> ?_)<;>(simp only[go_sem])|fail
 all_goals first|with_reducible refine aZ b _ rfl rfl ?_|skip
 all_goals (obtain⟨c,d,e⟩:=r;unfold oW;dsimp only at*;first|exact q9 (by simp_all)|exact j7 (by simp_all)|exact pD (by simp_all)|exact pD (by simp only[Rsp.mk.injEq];rw[←H4];omega))
theorem YD{r:Rsp} (hr:r.data.length<2^40) (h:K (dB (decide (pA r))) H nx):aB Tryz.prog m6 [boR (tG r)] H nx K:=by
 refine aB.pure (args0:=[boR (tG r)]) (R:=fun a=>a=dB (decide (pA r))) ?_ rfl (aI ⟨aE rfl,trivial⟩) (fun r hr=>hr▸h);clear h;refine UX rfl fun Q b=> ?_;unfold z8;repeat' first| (first|apply bn1|refine bpL (fun h=> ?_) fun h=> ?_|apply fE|refine vG hr (aE rfl) ?_)<;>(simp only[go_sem])|fail
 all_goals first|with_reducible refine aZ b _ rfl rfl ?_|skip
 all_goals first|exact j7 (by unfold pA;grind)|exact pD (by unfold pA;grind)|exact q9 (by unfold pA;grind)
theorem HK{r:Rsp} (hr:r.data.length<2^40) (h:K (dB (decide (r=oW))) H nx):aB Tryz.prog iT [.one (.agg [cI r.id,cI r.code,.isl (r.data.map aJ)])] H nx K:=JG hr h
theorem I8{r:Rsp} (hr:r.data.length<2^40) (h:K (dB (decide (pA r))) H nx):aB Tryz.prog m6 [.one (.agg [cI r.id,cI r.code,.isl (r.data.map aJ)])] H nx K:=YD hr h
def UB (l:List Job):List (List Int×Int):=l.map fun j=>([j.who,j.n],1)
theorem alK{j:Job} (h:key j∉l.map key):jT (UB l) [j.who,j.n]=none:=by unfold jT UB;rw[Option.map_eq_none_iff,List.find?_eq_none];intro p hp;obtain⟨x,a,rfl⟩:=CF.1 hp;simp only[List.cons.injEq,and_true,decide_eq_true_eq];intro he;exact h (CF.2 ⟨x,a,by simp[key,he.1,he.2]⟩)
theorem alD{j:Job} (h:key j∉l.map key):vA (UB l) [j.who,j.n] 1=UB (l++[j]):=by
 induction l with
 |nil=>rfl
 |cons x l b=>simp only[n3,t3,not_or] at h;have a: ¬[j.who,j.n]=[x.who,x.n]:=fun he=>h.1 (by simp only[List.cons.injEq,and_true] at he;simp[key,he.1,he.2]);show vA (([x.who,x.n],1)::UB l) _ _=_;simp only[vA,a,if_false,b h.2];rfl
theorem amR:(UB l).length=l.length:=by simp[UB]
theorem alS{l:List Int}{k:Nat} (h:k<l.length):(l.take (k+1)).sum=(l.take k).sum+l.getD k default:=by rw[brQ h,List.sum_append];simp[List.getD,h]
theorem af9{l:List Int} (h:l.length=3):(l.take 3).sum=l.getD 0 default+l.getD 1 default+l.getD 2 default:=by
 match l,h with
 | [a,b,c],_=>simp[List.getD];omega
theorem ZS{w u:List Int} (h:WK w u):JS w u:=⟨⟨by rw[h.wl];rfl,h.wr⟩,by rw[h.hl];rfl,h.hr⟩
end
end Go.Proofs.YtdkfhdmagdaceaaGreat
