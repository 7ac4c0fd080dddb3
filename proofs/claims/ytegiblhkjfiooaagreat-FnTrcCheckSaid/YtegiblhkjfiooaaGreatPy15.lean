/- Texts laid together by a program: rules, contracts and the walk that leads to the law. -/
import Derived.Test.YtegiblhkjfiooaaGreatPy14
import Derived.Test.YtegiblhkjfiooaaGreatPy3
import Derived.Test.YtegiblhkjfiooaaGreatPy13
import Derived.Test.YtegiblhkjfiooaaGreatPy12
import Derived.Test.YtegiblhkjfiooaaGreatPy11
import Derived.Test.YtegiblhkjfiooaaGreatPy10
set_option linter.unusedVariables false
set_option linter.unusedSimpArgs false
set_option linter.unusedSectionVars false
section
namespace Go.Proofs.YtegiblhkjfiooaaGreat
open Go Go.AM
set_option maxRecDepth 100000
set_option maxHeartbeats 4000000
section
variable {H : aA} {nx : Nat} {K : D → aA → Nat → Prop}
theorem aM8 {j:Job}:cI j.who::cI j.n::tG j.rsp=aS j:=rfl
theorem aRZ:aB Tryz.prog v8 [] (hp []) 0
 fun r H' n'=>n'=1∧H'=hp [(0,⟨1,64,(List.replicate 64 (0:Int)).map aJ⟩)]∧r=dA [.osl 1 0 0 64 64]:=by
 refine aQI rfl fun Q hQ=> ?_
 unfold aNN
 repeat' (first| (with_reducible first| (refine hK _ _ _ ?_;clear hK K)|refine Z1 ?_)| (with_reducible refine Y2 fun K hK=> ?_)<;>(simp only[go_sem])| ((with_reducible refine Y8 ?_);try simp only[AQ.then,AQ.blk,reduceIte,Nat.reduceEqDiff])|fail)
 (refine hQ _ _ _ _ _ 1 (dA [.osl 1 0 0 64 64]) (hp [(0,⟨1,64,(List.replicate 64 (0:Int)).map aJ⟩)]) _ _ (.inr rfl) rfl (fU [1] (by omega) (by repeat' (first| ((with_reducible refine C0 ?_);exact CQ (by omega) rfl rfl (by rfl) rfl)| ((with_reducible refine D0 ?_);refine C9 ?_)|exact C3|refine C4 ?_ ?_|fail)) ⟨⟨by simp,by simp[sgL],_,rfl,bP (aG bF _) rfl rfl⟩,trivial⟩ (by simp[sgL])) ?_)
 exact⟨rfl,rfl,rfl⟩
theorem aSB (h:K (dA [.osl 1 nx 0 64 64]) (H.set nx ⟨1,64,(List.replicate 64 (0:Int)).map aJ⟩) (nx+1)):aB Tryz.prog v8 [] H nx K:=by
 refine aRZ.AF (l0:=[]) [] rfl trivial trivial (by simp) (by simp) (by simp) fun r H' n' _ ⟨q1,q2,q3⟩=> ?_
 subst q1;subst q2;subst q3
 have e1:back (tau 0 nx (nth [])) (hp [(0,⟨1,64,(List.replicate 64 (0:Int)).map aJ⟩)]) 1 H=H.set nx ⟨1,64,(List.replicate 64 (0:Int)).map aJ⟩:=by
  simp only[back,hp,aA.set,tau,Nat.not_lt_zero,if_true,if_false,Nat.sub_zero,Nat.add_zero,Option.map_some,uB,aA.eL]
 rw[←e1] at h
 exact h
theorem aSG:aB Tryz.prog v7 [] (hp []) 0
 fun r H' n'=>∃hc,6≤hc∧n'=2∧H'=hp [(0,⟨1,64,(List.replicate 64 (0:Int)).map aJ⟩),(1,⟨1,hc,(List.replicate 6 (-1:Int)).map aJ⟩)]∧r=dA [.osl 1 0 0 64 64,.osl 1 1 0 6 hc]:=by
 refine aQ1 rfl fun Q hQ=> ?_
 unfold aNO
 generalize hw0:List.replicate 64 (0:Int)=w0
 have hmn: ∀{H:aA} {nx:Nat} {K:D→aA→Nat→Prop},K (dA [.osl 1 nx 0 64 64]) (H.set nx ⟨1,64,w0.map aJ⟩) (nx+1)→aB Tryz.prog v8 [] H nx K:=fun h=>by subst hw0;exact aSB h
 repeat' (first| (with_reducible first| (refine hK _ _ _ ?_;clear hK K)|refine Z1 ?_|refine Z3 fun KB hKB=> ?_)| (first| (with_reducible refine Y2 fun K hK=> ?_)| (refine hmn ?_))<;>(simp only[go_sem])|fail)
 (have hKX:=hKB;clear hKB)
 refine aM.EJ 1 ?_
 refine aM.sG 4 (β:=Nat×Nat) (fun b u=>en [(2,dI u.1),(1,dP 2 (b+1)),(0,dP 2 b)])
  (fun b u=>hp [(b,⟨2,1,[[.osl 0 0 0 0 0,.osl 0 0 0 0 0]]⟩),(b+1,⟨2,1,[[.osl 1 (b+2) 0 64 64,.osl 1 (b+3) 0 u.1 u.2]]⟩),(b+2,⟨1,64,w0.map aJ⟩),(b+3,⟨1,u.2,(List.replicate u.1 (-1:Int)).map aJ⟩)]) (fun u=>u.1≤6∧u.1≤u.2) (fun u=>6-u.1) (0,0)
  ?_ ⟨by dsimp only;omega,by dsimp only;omega⟩ ?_
 · (refine cR [0,3,5,7] (by omega) (by repeat' (first| (with_reducible first|exact C1|refine C2 ?_ ?_)| ((with_reducible refine C0 ?_);exact CE (by omega) rfl)| ((with_reducible refine D0 ?_);first|exact CA rfl|refine CJ ?_)|fail)) ⟨⟨by simp,by simp[sgL],_,rfl,aP (by repeat' (first| (with_reducible first|exact C3|refine C4 ?_ ?_)| ((with_reducible refine C0 ?_);exact CC)|fail))⟩,⟨by simp,by simp[sgL],_,rfl,aP (by repeat' (first| (with_reducible first|exact C3|refine C4 ?_ ?_)| ((with_reducible refine C0 ?_);first|exact CC|exact CQ (by omega) rfl rfl (by rfl) rfl)|fail))⟩,⟨by simp,by simp[sgL],_,rfl,bP (aG bF _) rfl rfl⟩,⟨by simp,by simp[sgL],_,rfl,bP (aG bF _) rfl rfl⟩,trivial⟩ (by simp[sgL]))
 ·rintro⟨k,cap⟩ ⟨hk,hc⟩ KL hKL
  dsimp only at hk hc
  have hrep:List.replicate (k+1) (-1:Int)=List.replicate k (-1)++[-1]:=List.replicate_succ'
  by_cases hlt:k<6
  ·repeat' (first| (with_reducible first| (refine hK _ _ _ ?_;clear hK K)| (refine hA ?_;clear hA hB A B)|refine Z1 ?_|refine Z2 ?_|refine Z3 fun KB hKB=> ?_|refine Z4 (by omega) ?_|refine fun(cap:Nat) (hcap:_≤cap)=> ?_|refine fun(hcp:_≤cap)=> ?_)| (with_reducible first|refine Y2 fun K hK=> ?_|refine Y3 fun A B hA hB=> ?_)<;>(simp only[go_sem];try simp (disch:=omega) only[Iw])| ((with_reducible refine Y0 ?_);simp only[AQ.then,AQ.blk])|refine⟨by omega,?_⟩| (with_reducible refine hKB _ _ _ ?_)|fail)
   exact hKL _ _ _ (k+1,cap) (by omega) (by(refine cR [8,9,10,17] (by omega) (by repeat' (first| (with_reducible first|exact C1|refine C2 ?_ ?_)| ((with_reducible refine C0 ?_);exact CE (by omega) rfl)| ((with_reducible refine D0 ?_);first|exact CA rfl|refine CJ ?_)|fail)) ⟨⟨by simp,by simp[sgL],_,rfl,aP (by repeat' (first| (with_reducible first|exact C3|refine C4 ?_ ?_)| ((with_reducible refine C0 ?_);exact CC)|fail))⟩,⟨by simp,by simp[sgL],_,rfl,aP (by repeat' (first| (with_reducible first|exact C3|refine C4 ?_ ?_)| ((with_reducible refine C0 ?_);exact CQ (by omega) rfl rfl (by rfl) rfl)|fail))⟩,⟨by simp,by simp[sgL],_,rfl,bP (aG bF _) rfl rfl⟩,⟨by simp,by simp[sgL],_,rfl,bP (aG bF _) (congrArg _ hrep) rfl⟩,trivial⟩ (by simp[sgL]))) ⟨by dsimp only;omega,by dsimp only;omega⟩ (by dsimp only;omega)
  ·repeat' (first| (with_reducible first| (refine hK _ _ _ ?_;clear hK K)| (refine hB ?_;clear hA hB A B)|refine Z1 ?_|refine Z5 (by omega) ?_|refine hKX _ _ _ ?_)| (with_reducible first|refine Y2 fun K hK=> ?_|refine Y3 fun A B hA hB=> ?_)<;>(simp only[go_sem])| ((with_reducible first|refine Y8 ?_|refine Y9 ?_);try simp only[AQ.then,AQ.blk,reduceIte,Nat.reduceEqDiff])|fail)
   have hk2:k=6:=by omega
   subst hk2
   (refine hQ _ _ _ _ _ 2 (dA [.osl 1 0 0 64 64,.osl 1 1 0 6 cap]) (hp [(0,⟨1,64,w0.map aJ⟩),(1,⟨1,cap,(List.replicate 6 (-1:Int)).map aJ⟩)]) _ _ (.inr rfl) rfl (fU [10,11] (by omega) (by repeat' (first| ((with_reducible refine C0 ?_);exact CQ (by omega) rfl rfl (by rfl) rfl)| ((with_reducible refine D0 ?_);refine C9 ?_)|exact C3|refine C4 ?_ ?_|fail)) ⟨⟨by simp,by simp[sgL],_,rfl,bP (aG bF _) rfl rfl⟩,⟨by simp,by simp[sgL],_,rfl,bP (aG bF _) rfl rfl⟩,trivial⟩ (by simp[sgL])) ?_)
   exact⟨cap,hc,rfl,by rw[hw0],rfl⟩
theorem aR5 (h: ∀hc,6≤hc→K (dA [.osl 1 nx 0 64 64,.osl 1 (nx+1) 0 6 hc]) ((H.set nx ⟨1,64,(List.replicate 64 (0:Int)).map aJ⟩).set (nx+1) ⟨1,hc,(List.replicate 6 (-1:Int)).map aJ⟩) (nx+2)):aB Tryz.prog v7 [] H nx K:=by
 refine aSG.AF (l0:=[]) [] rfl trivial trivial (by simp) (by simp) (by simp) fun r H' n' _ ⟨hc,q0,q1,q2,q3⟩=> ?_
 have h:=h hc q0
 subst q1;subst q2;subst q3
 generalize List.replicate 64 (0:Int)=w0 at*
 generalize List.replicate 6 (-1:Int)=w1 at*
 have e1:back (tau 0 nx (nth [])) (hp [(0,⟨1,64,w0.map aJ⟩),(1,⟨1,hc,w1.map aJ⟩)]) 2 H=(H.set nx ⟨1,64,w0.map aJ⟩).set (nx+1) ⟨1,hc,w1.map aJ⟩:=by
  simp only[asR,hp,aA.set,tau,Nat.not_lt_zero,if_true,if_false,Nat.sub_zero,Nat.add_zero,Option.map_some,uB,aA.eL,Nat.zero_ne_one,Nat.one_ne_zero]
 rw[←e1] at h
 exact h
theorem aRV:aB Tryz.prog c7 [] (hp []) 0
 fun r H' n'=>∃hc,6≤hc∧n'=4∧H'=hp [(0,⟨1,64,st0.words.map aJ⟩),(1,⟨1,hc,st0.holds.map aJ⟩),(2,⟨1,3,st0.asked.map aJ⟩),(3,⟨5,0,st0.told.map aS⟩)]∧r=dA (oSt 0 1 2 3 64 hc 3 0 st0):=by
 refine aQJ rfl fun Q hQ=> ?_
 unfold aNX
 generalize hs0:st0=s0 at*
 have hw:st0.words=List.replicate 64 0:=rfl
 have hh:st0.holds=List.replicate 6 (-1):=rfl
 have ha:[[D1.v (Value.int IntKind.i64 0)],[D1.v (Value.int IntKind.i64 0)],[D1.v (Value.int IntKind.i64 0)]]=st0.asked.map aJ:=rfl
 have h1:st0.wait=[]:=rfl
 have h2:st0.done=[]:=rfl
 have h3:st0.told=[]:=rfl
 rw[hs0] at hw hh ha h1 h2 h3
 have hmn: ∀{H:aA} {nx:Nat} {K:D→aA→Nat→Prop},(∀hc,6≤hc→K (dA [.osl 1 nx 0 64 64,.osl 1 (nx+1) 0 6 hc]) ((H.set nx ⟨1,64,s0.words.map aJ⟩).set (nx+1) ⟨1,hc,s0.holds.map aJ⟩) (nx+2))→aB Tryz.prog v7 [] H nx K:=fun h=>by rw[hw,hh] at h;exact aR5 h
 clear hw hh
 obtain⟨w0,h0,az5,l1,l2,l3⟩:=s0
 dsimp only at*
 subst h1;subst h2;subst h3
 refine aM.seq (aM.EJ 5 ?_)
 repeat' (first| (with_reducible first| (refine hK _ _ _ ?_;clear hK K)|refine Z1 ?_)| (first| (with_reducible refine Y2 fun K hK=> ?_)| (refine hmn fun hc hhc=> ?_))<;>(simp only[go_sem,ha])| ((with_reducible refine Y8 ?_);try simp only[AQ.then,AQ.blk,reduceIte,Nat.reduceEqDiff])|fail)
 (refine hQ _ _ _ _ _ 4 (dA (oSt 0 1 2 3 64 hc 3 0 ⟨w0,h0,az5,[],[],[]⟩)) (hp [(0,⟨1,64,w0.map aJ⟩),(1,⟨1,hc,h0.map aJ⟩),(2,⟨1,3,az5.map aJ⟩),(3,⟨5,0,([]:List Job).map aS⟩)]) _ _ (.inr rfl) rfl (fU [6,7,3,0] (by omega) (by repeat' (first| ((with_reducible refine C0 ?_);first|exact CC|exact CQ (by omega) rfl rfl (by rfl) rfl|exact CF)| ((with_reducible refine D0 ?_);refine C9 ?_)|exact C3|refine C4 ?_ ?_|fail)) ⟨⟨by simp,by simp[sgL],_,rfl,bP (aG bF _) rfl rfl⟩,⟨by simp,by simp[sgL],_,rfl,bP (aG bF _) rfl rfl⟩,⟨by simp,by simp[sgL],_,rfl,bP (aG bF _) rfl rfl⟩,⟨by simp,by simp[sgL],_,rfl,bP (aG dZ _) rfl rfl⟩,trivial⟩ (by simp[sgL])) ?_)
 exact⟨hc,hhc,rfl,rfl,rfl⟩
theorem aO9 (h: ∀hc,6≤hc→K (dA (oSt nx (nx+1) (nx+2) (nx+3) 64 hc 3 0 st0)) ((((H.set nx ⟨1,64,st0.words.map aJ⟩).set (nx+1) ⟨1,hc,st0.holds.map aJ⟩).set (nx+2) ⟨1,3,st0.asked.map aJ⟩).set (nx+3) ⟨5,0,st0.told.map aS⟩) (nx+4)):aB Tryz.prog c7 [] H nx K:=by
 refine aRV.AF (l0:=[]) [] rfl trivial trivial (by simp) (by simp) (by simp) fun r H' n' _ ⟨hc,q0,q1,q2,q3⟩=> ?_
 have h:=h hc q0
 subst q1;subst q2;subst q3
 generalize st0=s0 at*
 have e1:back (tau 0 nx (nth [])) (hp [(0,⟨1,64,s0.words.map aJ⟩),(1,⟨1,hc,s0.holds.map aJ⟩),(2,⟨1,3,s0.asked.map aJ⟩),(3,⟨5,0,s0.told.map aS⟩)]) 4 H=((((H.set nx ⟨1,64,s0.words.map aJ⟩).set (nx+1) ⟨1,hc,s0.holds.map aJ⟩).set (nx+2) ⟨1,3,s0.asked.map aJ⟩).set (nx+3) ⟨5,0,s0.told.map aS⟩):=by
  simp[back,hp,aA.set,aA.nil,tau,nth,uB,aP2,aA.eL,aA.yI]
 rw[←e1] at h
 exact h
theorem aMZ (r:Rsp) (hl:r.data.length<2^20):aB Tryz.prog aI8 [dA (tG r)] .nil 0 fun rr _ nn=>nn=0∧rr.imm=true∧rr=dA (tG r):=by
 refine aLO rfl fun Q hQ=> ?_
 unfold aJN
 repeat' (first| (with_reducible first| (refine hK _ _ _ ?_;clear hK K)|refine Z1 ?_|refine fun(cap:Nat) (hcap:_≤cap)=> ?_|refine fun(hcp:_≤cap)=> ?_)| (with_reducible refine Y2 fun K hK=> ?_)<;>(simp only[go_sem])| ((with_reducible refine Y8 ?_);try simp only[AQ.then,AQ.blk,reduceIte,Nat.reduceEqDiff])|refine⟨by omega,?_⟩|fail)
 all_goals exact V4 hQ (dA (tG r)) _ rfl (aH (bB rfl) (aH (bB rfl) (aH (bW bF rfl rfl (by omega) trivial) eP))) rfl rfl
theorem aMW {r:Rsp} (hl:r.data.length<2^20) (h:K (dA (tG r)) H nx):aB Tryz.prog aI8 [dA (tG r)] H nx K:=
 (aMZ r hl).fresh rfl (fun r hr=>hr▸h)
end
end Go.Proofs.YtegiblhkjfiooaaGreat
end
section
namespace Go.Proofs.YtegiblhkjfiooaaGreat
open Go Go.AM
set_option maxRecDepth 100000
end Go.Proofs.YtegiblhkjfiooaaGreat
end
section
namespace Go.Proofs.YtegiblhkjfiooaaGreat
open Go Go.AM
set_option maxRecDepth 100000
end Go.Proofs.YtegiblhkjfiooaaGreat
end
section
namespace Go.Proofs.YtegiblhkjfiooaaGreat
open Go Go.AM
set_option maxRecDepth 100000
end Go.Proofs.YtegiblhkjfiooaaGreat
end
section
namespace Go.AM
open Go.RowKit
def aaS (e' e:Env):Prop:=∀t,e' t=e t∨e' t= .dead
theorem aaS.refl (e:Env):aaS e e:=fun _=>.inl rfl
theorem ER.le {c:Cf} {T:Nat} {e e':Env} {a:Act} (he:ER c T e a) (h:aaS e' e):ER c T e' a:=by
 refine⟨he.1,he.2.1,fun t=> ?_⟩
 rcases h t with h1|h1
 ·rw[h1];exact he.2.2 t
 ·rw[h1];exact trivial
section
variable {P : Program} {T : Nat} {e : Env} {H : aA} {nx : Nat} {Q : AQ}
theorem AWP.le {x:AC} {e':Env} (hE:aaS e' e) (h:AWP P T x e' H nx Q):AWP P T x e H nx Q:=
 fun code hc c a hs he hN=>h code hc c a hs (he.le hE) hN
theorem aM.le {x:AC} {zs:List AC} {e':Env} (hE:aaS e' e) (h:aM P T (x::zs) e' H nx Q):aM P T (x::zs) e H nx Q:=AWP.le hE h
theorem aB.ofH {f:FuncId} {fn:Func} {code:Code} {ac:AC} {rs:List aW} {cs cs':List Cert} {args:List D} {K:D→aA→Nat→Prop}
 (hok:qY P f=true) (hf:P.funcs[f]?=some fn) (hb:fn.body=some code) (hc:compile P fn.ntmps code cs=some (ac,cs')) (hr:AJ P fn.results.toList=some rs) (hl:args.length≤fn.ntmps)
 (h: ∀Q:AQ,(∀ex e' H' nx' d,ex= .normal∨ex= .ret→yT H' e' rs=some d→K d H' nx'→Q ex e' H' nx')→AWP P fn.ntmps ac (Env.args 0 args) H nx Q):aB P f args H nx K:=by
 refine⟨hok,fun c vs hs hN hlen hrel=> ?_⟩
 refine calls_of_wp hf hb ?_
 have hcm:=JA _ _ _ _ hc
 have her:ER c fn.ntmps (Env.args 0 args) {tmps:=vs.toArray++Array.replicate (fn.ntmps-vs.toArray.size) undef,defers:=[]}:=by
  refine⟨by simp;omega,rfl,fun t=> ?_⟩
  rw[Env.ML]
  simp only[Nat.zero_le,if_true,Nat.sub_zero]
  cases hd:args[t]? with
  |none=>exact trivial
  |some d=>
   have ht:t<vs.length:=by rw[hlen];exact(List.getElem?_eq_some_iff.1 hd).1
   have hv:(vs.toArray++Array.replicate (fn.ntmps-vs.toArray.size) undef).getD t undef=vs[t]:=by
    rw[Array.getD_eq_getD_getElem?,Array.getElem?_append]
    simp[ht]
   rw[hv]
   exact hrel t d _ hd (List.getElem?_eq_getElem ht)
 refine wp_mono (h _ (fun ex e' H' nx' d h1 h2 h4=>(⟨h1,d,h2,h4⟩:(ex= .normal∨ex= .ret)∧ ∃d,yT H' e' rs=some d∧K d H' nx')) code hcm c _ hs her hN) ?_
 rintro ex a w ⟨aex,e',H',nx',c',rfl,rfl,p1,p2,p3,p4,p5,p6,d,q1,q3⟩
 obtain⟨v,hv,hd⟩:=aa3 p1 p3 hr q1
 have hfin:a.defers=[]∧ ∃v,(results fn a.tmps).run P c'.w= .ok v c'.w∧ ∃v' c'' r H'' nx',Ending.returned v= .returned v'∧c''.w=c'.w∧St c'' H''∧Step c H c'' H''∧(∀i,c''.N i→c.N i∨(nx≤i∧i<nx'))∧nx≤nx'∧fD c'' r v'∧K r H'' nx':=
  ⟨p3.2.1,v,hv,v,c',d,H',nx',rfl,rfl,p1,p2,p4,p5,hd,q3⟩
 rcases p6 with rfl|rfl
 ·exact hfin
 ·exact hfin
def cJ (P:Program) (f:FuncId) (fn:Func) (ac:AC) (rs:List aW):Prop:=
 ∀{args:List D} {H:aA} {nx:Nat} {KK:D→aA→Nat→Prop} (_hl:Nat.ble args.length fn.ntmps=true)
  (_h: ∀Q:AQ,(∀ex e2 H2 nx2 d,ex= .normal∨ex= .ret→yT H2 e2 rs=some d→KK d H2 nx2→Q ex e2 H2 nx2)→aM P fn.ntmps [ac] (Env.args 0 args) H nx Q),aB P f args H nx KK
theorem cJ.mk {P:Program} {f:FuncId} {fn:Func} {ac:AC} {rs:List aW} {cs:List Cert}
 (hf:P.funcs[f]?=some fn) (hok:qY P f=true) (hc:aO P fn cs=some (ac,rs)):cJ P f fn ac rs:=by
 intro args H nx KK hl h
 unfold aO at hc
 split at hc
 ·rename_i b hb
  split at hc
  ·rename_i ac' cs' rs' h1 h2
   simp only[Option.some.injEq,Prod.mk.injEq] at hc
   obtain⟨rfl,rfl⟩:=hc
   exact aB.ofH hok hf hb h1 h2 (Nat.le_of_ble_eq_true hl) fun Q hQ=>(h Q hQ).run
  ·simp at hc
 ·simp at hc
end
def CvX (F:Nat→Prop) (nx:Nat) (H H':aA):Prop:=∀i o',H' i=some o'→¬F i∧ ∃o,H i=some o∧(o'=o∨CvO H F id nx o' o)
theorem MR {c:Cf} {nx:Nat} {I':Nat→Prop} (hI: ∀b,c.I b→I' b) (hN: ∀i,c.N i→i<nx) {d:D1} {x:Value} (h:Rel c d x):Rel (c.conv nx nx id I') d x:=by
 have h0: ∀d x,bY c d x→bY (c.conv nx nx id I') d x:=by
  intro d x h
  cases d<;>simp only[bY] at h ⊢ <;>first
   |exact h.wT hI (fun _ _=>rfl)
   |exact⟨h.1,h.2.imp (fun h=>h) fun⟨h1,h2,h3⟩=>⟨h1,.inl ⟨hN _ h2,h2⟩,h3⟩⟩
   |exact⟨.inl ⟨hN _ h.1,h.1⟩,h.2⟩
   |exact h
 cases d with
 |clo f caps=>obtain⟨vs,hx,hl,hf⟩:=h;exact⟨vs,hx,hl,fun i d u h1 h2=>h0 _ _ (hf i d u h1 h2)⟩
 |_=>simp only[Rel] at h ⊢;exact h0 _ _ h
theorem ac6 {c:Cf} {nx:Nat} {I':Nat→Prop} (hI: ∀b,c.I b→I' b) (hN: ∀i,c.N i→i<nx) {d:D} {x:Value} (h:fD c d x):fD (c.conv nx nx id I') d x:=by
 have hV: ∀d x,jZ c d x→jZ (c.conv nx nx id I') d x:=by
  intro d x h
  cases d with
  |c d=>exact MR hI hN h
  |agg cs=>obtain⟨vs,hx,hl,hf⟩:=h;exact⟨vs,hx,hl,fun i d u h1 h2=>MR hI hN (hf i d u h1 h2)⟩
 cases d with
 |one d=>exact hV d x h
 |tup ds=>obtain⟨vs,hx,hl,hf⟩:=h;exact⟨vs,hx,hl,fun i d u h1 h2=>hV d u (hf i d u h1 h2)⟩
 |dead=>trivial
theorem YO {c c0:Cf} {H H0 H':aA} {F:Nat→Prop} {nx:Nat} (hs:St c H) (hstep:Step c0 H0 c H) (hN: ∀i,c.N i→i<nx) (hH:CvX F nx H H'):
 St (c.conv nx nx id (c.frI H F)) H'∧Step c0 H0 (c.conv nx nx id (c.frI H F)) H':=by
 have hO: ∀{i:Nat} {o':bA},H' i=some o'→¬F i∧ ∃o,H i=some o∧o'.n=o.n∧o'.ext=o.ext∧o'.rows.length≤o.rows.length∧(o.n=0→o'.rows=[]→o.rows=[]):=by
  intro i o' h
  obtain⟨h1,o,h2,rfl|h3⟩:=hH i o' h
  ·exact⟨h1,_,h2,rfl,rfl,Nat.le_refl _,fun _ h=>h⟩
  ·exact⟨h1,o,h2,h3.1,h3.2.1,h3.2.2.1,h3.2.2.2.1⟩
 refine⟨?_,?_⟩
 ·refine {named:= ?_,wf:= ?_,blk:= ?_,cells:= ?_,sep:= ?_,imm:= ?_,old:= ?_}
  ·intro id o' h
   obtain⟨_,o,h2,_⟩:=hO h
   exact .inl ⟨hN _ (hs.named _ o h2),hs.named _ o h2⟩
  ·intro id o' h
   obtain⟨_,o,h2,rfl|⟨h3,h4,h5,_,h6⟩⟩:=hH id o' h
   ·exact hs.wf _ _ h2
   ·obtain⟨k1,k2⟩:=hs.wf _ o h2
    refine⟨by omega,fun i r hr=> ?_⟩
    obtain⟨r0,h7,h8⟩:=h6 i r hr
    rw[h8.1,k2 i r0 h7,h3]
  ·intro id o' h he
   obtain⟨_,o,h2,h3,h4,h5,h7⟩:=hO h
   exact(hs.blk _ o h2 (by omega)).arW h3 h4 fun h0=>⟨h7 h0,fun hr=>by rw[hr] at h5;exact List.length_eq_zero_iff.1 (by simpa using h5)⟩
  ·intro id o' i j r d h h1 h2
   obtain⟨_,o,k2,rfl|⟨k3,k4,k5,_,k6⟩⟩:=hH id o' h
   ·obtain⟨u,k9,k10⟩:=hs.cells _ _ i j r d k2 h1 h2
    exact⟨u,k9,MR (fun b h=>.inl h) hN k10⟩
   ·obtain⟨r0,k7,k8⟩:=k6 i r h1
    have hj:j<r0.length:=by rw[←k8.1];exact(List.getElem?_eq_some_iff.1 h2).1
    obtain⟨u,k9,k10⟩:=hs.cells _ o i j r0 _ k2 k7 (List.getElem?_eq_getElem hj)
    refine⟨u,by rw[k3];exact k9,?_⟩
    exact PM hs (fun b h=>.inl h) (fun id o h1 h2 h3=>.inr ⟨id,o,h1,h2,h3,rfl⟩) (fun _ _=>rfl) (k8.2 j d _ h2 (List.getElem?_eq_getElem hj)) k10
  ·intro i j o o' hi hj he he' hne
   obtain⟨_,o1,k2,k3,k4,_⟩:=hO hi
   obtain⟨_,o2,k6,k7,k8,_⟩:=hO hj
   exact hs.sep i j o1 o2 k2 k6 (by omega) (by omega) hne
  ·intro i o' h he
   obtain⟨hnF,o,h2,h3,h4,_⟩:=hO h
   rintro(hI|⟨id2,o2,k1,k2,k3,k4⟩)
   ·exact hs.imm _ o h2 (by omega) hI
   ·have hne:id2≠i:=by rintro rfl;exact hnF k1
    exact hs.sep id2 i o2 o k2 h2 k3 (by omega) hne k4
  ·rintro b (hI|⟨id2,o2,k1,k2,k3,rfl⟩)
   ·exact hs.old b hI
   ·exact(hs.blk id2 o2 k2 k3).lt
 ·exact {
   ρ:=fun i hid=>hstep.ρ i hid
   N:=fun i hid=>.inl ⟨hN i (hstep.N i hid),hstep.N i hid⟩
   I:=fun b hb=>.inl (hstep.I b hb)
   I':=by
    rintro b (hI|⟨id2,o2,k1,k2,k3,rfl⟩)
    ·exact hstep.I' b hI
    ·exact .inr (hstep.own _ ⟨id2,o2,k2,k3,rfl⟩)
   size:=hstep.size
   os:=hstep.os
   tape:=hstep.tape
   output:=hstep.output
   frame:=hstep.frame
   own:=by
    rintro b ⟨id,o',h,he,hb⟩
    obtain⟨_,o,h2,h3,h4,_⟩:=hO h
    exact hstep.own b ⟨id,o,h2,by omega,hb⟩}
theorem aK {nx:Nat} {H:aA}:CvX noF nx H H:=fun _ o h=>⟨fun h=>h,o,h,.inl rfl⟩
theorem aM.gP {P:Program} {T:Nat} {e:Env} {H:aA} {nx:Nat} {Q:AQ} {x:AC} {zs:List AC} {β:Type} (E:β→Env) (Φ:β→aA→Nat→Prop) (μ:β→Nat) (b0:β) (h0: ∃F H1,CvE H F id nx (E b0) e∧CvX F nx H H1∧Φ b0 H1 nx)
 (h: ∀b H1 nx1,nx≤nx1→Φ b H1 nx1→∀K:Env→aA→Nat→Prop,(∀e' H' nx' b' F H2,nx1≤nx'→μ b'<μ b→CvE H' F id nx' (E b') e'→CvX F nx' H' H2→Φ b' H2 nx'→K e' H' nx')→aM P T [x] (E b) H1 nx1 (AQ.then K Q)):aM P T (.loop x::zs) e H nx Q:=by
 intro code hc c a hs he hN
 obtain⟨F0,H0,g1,g2,g3⟩:=h0
 have hc0: ∀{c1:Cf} {H1 H2:aA} {nx1:Nat} {F:Nat→Prop} {e1 e2:Env} {a:Act},St c1 H1→Step c H c1 H1→(∀i,c1.N i→i<nx1)→ER c1 T e1 a→CvE H1 F id nx1 e2 e1→CvX F nx1 H1 H2→
  ∃c2:Cf,c2.w=c1.w∧St c2 H2∧Step c H c2 H2∧ER c2 T e2 a∧ ∀i,c2.N i→c1.N i:=by
  intro c1 H1 H2 nx1 F e1 e2 a k1 k2 k3 k4 k5 k6
  obtain⟨q1,q2⟩:=YO k1 k2 k3 k6
  refine⟨c1.conv nx1 nx1 id (c1.frI H1 F),rfl,q1,q2,⟨k4.1,k4.2.1,fun t=>zD k1 (fun b h=>.inl h) (fun id o h1 h2 h3=>.inr ⟨id,o,h1,h2,h3,rfl⟩) (fun _ _=>rfl) (k5 t) (k4.2.2 t)⟩,fun i hi=> ?_⟩
  rcases hi with⟨_,hi⟩|⟨h1,h2,h3⟩
  ·exact hi
  ·omega
 cases hc with
 |loop h1=>
  obtain⟨c1,r1,r2,r3,r4,r5⟩:=hc0 hs (Step.refl c H) hN he g1 g2
  refine wp_loop_ghost (fun n a w=>∃b c1 H1 nx1,μ b=n∧c1.w=w∧St c1 H1∧ER c1 T (E b) a∧Step c H c1 H1∧(∀i,c1.N i→c.N i∨(nx≤i∧i<nx1))∧nx≤nx1∧Φ b H1 nx1) (μ b0) ⟨b0,c1,H0,nx,rfl,r1,r2,r4,r3,fun i hi=>.inl (r5 i hi),Nat.le_refl _,g3⟩ ?_
  rintro n a w ⟨b,c1,H1,nx1,rfl,rfl,j1,j2,j3,j4,j5,j6⟩
  refine wp_mono (h b H1 nx1 j5 j6 (fun e' H' nx'=>∃b' F H2,nx1≤nx'∧μ b'<μ b∧CvE H' F id nx' (E b') e'∧CvX F nx' H' H2∧Φ b' H2 nx') (fun _ _ _ b' F H2 h1 h2 h3 h4 h5=>⟨b',F,H2,h1,h2,h3,h4,h5⟩) _ h1 c1 a j1 j2 fun i hi=> ?_) fun ex a' w' ⟨aex,e',H',nx',c',hp⟩=> ?_
  ·rcases j4 i hi with h|h
   ·have:=hN i h;omega
   ·omega
  ·obtain⟨rfl,rfl,p1,p2,p3,p4,p5,p6⟩:=hp
   have hNc: ∀i,c'.N i→c.N i∨(nx≤i∧i<nx'):=by
    intro i hi
    rcases p4 i hi with h|h
    ·rcases j4 i h with h|h
     ·exact .inl h
     ·exact .inr ⟨h.1,by omega⟩
    ·exact .inr ⟨by omega,h.2⟩
   cases aex with
   |normal=>
    obtain⟨b',F,H2,q1,q2,q3,q4,q5⟩:=p6
    obtain⟨c2,s1,s2,s3,s4,s5⟩:=hc0 p1 (j3.trans p2) (fun i hi=>by rcases hNc i hi with h|h;have:=hN i h;omega;exact h.2) p3 q3 q4
    exact⟨μ b',q2,b',c2,H2,nx',rfl,s1,s2,s4,s3,fun i hi=>hNc i (s5 i hi),by omega,q5⟩
   |exit id=>exact⟨.exit id,e',H',nx',c',rfl,rfl,p1,j3.trans p2,p3,hNc,by omega,p6⟩
   |ret=>exact⟨.ret,e',H',nx',c',rfl,rfl,p1,j3.trans p2,p3,hNc,by omega,p6⟩
theorem aB.tW {P:Program} {f:FuncId} {args:List D} {H:aA} {nx:Nat} {K:D→aA→Nat→Prop}
 (h:aB P f args H nx fun r H' n'=>∃r2 H2 F,CvD H' F id n' r2 r∧CvX F n' H' H2∧K r2 H2 n'):aB P f args H nx K:=by
 refine⟨h.1,fun c vs hs hN hl hr=> ?_⟩
 refine(h.2 c vs hs hN hl hr).mono ?_
 rintro x w' ⟨v,c2,r,H2,n2,rfl,rfl,p1,p2,p3,p4,p5,r2,H3,F,q1,q2,q3⟩
 have hN2: ∀i,c2.N i→i<n2:=fun i hi=>by
  rcases p3 i hi with h|h
  ·have:=hN i h;omega
  ·exact h.2
 obtain⟨k1,k2⟩:=YO p1 p2 hN2 q2
 refine⟨v,c2.conv n2 n2 id (c2.frI H2 F),r2,H3,n2,rfl,rfl,k1,k2,fun i hi=> ?_,p4,zD p1 (fun b h=>.inl h) (fun id o h1 h2 h3=>.inr ⟨id,o,h1,h2,h3,rfl⟩) (fun _ _=>rfl) q1 p5,q3⟩
 rcases hi with⟨_,hi⟩|⟨h1,h2,h3⟩
 ·exact p3 i hi
 ·omega
section
variable {P : Program} {T : Nat} {e : Env} {H : aA} {nx : Nat} {Q : AQ}
theorem AWP.tW {x:AC} (e':Env) (H':aA) (F:Nat→Prop) (hE: ∀t,e' t=e t∨CvD H F id nx (e' t) (e t)) (hH:CvX F nx H H') (h:AWP P T x e' H' nx Q):AWP P T x e H nx Q:=by
 intro code hc c a hs he hN
 obtain⟨k1,k2⟩:=YO hs (Step.refl c H) hN hH
 refine wp_mono (h code hc (c.conv nx nx id (c.frI H F)) a k1 ⟨he.1,he.2.1,fun t=> ?_⟩ fun i hi=> ?_) ?_
 ·rcases hE t with h1|h1
  ·rw[h1]
   exact ac6 (fun b h=>.inl h) hN (he.2.2 t)
  ·exact zD hs (fun b h=>.inl h) (fun id o h1 h2 h3=>.inr ⟨id,o,h1,h2,h3,rfl⟩) (fun _ _=>rfl) h1 (he.2.2 t)
 ·rcases hi with⟨_,hi⟩|⟨h1,h2,h3⟩
  ·exact hN i hi
  ·omega
 ·rintro ex a w ⟨aex,e',H',nx',c',rfl,rfl,p1,p2,p3,p4,p5,p6⟩
  refine⟨aex,e',H',nx',c',rfl,rfl,p1,k2.trans p2,p3,fun i hi=> ?_,p5,p6⟩
  rcases p4 i hi with h|h
  ·rcases h with⟨_,hi⟩|⟨h1,h2,h3⟩
   ·exact .inl hi
   ·omega
  ·exact .inr h
theorem aM.tW {x:AC} {zs:List AC} (e':Env) (H':aA) (F:Nat→Prop) (hE: ∀t,e' t=e t∨CvD H F id nx (e' t) (e t)) (hH:CvX F nx H H') (h:aM P T (x::zs) e' H' nx Q):aM P T (x::zs) e H nx Q:=AWP.tW e' H' F hE hH h
end
end Go.AM
end
section
namespace Go.AM
structure fC where
 who:Int
 n:Int
 left:Int
 deriving Inhabited,DecidableEq
structure fR where
 next:Int
 queue:List Int
 out:List fC
 last:Int
 deriving Inhabited,DecidableEq
structure nY where
 pipe:List fC
 done:List Job
 last:Int
 deriving Inhabited,DecidableEq
structure CSt where
 words:List Int
 holds:List Int
 bM:List fR
 dD:List nY
 told:List Job
 deriving Inhabited,DecidableEq
structure CIn where
 ready:List Bool
 n9:List Bool
 send:List Bool
 deriving Inhabited,DecidableEq
def gZ (m:List Rng) (q:Req):Int:=if bV m (bE q.addr q.many q.wrap)<0 then 3 else (m.getD (bV m (bE q.addr q.many q.wrap)).toNat default).K5
def aF (s:CSt) (k:Nat):fR:=s.bM.getD k default
def aL (s:CSt) (k:Nat):nY:=s.dD.getD k default
def jX (l:List Job):List Job:=l.foldl BM []
def jJ (s:CSt) (k:Nat):List Job:=(aF s k).queue.map fun n=>⟨k,n,oW⟩
def hJ (s:CSt) (k:Nat):List Job:=(aL s k).pipe.map fun j=>⟨j.who,j.n,oW⟩
def qU (s:CSt):List Job:=(List.range s.bM.length).flatMap (jJ s)++(List.range s.dD.length).flatMap (hJ s)
def uQ (s:CSt):List Job:=(List.range s.dD.length).flatMap fun k=>(aL s k).done
def cX (s:CSt):TSt:=⟨s.words,s.holds,s.bM.map (·.next),jX (qU s),jX (uQ s),s.told⟩
def B3 {α:Type} (l:List α) (k:Nat):List α:=l.take k++l.drop (k+1)
def isC (n:Int) (j:fC):Bool:=decide (j.n=n)
def PE (l:List fC) (n:Int):List fC:=B3 l (bK (isC n) l).toNat
inductive Mic where
 |tell (who st:Nat)
 |tick (st:Nat)
 |work (st:Nat)
 |adm (who st:Nat)
 |ask (who:Nat)
def HV (c:Cfg) (s:CSt) (who st:Nat):Prop:=0<(aF s who).queue.length∧(aF s who).out.length<4∧gZ c.map (bT c who ((aF s who).queue.getD 0 default))=st∧
 ∀j∈(aF s who).out,(bT c who j.n).id=(bT c who ((aF s who).queue.getD 0 default)).id→j.left=st
instance {c:Cfg} {s:CSt} {who st:Nat}:Decidable (HV c s who st):=by unfold HV;infer_instance
def iF (s:CSt) (st:Nat):Job:=(aL s st).done.getD 0 default
def bI (s:CSt) (st:Nat):fC:=(aL s st).pipe.getD 0 default
def jD (c:Cfg) (s:CSt) (st:Nat):(List Int×List Int)×Rsp:=doM c.map s.words s.holds (bI s st).who (bT c (bI s st).who (bI s st).n)
def aR (c:Cfg) (s:CSt):Mic→CSt
 | .tell who st=>{s with told:=s.told++[iF s st],dD:=s.dD.set st {aL s st with done:=(aL s st).done.drop 1},bM:=s.bM.set who {aF s who with out:=PE (aF s who).out (iF s st).n,last:=st}}
 | .tick st=>{s with dD:=s.dD.set st {aL s st with pipe:=(aL s st).pipe.set 0 {bI s st with left:=(bI s st).left-1}}}
 | .work st=>{s with words:=(jD c s st).1.1,holds:=(jD c s st).1.2,dD:=s.dD.set st {aL s st with pipe:=(aL s st).pipe.drop 1,done:=(aL s st).done++[⟨(bI s st).who,(bI s st).n,(jD c s st).2⟩]}}
 | .adm who st=>{s with bM:=s.bM.set who {aF s who with queue:=(aF s who).queue.drop 1,out:=(aF s who).out++[⟨who,(aF s who).queue.getD 0 default,st⟩]},dD:=s.dD.set st {aL s st with pipe:=(aL s st).pipe++[⟨who,(aF s who).queue.getD 0 default,c.lat.getD st default⟩],last:=who}}
 | .ask who=>{s with bM:=s.bM.set who {aF s who with queue:=(aF s who).queue++[(aF s who).next],next:=(aF s who).next+1}}
def y0 (s:CSt):Mic→List Ev
 | .tell who st=>[⟨3,who,(iF s st).n⟩]
 | .work st=>[⟨2,(bI s st).who,(bI s st).n⟩]
 | .ask who=>[⟨1,who,(aF s who).next⟩]
 |_=>[]
end Go.AM
end
section
namespace Go.AM
theorem pY {α:Type} [Inhabited α] {l:List α} {k i:Nat} {x:α} (hk:k<l.length):(l.set k x).getD i default=if i=k then x else l.getD i default:=by
 simp only[List.getD,List.getElem?_set]
 by_cases h:k=i
 ·subst h;simp[hk]
 ·simp[h,Ne.symm h,eq_comm]
structure mD (c:Cfg) (who:Nat) (p:fR):Prop where
 next:0≤p.next∧p.next≤(c.cP.getD who default).length
 ql:p.queue.length≤2∧(p.queue.length:Int)≤p.next
 ol:p.out.length≤4
 last:0≤p.last∧p.last≤3
 queue: ∀i,i<p.queue.length→p.queue.getD i default=p.next-p.queue.length+i
 out: ∀j∈p.out,j.who=who∧(0≤j.n∧j.n<p.next-p.queue.length)∧j.left=gZ c.map (bT c who j.n)
 acX:p.out.Pairwise fun a b=>a.n<b.n
 akF: ∀a∈p.out,∀b∈p.out,(bT c who a.n).id=(bT c who b.n).id→a.left=b.left
def cS (v:nY):List (Int×Int):=v.done.map key++v.pipe.map fun j=>(j.who,j.n)
structure Z0 (c:Cfg) (s:CSt) (st:Nat):Prop where
 pl:(aL s st).pipe.length≤2
 dl:(aL s st).done.length≤2
 last:0≤(aL s st).last∧(aL s st).last≤2
 inc:(cS (aL s st)).Pairwise fun a b=>a.1=b.1→a.2<b.2
 out: ∀x∈cS (aL s st),(0≤x.1∧x.1≤2)∧ ∃j∈(aF s x.1.toNat).out,j.n=x.2∧j.left=st
 rsp: ∀j∈(aL s st).done,as5 c j
 left: ∀i,i<(aL s st).pipe.length→(0≤((aL s st).pipe.getD i default).left∧((aL s st).pipe.getD i default).left≤c.lat.getD st default)∧(0<i→((aL s st).pipe.getD i default).left=c.lat.getD st default)
def hU (s:CSt) (k:Nat):Nat:=(aL s k).pipe.length+(aL s k).done.length
structure COk (c:Cfg) (s:CSt):Prop where
 atm:WK s.words s.holds
 pl:s.bM.length=3
 sl:s.dD.length=4
 port: ∀k,k<3→mD c k (aF s k)
 slv: ∀k,k<4→Z0 c s k
 count:(aF s 0).out.length+(aF s 1).out.length+(aF s 2).out.length=hU s 0+hU s 1+hU s 2+hU s 3
 st:BA c (cX s)
theorem COk.vIn {c:Cfg} {s:CSt} (h:COk c s) {st:Nat} (hs:st<4) {x:Int×Int} (hx:x∈cS (aL s st)):(0≤x.1∧x.1≤2)∧0≤x.2∧x.2<(aF s x.1.toNat).next-(aF s x.1.toNat).queue.length:=by
 obtain⟨h1,j,hj,h2,h3⟩:=(h.slv st hs).out x hx
 have:=(h.port x.1.toNat (by omega)).out j hj
 exact⟨h1,by omega,by omega⟩
theorem COk.same {c:Cfg} {s:CSt} (h:COk c s) {st st':Nat} (hs:st<4) (hs':st'<4) {x y:Int×Int} (hx:x∈cS (aL s st)) (hy:y∈cS (aL s st')) (he:x.1=y.1) (hi:(bT c x.1 x.2).id=(bT c y.1 y.2).id):st=st':=by
 obtain⟨h1,j,hj,h2,h3⟩:=(h.slv st hs).out x hx
 obtain⟨h4,j',hj',h5,h6⟩:=(h.slv st' hs').out y hy
 have hp:=h.port x.1.toNat (by omega)
 rw[←he] at hj'
 have:=hp.akF j hj j' hj' (by
  have e1:((x.1.toNat:Nat):Int)=x.1:=by omega
  rw[e1,h2,h5,hi,he])
 omega
end Go.AM
end
section
namespace Go.AM
end Go.AM
end
section
namespace Go.AM
theorem akU {α:Type} {l:List α} {k:Nat}:(B3 l k).Sublist l:=by
 unfold B3
 have h:=(List.Sublist.refl (l.take k)).append (List.drop_sublist_drop_left l (Nat.le_succ k))
 rwa [List.take_append_drop] at h
theorem TA {l:List fC} {n:Int}:(PE l n).Sublist l:=akU
theorem QF {α:Type} [Inhabited α] {l:List α} {i:Nat}:(l.drop 1).getD i default=l.getD (i+1) default:=by
 cases l with
 |nil=>simp
 |cons x l=>simp
theorem WI {α:Type} [Inhabited α] {l:List α} {x:α} {i:Nat}:(l++[x]).getD i default=if i=l.length then x else l.getD i default:=by
 simp only[List.getD,List.getElem?_append]
 split
 ·rw[if_neg (by omega)]
 ·split
  ·rename_i h;subst h;simp
  ·rename_i h1 h2
   rw[List.getElem?_eq_none (by simp;omega),List.getElem?_eq_none (by omega)]
theorem Z0.wT {c:Cfg} {s s':CSt} {st:Nat} (h:Z0 c s st) (he:aL s' st=aL s st) (ho: ∀x∈cS (aL s st),∀j∈(aF s x.1.toNat).out,j.n=x.2→j.left=st→j∈(aF s' x.1.toNat).out):Z0 c s' st:=by
 refine⟨by rw[he];exact h.pl,by rw[he];exact h.dl,by rw[he];exact h.last,by rw[he];exact h.inc,fun x hx=> ?_,by rw[he];exact h.rsp,by rw[he];exact h.left⟩
 rw[he] at hx
 obtain⟨q1,j,q2,q3,q4⟩:=h.out x hx
 exact⟨q1,j,ho x hx j q2 q3 q4,q3,q4⟩
theorem mD.tell {c:Cfg} {who:Nat} {p:fR} (h:mD c who p) {n:Int} {st:Nat} (hs:st<4):mD c who {p with out:=PE p.out n,last:=st}:=by
 have hm: ∀j∈PE p.out n,j∈p.out:=fun j hj=>TA.subset hj
 exact⟨h.next,h.ql,Nat.le_trans TA.length_le h.ol,by dsimp only;omega,h.queue,fun j hj=>h.out j (hm j hj),h.acX.sublist TA,fun a ha b hb=>h.akF a (hm a ha) b (hm b hb)⟩
theorem mD.adm {c:Cfg} {who:Nat} {p:fR} (h:mD c who p) {st:Nat} (h1:0<p.queue.length) (h2:p.out.length<4) (h3:gZ c.map (bT c who (p.queue.getD 0 default))=st)
 (h4: ∀j∈p.out,(bT c who j.n).id=(bT c who (p.queue.getD 0 default)).id→j.left=st):mD c who {p with queue:=p.queue.drop 1,out:=p.out++[⟨who,p.queue.getD 0 default,st⟩]}:=by
 have hq0:=h.queue 0 h1
 have hn:=h.next
 have hql:=h.ql
 have hl:(p.queue.drop 1).length=p.queue.length-1:=by simp
 refine⟨hn,by dsimp only;omega,by simp;omega,h.last,fun i hi=> ?_,fun j hj=> ?_,?_,fun a ha b hb hab=> ?_⟩
 ·dsimp only at hi ⊢
  rw[QF,h.queue (i+1) (by omega)];omega
 ·dsimp only at hj ⊢
  rcases List.mem_append.1 hj with hj|hj
  ·have:=h.out j hj
   exact⟨this.1,by omega,this.2.2⟩
  ·simp only[List.mem_singleton] at hj
   subst hj
   exact⟨rfl,by dsimp only;omega,h3.symm⟩
 ·dsimp only
  rw[List.pairwise_append]
  refine⟨h.acX,by simp,fun a ha b hb=> ?_⟩
  simp only[List.mem_singleton] at hb
  subst hb
  have:=(h.out a ha).2.1
  dsimp only;omega
 ·dsimp only at ha hb
  rcases List.mem_append.1 ha with ha|ha<;>rcases List.mem_append.1 hb with hb|hb
  ·exact h.akF a ha b hb hab
  ·simp only[List.mem_singleton] at hb;subst hb;exact h4 a ha hab
  ·simp only[List.mem_singleton] at ha;subst ha;exact(h4 b hb hab.symm).symm
  ·simp only[List.mem_singleton] at ha hb;subst ha;subst hb;rfl
theorem mD.ask {c:Cfg} {who:Nat} {p:fR} (h:mD c who p) (h1:p.queue.length<2) (h2:p.next<(c.cP.getD who default).length):mD c who {p with queue:=p.queue++[p.next],next:=p.next+1}:=by
 have hn:=h.next
 have hql:=h.ql
 refine⟨by dsimp only;omega,by simp;omega,h.ol,h.last,fun i hi=> ?_,fun j hj=> ?_,h.acX,h.akF⟩
 ·simp only[List.length_append,List.length_singleton] at hi ⊢
  rw[WI]
  split
  ·omega
  ·rw[h.queue i (by omega)];omega
 ·have:=h.out j hj
  refine⟨this.1,?_,this.2.2⟩
  simp only[List.length_append,List.length_singleton];omega
end Go.AM
end
section
namespace Go.AM
def dR (c:Cfg) (s:CSt) (l:List Mic):CSt:=l.foldl (aR c) s
def iP (c:Cfg):CSt→List Mic→List Ev
 |_,[]=>[]
 |s,m::l=>y0 s m++iP c (aR c s m) l
def sM (s:CSt) (st k:Nat):Nat:=(((aL s st).last+(k:Int))%3).toNat
def KE (c:Cfg) (s:CSt) (used:List Bool) (st who:Nat):Bool:= !(used.getD who default)&&decide (HV c s who st)
def AO (c:Cfg) (s:CSt) (used:List Bool) (st:Nat):Option Nat:=if (aL s st).pipe.length<2 then ([1,2,3].map (sM s st)).find? (KE c s used st) else none
def vE (c:Cfg) (f:CSt→Nat→Option Mic):CSt→List Nat→List Mic
 |_,[]=>[]
 |s,k::l=>match f s k with
  |none=>vE c f s l
  |some m=>m::vE c f (aR c s m) l
def oP (c:Cfg):CSt→List Bool→List Nat→List Mic
 |_,_,[]=>[]
 |s,u,st::l=>match AO c s u st with
  |none=>oP c s u l
  |some who=>.adm who st::oP c (aR c s (.adm who st)) (u.set who true) l
end Go.AM
end
section
namespace Go.AM
end Go.AM
end
section
namespace Go.AM
end Go.AM
end
section
namespace Go.AM
end Go.AM
end
section
namespace Go.AM
def eCJ (j:fC):List D1:=[cI j.who,cI j.n,cI j.left]
theorem anW {j:fC}:(eCJ j).length=3:=rfl
theorem aiX {j:fC}:(eCJ j).take 1=[cI j.who]:=rfl
theorem aiI {j:fC}:(eCJ j).drop 1=[cI j.n,cI j.left]:=rfl
theorem ah9 {j:fC}:(eCJ j).take 2=[cI j.who,cI j.n]:=rfl
theorem ajA {j:fC}:(eCJ j).drop 2=[cI j.left]:=rfl
theorem agT {j:fC}:(eCJ j).take 3=eCJ j:=rfl
theorem agG {j:fC}:(eCJ j).drop 3=[]:=rfl
theorem alE {j:fC} {cs:List D1} {k:Nat}:iA cs (k+1) (eCJ j)=iA cs (k+1) [cI j.who,cI j.n,cI j.left]:=rfl
attribute [go_sem] anW aiX aiI ah9 ajA agT agG alE
def cD (p:fR):List D1:=[cI p.next,.isl (p.queue.map aJ),.isl (p.out.map eCJ),cI p.last]
theorem ag6 {p:fR}:(cD p).length=4:=rfl
theorem ZZ {p:fR}:(cD p).take 1=[cI p.next]:=rfl
theorem abE {p:fR}:(cD p).drop 1=[.isl (p.queue.map aJ),.isl (p.out.map eCJ),cI p.last]:=rfl
theorem YU {p:fR}:(cD p).take 2=[cI p.next,.isl (p.queue.map aJ)]:=rfl
theorem ZM {p:fR}:(cD p).drop 2=[.isl (p.out.map eCJ),cI p.last]:=rfl
theorem aa2 {p:fR}:(cD p).take 3=[cI p.next,.isl (p.queue.map aJ),.isl (p.out.map eCJ)]:=rfl
theorem aa8 {p:fR}:(cD p).drop 3=[cI p.last]:=rfl
theorem abO {p:fR}:(cD p).take 4=cD p:=rfl
theorem aaG {p:fR}:(cD p).drop 4=[]:=rfl
theorem aeM {p:fR} {cs:List D1} {k:Nat}:iA cs (k+1) (cD p)=iA cs (k+1) [cI p.next,.isl (p.queue.map aJ),.isl (p.out.map eCJ),cI p.last]:=rfl
attribute [go_sem] ag6 ZZ abE YU ZM aa2 aa8 abO aaG aeM
def gF (v:nY):List D1:=[.isl (v.pipe.map eCJ),.isl (v.done.map aS),cI v.last]
theorem amX {v:nY}:(gF v).length=3:=rfl
theorem ad9 {v:nY}:(gF v).take 1=[.isl (v.pipe.map eCJ)]:=rfl
theorem aeY {v:nY}:(gF v).drop 1=[.isl (v.done.map aS),cI v.last]:=rfl
theorem ab2 {v:nY}:(gF v).take 2=[.isl (v.pipe.map eCJ),.isl (v.done.map aS)]:=rfl
theorem ac3 {v:nY}:(gF v).drop 2=[cI v.last]:=rfl
theorem ad6 {v:nY}:(gF v).take 3=gF v:=rfl
theorem adW {v:nY}:(gF v).drop 3=[]:=rfl
theorem ahZ {v:nY} {cs:List D1} {k:Nat}:iA cs (k+1) (gF v)=iA cs (k+1) [.isl (v.pipe.map eCJ),.isl (v.done.map aS),cI v.last]:=rfl
attribute [go_sem] amX ad9 aeY ab2 ac3 ad6 adW ahZ
def eI (s:CSt):List D1:=[.isl (s.words.map aJ),.isl (s.holds.map aJ),.isl (s.bM.map cD),.isl (s.dD.map gF),.isl (s.told.map aS)]
theorem ajM {s:CSt}:(eI s).length=5:=rfl
theorem adQ {s:CSt}:(eI s).take 1=[.isl (s.words.map aJ)]:=rfl
theorem acL {s:CSt}:(eI s).drop 1=[.isl (s.holds.map aJ),.isl (s.bM.map cD),.isl (s.dD.map gF),.isl (s.told.map aS)]:=rfl
theorem aeK {s:CSt}:(eI s).take 2=[.isl (s.words.map aJ),.isl (s.holds.map aJ)]:=rfl
theorem aeQ {s:CSt}:(eI s).drop 2=[.isl (s.bM.map cD),.isl (s.dD.map gF),.isl (s.told.map aS)]:=rfl
theorem adC {s:CSt}:(eI s).take 3=[.isl (s.words.map aJ),.isl (s.holds.map aJ),.isl (s.bM.map cD)]:=rfl
theorem adP {s:CSt}:(eI s).drop 3=[.isl (s.dD.map gF),.isl (s.told.map aS)]:=rfl
theorem ab6 {s:CSt}:(eI s).take 4=[.isl (s.words.map aJ),.isl (s.holds.map aJ),.isl (s.bM.map cD),.isl (s.dD.map gF)]:=rfl
theorem aeD {s:CSt}:(eI s).drop 4=[.isl (s.told.map aS)]:=rfl
theorem ac5 {s:CSt}:(eI s).take 5=eI s:=rfl
theorem aeA {s:CSt}:(eI s).drop 5=[]:=rfl
theorem aiO {s:CSt} {cs:List D1} {k:Nat}:iA cs (k+1) (eI s)=iA cs (k+1) [.isl (s.words.map aJ),.isl (s.holds.map aJ),.isl (s.bM.map cD),.isl (s.dD.map gF),.isl (s.told.map aS)]:=rfl
attribute [go_sem] ajM adQ acL aeK aeQ adC adP ab6 aeD ac5 aeA aiO
def eH (b:Bool):List D1:=[cB b]
theorem ai9 {b:Bool}:(eH b).length=1:=rfl
theorem abL {b:Bool}:(eH b).take 1=[cB b]:=rfl
theorem aaB {b:Bool}:(eH b).drop 1=[]:=rfl
theorem abX {b:Bool} {cs:List D1} {k:Nat}:iA cs (k+1) (eH b)=iA cs (k+1) [cB b]:=rfl
attribute [go_sem] ai9 abL aaB abX
def eIn (i:CIn):List D1:=[.isl (i.ready.map eH),.isl (i.n9.map eH),.isl (i.send.map eH)]
theorem aoW {i:CIn}:(eIn i).length=3:=rfl
theorem agD {i:CIn}:(eIn i).take 1=[.isl (i.ready.map eH)]:=rfl
theorem ah2 {i:CIn}:(eIn i).drop 1=[.isl (i.n9.map eH),.isl (i.send.map eH)]:=rfl
theorem aiC {i:CIn}:(eIn i).take 2=[.isl (i.ready.map eH),.isl (i.n9.map eH)]:=rfl
theorem agZ {i:CIn}:(eIn i).drop 2=[.isl (i.send.map eH)]:=rfl
theorem ajC {i:CIn}:(eIn i).take 3=eIn i:=rfl
theorem agB {i:CIn}:(eIn i).drop 3=[]:=rfl
theorem al9 {i:CIn} {cs:List D1} {k:Nat}:iA cs (k+1) (eIn i)=iA cs (k+1) [.isl (i.ready.map eH),.isl (i.n9.map eH),.isl (i.send.map eH)]:=rfl
attribute [go_sem] aoW agD ah2 aiC agZ ajC agB al9
structure tZ (H:aA) (n id off len cap:Nat) (R:List (List D1)):Prop where
 ex: ∃m rows,H id=some ⟨n,m,rows⟩∧rows.drop off=R∧off+len≤rows.length∧len=R.length∧len≤cap∧off+cap≤m
def af5 (nq no:Nat) (p:fR) (qo qc oc:Nat):List D1:=[cI p.next,.osl 1 nq qo p.queue.length qc,.osl 3 no 0 p.out.length oc,cI p.last]
def aj9 (np nd:Nat) (v:nY) (po pc do_ dc:Nat):List D1:=[.osl 3 np po v.pipe.length pc,.osl 5 nd do_ v.done.length dc,cI v.last]
structure CX (H:aA) (nq no:Nat) (p:fR) (r:List D1):Prop where
 ex: ∃qo qc oc,r=af5 nq no p qo qc oc∧tZ H 1 nq qo p.queue.length qc (p.queue.map aJ)∧tZ H 3 no 0 p.out.length oc (p.out.map eCJ)
structure LJ (H:aA) (np nd:Nat) (v:nY) (r:List D1):Prop where
 ex: ∃po pc do_ dc,r=aj9 np nd v po pc do_ dc∧tZ H 3 np po v.pipe.length pc (v.pipe.map eCJ)∧tZ H 5 nd do_ v.done.length dc (v.done.map aS)
def U2 (nm:Nat→Nat) (s:CSt) (wc hc pc vc tc:Nat):List D1:=[.osl 1 (nm 0) 0 s.words.length wc,.osl 1 (nm 1) 0 s.holds.length hc,.osl 4 (nm 2) 0 3 pc,.osl 3 (nm 3) 0 4 vc,.osl 5 (nm 4) 0 s.told.length tc]
structure abY (H:aA) (nm:Nat→Nat) (s:CSt) (cells:List D1):Prop where
 ex: ∃wc hc pc vc tc,cells=U2 nm s wc hc pc vc tc∧tZ H 1 (nm 0) 0 s.words.length wc (s.words.map aJ)∧tZ H 1 (nm 1) 0 s.holds.length hc (s.holds.map aJ)∧tZ H 5 (nm 4) 0 s.told.length tc (s.told.map aS)∧
  3≤pc∧4≤vc
 bM: ∃m rows,H (nm 2)=some ⟨4,m,rows⟩∧rows.length=3∧ ∀k,k<3→∃r,rows[k]?=some r∧CX H (nm (5+k)) (nm (8+k)) (aF s k) r
 dD: ∃m rows,H (nm 3)=some ⟨3,m,rows⟩∧rows.length=4∧ ∀k,k<4→∃r,rows[k]?=some r∧LJ H (nm (11+k)) (nm (15+k)) (aL s k) r
structure Names (X:Nat→Prop) (nx:Nat) (nm:Nat→Nat):Prop where
 inj: ∀j k,j<19→k<19→nm j=nm k→j=k
 lt: ∀k,k<19→nm k<nx
 av: ∀k,k<19→¬X (nm k)
structure Rep (X:Nat→Prop) (H:aA) (nx i0:Nat) (nm:Nat→Nat) (s:CSt):Prop where
 st: ∃cells,H i0=some ⟨5,1,[cells]⟩∧abY H nm s cells
 names:Names X nx nm
 ne: ∀k,k<19→nm k≠i0
 i0:i0<nx∧ ¬X i0
 x: ∀id,X id→id<nx
def aqA (Y:Nat→Prop) (H:aA) (nx i1:Nat) (es:List Ev) (d:D1):Prop:=
 (es=[]∧d= .osl 0 0 0 0 0)∨ ∃ev cap,d= .osl 3 ev 0 es.length cap∧tZ H 3 ev 0 es.length cap (es.map eEv)∧ev<nx∧ ¬Y ev∧ev≠i1
structure aiW (Y:Nat→Prop) (H:aA) (nx i1:Nat) (es:List Ev):Prop where
 ex: ∃d a b c e,H i1=some ⟨5,1,[[d,cI a,cI b,cI c,cI e]]⟩∧aqA Y H nx i1 es d
 i1:i1<nx∧ ¬Y i1
 y: ∀id,Y id→id<nx
theorem aA.aC {H:aA} {a i:Nat} {o:bA} (h:i≠a):H.set a o i=H i:=if_neg h
theorem aA.bH {H:aA} {a:Nat} {o:bA}:H.set a o a=some o:=if_pos rfl
theorem aA.jG {H:aA} {a i:Nat} (h:i≠a):H.del a i=H i:=if_neg h
def eZ (x:Nat):List Nat→Prop
 | []=>True
 |y::l=>((x=y)=False∧(y=x)=False)∧eZ x l
def bQ (nx:Nat):List Nat→Prop
 | []=>True
 |x::l=>((∀k,(x=nx+k)=False)∧(∀k,(nx+k=x)=False)∧(x=nx)=False∧(nx=x)=False)∧eZ x l∧bQ nx l
theorem apZ {x:Nat}: ∀{l:List Nat},x∉l→eZ x l
 | [],_=>trivial
 |y::l,h=>by
  rw[List.mem_cons,not_or] at h
  exact⟨⟨eq_false h.1,eq_false (Ne.symm h.1)⟩,apZ h.2⟩
theorem apart {nx:Nat}: ∀{l:List Nat},l.Nodup→(∀x∈l,x<nx)→bQ nx l
 | [],_,_=>trivial
 |x::l,h,hl=>by
  rw[List.nodup_cons] at h
  have hx:=hl x (by simp)
  exact⟨⟨fun k=>eq_false (by omega),fun k=>eq_false (by omega),eq_false (by omega),eq_false (by omega)⟩,apZ h.1,apart h.2 fun y hy=>hl y (List.mem_cons_of_mem _ hy)⟩
theorem Names.list {X:Nat→Prop} {nx:Nat} {nm:Nat→Nat} (h:Names X nx nm): ∀{l:List Nat},l.Nodup→(∀k∈l,k<19)→(l.map nm).Nodup
 | [],_,_=>List.Pairwise.nil
 |k::l,hn,hl=>by
  rw[List.nodup_cons] at hn
  rw[List.map_cons,List.nodup_cons]
  refine⟨fun hm=> ?_,h.list hn.2 fun j hj=>hl j (List.mem_cons_of_mem _ hj)⟩
  obtain⟨j,hj,he⟩:=List.mem_map.1 hm
  exact hn.1 (h.inj j k (hl j (List.mem_cons_of_mem _ hj)) (hl k (by simp)) he▸hj)
theorem Rep.apart {X:Nat→Prop} {H:aA} {nx nx' i0:Nat} {nm:Nat→Nat} {s:CSt} (h:Rep X H nx i0 nm s) (ext l:List Nat) (hx:nx≤nx') (he:ext.Nodup) (heX: ∀x∈ext,X x) (hn:l.Nodup) (hl: ∀k∈l,k<19):bQ nx' (ext++i0::l.map nm):=by
 refine AM.apart (List.nodup_append.2 ⟨he,List.nodup_cons.2 ⟨fun hm=> ?_,h.names.list hn hl⟩,fun a ha b hb hab=> ?_⟩) fun x hx=> ?_
 ·obtain⟨j,hj,he⟩:=List.mem_map.1 hm
  exact h.ne j (hl j hj) he
 ·subst hab
  rcases List.mem_cons.1 hb with rfl|hb
  ·exact h.i0.2 (heX _ ha)
  ·obtain⟨j,hj,rfl⟩:=List.mem_map.1 hb
   exact h.names.av j (hl j hj) (heX _ ha)
 ·rcases List.mem_append.1 hx with hx|hx
  ·have:=h.x x (heX x hx);omega
  ·rcases List.mem_cons.1 hx with rfl|hx
   ·have:=h.i0.1;omega
   ·obtain⟨j,hj,rfl⟩:=List.mem_map.1 hx
    have:=h.names.lt j (hl j hj);omega
theorem tZ.frame {H H':aA} {n id off len cap:Nat} {R:List (List D1)} (h:tZ H n id off len cap R) (he:H' id=H id):tZ H' n id off len cap R:=by
 obtain⟨m,rows,h1,h2⟩:=h.ex
 exact⟨m,rows,by rw[he,h1],h2⟩
theorem CX.frame {H H':aA} {nq no:Nat} {p:fR} {r:List D1} (h:CX H nq no p r) (h1:H' nq=H nq) (h2:H' no=H no):CX H' nq no p r:=by
 obtain⟨qo,qc,oc,e,q1,q2⟩:=h.ex
 exact⟨qo,qc,oc,e,q1.frame h1,q2.frame h2⟩
theorem LJ.frame {H H':aA} {np nd:Nat} {v:nY} {r:List D1} (h:LJ H np nd v r) (h1:H' np=H np) (h2:H' nd=H nd):LJ H' np nd v r:=by
 obtain⟨po,pc,do_,dc,e,q1,q2⟩:=h.ex
 exact⟨po,pc,do_,dc,e,q1.frame h1,q2.frame h2⟩
theorem Rep.upd {X:Nat→Prop} {H H':aA} {nx nx' i0:Nat} {nm nm':Nat→Nat} {s s':CSt} {who st:Nat} (h:Rep X H nx i0 nm s) (hx:nx≤nx') (hN:Names X nx' nm') (hne: ∀k,k<19→nm' k≠i0)
 (hk: ∀k,k<19→k≠4→k≠5+who→k≠8+who→k≠11+st→k≠15+st→nm' k=nm k) (hfr: ∀k,5≤k→k<19→k≠5+who→k≠8+who→k≠11+st→k≠15+st→H' (nm k)=H (nm k))
 (e1: ∃wc hc pc vc tc,H' i0=some ⟨5,1,[U2 nm' s' wc hc pc vc tc]⟩∧tZ H' 1 (nm' 0) 0 s'.words.length wc (s'.words.map aJ)∧tZ H' 1 (nm' 1) 0 s'.holds.length hc (s'.holds.map aJ)∧tZ H' 5 (nm' 4) 0 s'.told.length tc (s'.told.map aS)∧3≤pc∧4≤vc)
 (e2: ∃m rows m0 rows0,H (nm 2)=some ⟨4,m0,rows0⟩∧H' (nm 2)=some ⟨4,m,rows⟩∧rows.length=3∧(∀k,k<3→k≠who→rows[k]?=rows0[k]?)∧(who<3→∃r,rows[who]?=some r∧CX H' (nm' (5+who)) (nm' (8+who)) (aF s' who) r))
 (e3: ∃m rows m0 rows0,H (nm 3)=some ⟨3,m0,rows0⟩∧H' (nm 3)=some ⟨3,m,rows⟩∧rows.length=4∧(∀k,k<4→k≠st→rows[k]?=rows0[k]?)∧(st<4→∃r,rows[st]?=some r∧LJ H' (nm' (11+st)) (nm' (15+st)) (aL s' st) r))
 (hw:who<3∨who=14) (hs:st<4∨st=8) (hp: ∀k,k<3→k≠who→aF s' k=aF s k) (hv: ∀k,k<4→k≠st→aL s' k=aL s k):Rep X H' nx' i0 nm' s':=by
 obtain⟨⟨cells,hi0,hex,hports,hslvs⟩,hnames,hne0,hi1,hX⟩:=h
 refine⟨?_,hN,hne,⟨by omega,hi1.2⟩,fun id hid=>by have:=hX id hid;omega⟩
 obtain⟨wc,hc,pc,vc,tc,q1,q2⟩:=e1
 refine⟨_,q1,⟨wc,hc,pc,vc,tc,rfl,q2⟩,?_,?_⟩
 ·obtain⟨m,rows,m0,rows0,g1,g2,g3,g4,g5⟩:=e2
  obtain⟨m1,rows1,j1,j2,j3⟩:=hports
  rw[g1] at j1
  obtain⟨_,rfl,rfl⟩:4=4∧m0=m1∧rows0=rows1:=by simpa using j1
  refine⟨m,rows,by rw[hk 2 (by omega) (by omega) (by omega) (by omega) (by omega) (by omega)];exact g2,g3,fun k hk3=> ?_⟩
  by_cases hkw:k=who
  ·subst hkw;exact g5 hk3
  ·obtain⟨r,j4,j5⟩:=j3 k hk3
   refine⟨r,by rw[g4 k hk3 hkw];exact j4,?_⟩
   rw[hp k hk3 hkw,hk (5+k) (by omega) (by omega) (by omega) (by omega) (by omega) (by omega),hk (8+k) (by omega) (by omega) (by omega) (by omega) (by omega) (by omega)]
   exact j5.frame (hfr _ (by omega) (by omega) (by omega) (by omega) (by omega) (by omega)) (hfr _ (by omega) (by omega) (by omega) (by omega) (by omega) (by omega))
 ·obtain⟨m,rows,m0,rows0,g1,g2,g3,g4,g5⟩:=e3
  obtain⟨m1,rows1,j1,j2,j3⟩:=hslvs
  rw[g1] at j1
  obtain⟨_,rfl,rfl⟩:3=3∧m0=m1∧rows0=rows1:=by simpa using j1
  refine⟨m,rows,by rw[hk 3 (by omega) (by omega) (by omega) (by omega) (by omega) (by omega)];exact g2,g3,fun k hk3=> ?_⟩
  by_cases hkw:k=st
  ·subst hkw;exact g5 hk3
  ·obtain⟨r,j4,j5⟩:=j3 k hk3
   refine⟨r,by rw[g4 k hk3 hkw];exact j4,?_⟩
   rw[hv k hk3 hkw,hk (11+k) (by omega) (by omega) (by omega) (by omega) (by omega) (by omega),hk (15+k) (by omega) (by omega) (by omega) (by omega) (by omega) (by omega)]
   exact j5.frame (hfr _ (by omega) (by omega) (by omega) (by omega) (by omega) (by omega)) (hfr _ (by omega) (by omega) (by omega) (by omega) (by omega) (by omega))
theorem Rep.frame {X X':Nat→Prop} {H H':aA} {nx nx' i0:Nat} {nm:Nat→Nat} {s:CSt} (h:Rep X H nx i0 nm s) (hx:nx≤nx') (h0:H' i0=H i0) (hfr: ∀k,k<19→H' (nm k)=H (nm k)) (hX: ∀id,X' id→id<nx'∧id≠i0∧ ∀k,k<19→id≠nm k):Rep X' H' nx' i0 nm s:=by
 obtain⟨⟨cells,hi0,⟨wc,hc,pc,vc,tc,q1,q2,q3,q4,q5⟩,⟨m,rows,j1,j2,j3⟩,⟨m',rows',j4,j5,j6⟩⟩,hnames,hne0,hi1,_⟩:=h
 refine⟨⟨cells,by rw[h0];exact hi0,⟨wc,hc,pc,vc,tc,q1,q2.frame (hfr _ (by omega)),q3.frame (hfr _ (by omega)),q4.frame (hfr _ (by omega)),q5⟩,⟨m,rows,by rw[hfr 2 (by omega)];exact j1,j2,fun k hk=> ?_⟩,⟨m',rows',by rw[hfr 3 (by omega)];exact j4,j5,fun k hk=> ?_⟩⟩,
  ⟨hnames.inj,fun k hk=>by have:=hnames.lt k hk;omega,fun k hk hn=>(hX _ hn).2.2 k hk rfl⟩,hne0,⟨by omega,fun hn=>(hX _ hn).2.1 rfl⟩,fun id hid=>(hX id hid).1⟩
 ·obtain⟨r,k1,k2⟩:=j3 k hk
  exact⟨r,k1,k2.frame (hfr _ (by omega)) (hfr _ (by omega))⟩
 ·obtain⟨r,k1,k2⟩:=j6 k hk
  exact⟨r,k1,k2.frame (hfr _ (by omega)) (hfr _ (by omega))⟩
def put (nm:Nat→Nat) (k v:Nat):Nat→Nat:=fun j=>if j=k then v else nm j
theorem t8 {nm:Nat→Nat} {k v:Nat}:put nm k v k=v:=if_pos rfl
theorem jE {nm:Nat→Nat} {k v j:Nat} (h:j≠k):put nm k v j=nm j:=if_neg h
theorem Names.mono {X:Nat→Prop} {nx nx':Nat} {nm:Nat→Nat} (h:Names X nx nm) (hx:nx≤nx'):Names X nx' nm:=
 ⟨h.inj,fun k hk=>by have:=h.lt k hk;omega,h.av⟩
theorem Names.put {X:Nat→Prop} {nx nx':Nat} {nm:Nat→Nat} {k v:Nat} (h:Names X nx nm) (h1:nx≤v) (h2:v<nx') (hX: ¬X v):Names X nx' (put nm k v):=by
 refine⟨fun i j hi hj he=> ?_,fun j hj=> ?_,fun j hj=> ?_⟩
 ·have a:=h.lt i hi
  have b:=h.lt j hj
  have c:=h.inj i j hi hj
  unfold AM.put at he
  split at he<;>split at he<;>omega
 ·have:=h.lt j hj
  unfold AM.put;split<;>omega
 ·unfold AM.put;split
  ·exact hX
  ·exact h.av j hj
structure l9 (X:Nat→Prop) (H:aA) (nx i0 i1:Nat) (nm:Nat→Nat) (s:CSt) (es:List Ev):Prop where
 rep:Rep (fun id=>X id∨id=i1) H nx i0 nm s
 hap:aiW (fun id=>X id∨id=i0∨ ∃k,k<19∧id=nm k) H nx i1 es
theorem aiW.frame {Y Y':Nat→Prop} {H H':aA} {nx nx' i1:Nat} {es:List Ev} (h:aiW Y H nx i1 es) (hx:nx≤nx') (h1:H' i1=H i1) (hfr: ∀id,id<nx→¬Y id→H' id=H id) (hY: ∀id,Y' id→id<nx'∧(Y id∨nx≤id)):aiW Y' H' nx' i1 es:=by
 obtain⟨⟨d,a,b,c,e,g1,g2⟩,g3,g4⟩:=h
 have hn: ∀id,id<nx→¬Y id→¬Y' id:=fun id h1 h2 h3=>by
  rcases(hY id h3).2 with h|h
  ·exact h2 h
  ·omega
 refine⟨⟨d,a,b,c,e,by rw[h1];exact g1,?_⟩,⟨by omega,hn _ g3.1 g3.2⟩,fun id h=>(hY id h).1⟩
 rcases g2 with g2|⟨ev,cap,k1,k2,k3,k4,k5⟩
 ·exact .inl g2
 ·exact .inr ⟨ev,cap,k1,k2.frame (hfr _ k3 k4),by omega,hn _ k3 k4,k5⟩
theorem l9.next {X X2:Nat→Prop} {H H2:aA} {nx nx2 i0 i1:Nat} {nm:Nat→Nat} {s:CSt} {es:List Ev} (h:l9 X H nx i0 i1 nm s es) (hx:nx≤nx2) (hfr: ∀id,id<nx→¬X id→H2 id=H id) (hX: ∀id,X2 id→id<nx2∧(X id∨nx≤id)):l9 X2 H2 nx2 i0 i1 nm s es:=by
 have hi0:=h.rep.i0
 have hi1:=h.hap.i1
 have hav:=h.rep.names.av
 have hlt:=h.rep.names.lt
 refine⟨h.rep.frame hx (hfr i0 hi0.1 fun hn=>hi0.2 (.inl hn)) (fun k hk=>hfr _ (hlt k hk) fun hn=>hav k hk (.inl hn)) fun id hid=> ?_,h.hap.frame hx (hfr i1 hi1.1 fun hn=>hi1.2 (.inl hn)) (fun id h1 h2=>hfr id h1 fun hn=>h2 (.inl hn)) fun id hid=> ?_⟩
 ·rcases hid with hid|rfl
  ·obtain⟨q1,q2⟩:=hX id hid
   refine⟨q1,?_,fun k hk=> ?_⟩
   ·rintro rfl
    rcases q2 with q2|q2
    ·exact hi0.2 (.inl q2)
    ·omega
   ·rintro rfl
    have:=hlt k hk
    rcases q2 with q2|q2
    ·exact hav k hk (.inl q2)
    ·omega
  ·refine⟨by omega,fun he=>hi0.2 (.inr he.symm),fun k hk he=>hav k hk (.inr he.symm)⟩
 ·rcases hid with hid|rfl|⟨k,hk,rfl⟩
  ·obtain⟨q1,q2⟩:=hX id hid
   exact⟨q1,q2.imp .inl fun h=>h⟩
  ·exact⟨by omega,.inl (.inr (.inl rfl))⟩
  ·have:=hlt k hk
   exact⟨by omega,.inl (.inr (.inr ⟨k,hk,rfl⟩))⟩
theorem l9.mono {X:Nat→Prop} {H:aA} {nx nx2 i0 i1:Nat} {nm:Nat→Nat} {s:CSt} {es:List Ev} (h:l9 X H nx i0 i1 nm s es) (hx:nx≤nx2):l9 X H nx2 i0 i1 nm s es:=
 h.next hx (fun _ _ _=>rfl) fun id hid=>⟨by have:=h.rep.x id (.inl hid);omega,.inl hid⟩
theorem Rep.get {X:Nat→Prop} {H:aA} {nx i0:Nat} {nm:Nat→Nat} {s:CSt} (h:Rep X H nx i0 nm s):
 ∃wc hc pc vc tc mp rp mv rv,H i0=some ⟨5,1,[[.osl 1 (nm 0) 0 s.words.length wc,.osl 1 (nm 1) 0 s.holds.length hc,.osl 4 (nm 2) 0 3 pc,.osl 3 (nm 3) 0 4 vc,.osl 5 (nm 4) 0 s.told.length tc]]⟩∧H (nm 2)=some ⟨4,mp,rp⟩∧H (nm 3)=some ⟨3,mv,rv⟩∧
  tZ H 1 (nm 0) 0 s.words.length wc (s.words.map aJ)∧tZ H 1 (nm 1) 0 s.holds.length hc (s.holds.map aJ)∧tZ H 5 (nm 4) 0 s.told.length tc (s.told.map aS)∧3≤pc∧4≤vc∧rp.length=3∧rv.length=4∧
  (∀k,k<3→∃qo qc oc,rp[k]?=some [cI (aF s k).next,.osl 1 (nm (5+k)) qo (aF s k).queue.length qc,.osl 3 (nm (8+k)) 0 (aF s k).out.length oc,cI (aF s k).last]∧tZ H 1 (nm (5+k)) qo (aF s k).queue.length qc ((aF s k).queue.map aJ)∧tZ H 3 (nm (8+k)) 0 (aF s k).out.length oc ((aF s k).out.map eCJ))∧
  ∀k,k<4→∃po pc do_ dc,rv[k]?=some [.osl 3 (nm (11+k)) po (aL s k).pipe.length pc,.osl 5 (nm (15+k)) do_ (aL s k).done.length dc,cI (aL s k).last]∧tZ H 3 (nm (11+k)) po (aL s k).pipe.length pc ((aL s k).pipe.map eCJ)∧tZ H 5 (nm (15+k)) do_ (aL s k).done.length dc ((aL s k).done.map aS):=by
 obtain⟨cells,hi0,⟨wc,hc,pc,vc,tc,rfl,q1,q2,q3,q4,q5⟩,⟨mp,rp,j1,j2,j3⟩,⟨mv,rv,j4,j5,j6⟩⟩:=h.st
 refine⟨wc,hc,pc,vc,tc,mp,rp,mv,rv,hi0,j1,j4,q1,q2,q3,q4,q5,j2,j5,fun k hk=> ?_,fun k hk=> ?_⟩
 ·obtain⟨r,h1,⟨qo,qc,oc,rfl,h2⟩⟩:=j3 k hk
  exact⟨qo,qc,oc,h1,h2⟩
 ·obtain⟨r,h1,⟨po,pc,do_,dc,rfl,h2⟩⟩:=j6 k hk
  exact⟨po,pc,do_,dc,h1,h2⟩
theorem l9.upd {X:Nat→Prop} {H H':aA} {nx nx' i0 i1:Nat} {nm:Nat→Nat} {s:CSt} {es:List Ev} (h:l9 X H nx i0 i1 nm s es) (who st:Nat) (nm':Nat→Nat) (s':CSt) (hx:nx≤nx') (hN:Names (fun id=>X id∨id=i1) nx' nm')
 (hk: ∀k,k<19→nm' k=nm k∨((k=4∨k=5+who∨k=8+who∨k=11+st∨k=15+st)∧nx≤nm' k))
 (hfr: ∀id,id<nx→id≠i0→(∀k,k<5∨k=5+who∨k=8+who∨k=11+st∨k=15+st→k<19→id≠nm k)→H' id=H id)
 (e1: ∃wc hc pc vc tc,H' i0=some ⟨5,1,[U2 nm' s' wc hc pc vc tc]⟩∧tZ H' 1 (nm' 0) 0 s'.words.length wc (s'.words.map aJ)∧tZ H' 1 (nm' 1) 0 s'.holds.length hc (s'.holds.map aJ)∧tZ H' 5 (nm' 4) 0 s'.told.length tc (s'.told.map aS)∧3≤pc∧4≤vc)
 (e2: ∃m rows m0 rows0,H (nm 2)=some ⟨4,m0,rows0⟩∧H' (nm 2)=some ⟨4,m,rows⟩∧rows.length=3∧(∀k,k<3→k≠who→rows[k]?=rows0[k]?)∧(who<3→∃r,rows[who]?=some r∧CX H' (nm' (5+who)) (nm' (8+who)) (aF s' who) r))
 (e3: ∃m rows m0 rows0,H (nm 3)=some ⟨3,m0,rows0⟩∧H' (nm 3)=some ⟨3,m,rows⟩∧rows.length=4∧(∀k,k<4→k≠st→rows[k]?=rows0[k]?)∧(st<4→∃r,rows[st]?=some r∧LJ H' (nm' (11+st)) (nm' (15+st)) (aL s' st) r))
 (hw:who<3∨who=14) (hs:st<4∨st=8) (hp: ∀k,k<3→k≠who→aF s' k=aF s k) (hv: ∀k,k<4→k≠st→aL s' k=aL s k):l9 X H' nx' i0 i1 nm' s' es∧ ∀id,X id→H' id=H id:=by
 have hav:=h.rep.names.av
 have hi0:=h.rep.i0
 have hi1:=h.hap.i1
 have hlt:=h.rep.names.lt
 have hXf: ∀id,X id∨id=i1→H' id=H id:=fun id hid=>hfr id (h.rep.x id hid) (fun he=>hi0.2 (he▸hid)) fun k _ hk he=>hav k hk (he▸hid)
 refine⟨⟨h.rep.upd (who:=who) (st:=st) hx hN (fun k hk19=> ?_) (fun k hk19 h1 h2 h3 h4 h5=> ?_) (fun k h5 hk19 h1 h2 h3 h4=> ?_) e1 e2 e3 hw hs hp hv,h.hap.frame hx (hXf _ (.inr rfl)) (fun id h1 h2=> ?_) fun id hid=> ?_⟩,fun id hid=>hXf id (.inl hid)⟩
 ·rcases hk k hk19 with h1|h1
  ·rw[h1];exact h.rep.ne k hk19
  ·omega
 ·rcases hk k hk19 with h6|h6
  ·exact h6
  ·omega
 ·refine hfr _ (hlt k hk19) (h.rep.ne k hk19) fun j hj hj19 he=> ?_
  have:=h.rep.names.inj k j hk19 hj19 he
  omega
 ·exact hfr id h1 (fun he=>h2 (.inr (.inl he))) fun k _ hk19 he=>h2 (.inr (.inr ⟨k,hk19,he⟩))
 ·rcases hid with hid|rfl|⟨k,hk19,rfl⟩
  ·have:=h.rep.x id (.inl hid)
   exact⟨by omega,.inl (.inl hid)⟩
  ·exact⟨by omega,.inl (.inr (.inl rfl))⟩
  ·have:=hN.lt k hk19
   rcases hk k hk19 with h6|h6
   ·exact⟨this,.inl (.inr (.inr ⟨k,hk19,h6⟩))⟩
   ·exact⟨this,.inr h6.2⟩
end Go.AM
end
section
namespace Go.AM
def VK (H:aA) (F:Nat→Prop) (r' r:List D1):Prop:=r'.length=r.length∧ ∀(j:Nat) (d':D1),r'[j]?=some d'→∃d,r[j]?=some d∧Frz H F d' d
section
variable {H : aA} {F : Nat → Prop} {σ : Nat → Nat} {nh : Nat}
theorem LH:VK H F [] []:=⟨rfl,fun j d h=>by simp at h⟩
theorem fO {x y:D1} {xs ys:List D1} (h:Frz H F x y) (h2:VK H F xs ys):VK H F (x::xs) (y::ys):=by
 refine⟨by simp[h2.1],fun j d hd=> ?_⟩
 match j with
 |0=>simp at hd;subst hd;exact⟨y,rfl,h⟩
 |j+1=>exact h2.2 j d (by simpa using hd)
theorem amO {r:List D1} (h: ∀x∈r,x.dQ=true):VK H F r r:=⟨rfl,fun j d hd=>⟨d,hd,.same d (h d (List.mem_of_getElem? hd))⟩⟩
theorem A8 {r' r:List D1} (h:VK H F r' r):CvL H F σ nh r' r:=⟨h.1,fun i x y hx hy=>by
 obtain⟨d,h1,h2⟩:=h.2 i x hx
 rw[hy] at h1;cases h1
 exact .frz h2⟩
theorem QM {rows:List (List D1)} {n id off len cap:Nat} {o:bA} (hF:F id) (ho:H id=some o) (hn:o.n=n) (hl:len=rows.length) (hlen:off+len≤o.rows.length) (hcap:len≤cap)
 (hr: ∀i r',rows[i]?=some r'→r'.length=n∧ ∃r,o.rows[off+i]?=some r∧VK H F r' r):Frz H F (.isl rows) (.osl n id off len cap):=by
 subst hl
 refine .frz rows n id off cap o (fun i j=>((o.rows[off+i]?.getD [])[j]?).getD .dead) hF ho hn hlen hcap (fun i r' h=>(hr i r' h).1) (fun i j r' d' h1 h2=> ?_) (fun i j r' d' h1 h2=> ?_)
 ·obtain⟨_,r,h3,h4⟩:=hr i r' h1
  obtain⟨d,h5,_⟩:=h4.2 j d' h2
  exact⟨r,h3,by rw[h3];simp[h5]⟩
 ·obtain⟨_,r,h3,h4⟩:=hr i r' h1
  obtain⟨d,h5,h6⟩:=h4.2 j d' h2
  rw[h3];simpa [h5] using h6
theorem tZ.frz {n id off len cap:Nat} {R:List (List D1)} (h:tZ H n id off len cap R) (hi:alR n R) (hF:F id):Frz H F (.isl R) (.osl n id off len cap):=by
 obtain⟨m,rows,h1,h2,h3,h4,h5,h6⟩:=h.ex
 refine QM hF h1 rfl h4 h3 h5 fun i r' hr=>⟨(hi r' (List.mem_of_getElem? hr)).1,r',?_,amO fun x hx=>(hi r' (List.mem_of_getElem? hr)).2 x hx⟩
 subst h2
 rw[List.getElem?_drop] at hr
 exact hr
theorem getD_some {α:Type} [Inhabited α] {l:List α} {k:Nat} {x:α} (h:l[k]?=some x):l.getD k default=x∧k<l.length:=by
 refine⟨by simp[List.getD,h],(List.getElem?_eq_some_iff.1 h).1⟩
end
end Go.AM
end
section
namespace Go.Proofs.YtegiblhkjfiooaaGreat
open Go Go.AM
set_option maxRecDepth 100000
set_option maxHeartbeats 8000000
section
variable {H : aA} {nx : Nat} {K : D → aA → Nat → Prop}
end
end Go.Proofs.YtegiblhkjfiooaaGreat
end
section
namespace Go.Proofs.YtegiblhkjfiooaaGreat
open Go Go.AM
set_option maxRecDepth 100000
set_option maxHeartbeats 8000000
end Go.Proofs.YtegiblhkjfiooaaGreat
namespace Go.AM
def aaK (V:List (Int×Int)) (k:Nat) (u:List Int):Prop:=u.length=3∧ ∀w,w<3→u.getD w default= -1∨ ∃i,i<k∧V[i]?=some ((w:Int),u.getD w default)
theorem aaK.next {c:Cfg} {s:CSt} {st k:Nat} {u:List Int} {x:Int×Int} (hs:COk c s) (hst:st<4) (h:aaK (cS (aL s st)) k u) (hx:(cS (aL s st))[k]?=some x):
 (x.1=(x.1.toNat:Int)∧x.1.toNat<3)∧u.getD x.1.toNat default<x.2∧aaK (cS (aL s st)) (k+1) (u.set x.1.toNat x.2):=by
 obtain⟨hk,hxk⟩:=List.getElem?_eq_some_iff.1 hx
 have hm:x∈cS (aL s st):=hxk▸List.getElem_mem hk
 obtain⟨hw,h0,h1⟩:=hs.vIn hst hm
 have hw3:x.1.toNat<3:=by omega
 have hwe:x.1=(x.1.toNat:Int):=by omega
 refine⟨⟨hwe,hw3⟩,?_,by simp[h.1],fun w hw3'=> ?_⟩
 ·rcases h.2 _ hw3 with h2|⟨i,hi,h2⟩
  ·omega
  ·obtain⟨hi2,h3⟩:=List.getElem?_eq_some_iff.1 h2
   have h4:=List.pairwise_iff_getElem.1 (hs.slv st hst).inc i k hi2 hk hi
   rw[h3,hxk] at h4
   exact h4 hwe.symm
 ·by_cases he:w=x.1.toNat
  ·right
   refine⟨k,by omega,?_⟩
   rw[he,pY (by rw[h.1];omega),if_pos rfl,hx,←hwe]
  ·rw[pY (by rw[h.1];omega),if_neg he]
   exact(h.2 w hw3').imp (fun h=>h) fun⟨i,hi,h2⟩=>⟨i,by omega,h2⟩
end Go.AM
namespace Go.Proofs.YtegiblhkjfiooaaGreat
open Go Go.AM
set_option maxRecDepth 100000
set_option maxHeartbeats 8000000
section
variable {H : aA} {nx : Nat} {K : D → aA → Nat → Prop}
end
end Go.Proofs.YtegiblhkjfiooaaGreat
end
section
namespace Go.AM
theorem agO {M:List (List Int×Int)} {l l':List Int} {n:Int}:jT (vA M l n) l'=if l'=l then some n else jT M l':=by
 induction M with
 |nil=>
  by_cases h:l'=l
  ·simp[vA,jT,h]
  ·simp[vA,jT,h]
 |cons p M ih=>
  obtain⟨a,b⟩:=p
  simp only[vA]
  by_cases hl:l=a
  ·subst hl
   rw[if_pos rfl]
   by_cases h:l'=l
   ·simp[jT,h]
   ·simp[jT,h]
  ·rw[if_neg hl]
   unfold jT at ih ⊢
   simp only[List.find?_cons]
   by_cases h:l'=a
   ·subst h
    simp[Ne.symm hl]
   ·simp only[h,decide_false]
    rw[ih]
def XM (c:Cfg) (who:Nat) (out:List fC) (k:Nat) (M:List (List Int×Int)):Prop:=∀i v,jT M [i]=some v→∃j∈out.take k,(bT c who j.n).id=i∧j.left=v
theorem XM.next {c:Cfg} {who:Nat} {out:List fC} {k:Nat} {M:List (List Int×Int)} (h:XM c who out k M) (hk:k<out.length):XM c who out (k+1) (vA M [(bT c who (out.getD k default).n).id] (out.getD k default).left):=by
 intro i v hv
 rw[agO] at hv
 have hm:out.getD k default∈out.take (k+1):=by
  rw[nK hk];simp
 split at hv
 ·rename_i he
  simp only[List.cons.injEq,and_true] at he
  simp only[Option.some.injEq] at hv
  exact⟨_,hm,he.symm,hv⟩
 ·obtain⟨j,h1,h2⟩:=h i v hv
  exact⟨j,(List.take_sublist_take_left (by omega)).mem h1,h2⟩
end Go.AM
namespace Go.Proofs.YtegiblhkjfiooaaGreat
open Go Go.AM
set_option maxRecDepth 100000
set_option maxHeartbeats 8000000
section
variable {H : aA} {nx : Nat} {K : D → aA → Nat → Prop}
end
end Go.Proofs.YtegiblhkjfiooaaGreat
end
section
namespace Go.Proofs.YtegiblhkjfiooaaGreat
open Go Go.AM
set_option maxRecDepth 100000
end Go.Proofs.YtegiblhkjfiooaaGreat
end
section
namespace Go.Proofs.YtegiblhkjfiooaaGreat
open Go Go.AM
set_option maxRecDepth 100000
set_option maxHeartbeats 8000000
section
variable {H : aA} {nx : Nat} {K : D → aA → Nat → Prop}
end
end Go.Proofs.YtegiblhkjfiooaaGreat
end
