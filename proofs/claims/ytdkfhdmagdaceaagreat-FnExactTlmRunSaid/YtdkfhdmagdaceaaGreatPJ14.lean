/- Texts laid together by a program: rules, contracts and the walk that leads to the law. -/
import Derived.Test.YtdkfhdmagdaceaaGreatPJ10
import Derived.Test.YtdkfhdmagdaceaaGreatPJ12
set_option linter.unusedVariables false
set_option linter.unusedSimpArgs false
set_option linter.unusedSectionVars false
set_option maxRecDepth 100000
set_option maxHeartbeats 8000000
namespace Go.Proofs.YtdkfhdmagdaceaaGreat
open Go Go.AM
attribute [local irreducible] aM wv aB vd wvH
end Go.Proofs.YtdkfhdmagdaceaaGreat
namespace Go.AM
theorem l9.cells {X:Nat→Prop} {H:aA} {nx i0 i1:Nat} {nm:Nat→Nat} {s:CSt} {es:List Ev} (h:l9 X H nx i0 i1 nm s es) {r r':List D1} {k:Nat} (j:k<4) (p:H i1=some ⟨5,1,[r]⟩) (hr:r'=r.set (1+k) (cI 1)):l9 X (H.set i1 ⟨5,1,[r']⟩) nx i0 i1 nm s es:=by
 subst hr;have g:=h.rep.names.av;have i:=h.rep.i0;refine⟨h.rep.frame (m5 _) (aA.aC fun he=>i.2 (.inr he)) (fun k j=>aA.aC fun he=>g k j (.inr he)) fun id f=>⟨h.rep.x id f,fun he=>i.2 (he▸f),fun k j he=>g k j (he▸f)⟩,?_⟩;obtain⟨⟨d,a,b,c,e,n,m⟩,q,t⟩:=h.hap;rw[p] at n;obtain rfl:r=[d,cI a,cI b,cI c,cI e]:=by simpa using n
 have l:aqA (fun id=>X id∨id=i0∨ ∃k,k<19∧id=nm k) (H.set i1 ⟨5,1,[[d,cI a,cI b,cI c,cI e].set (1+k) (cI 1)]⟩) nx i1 es d:=by
  rcases m with m|⟨ev,cap,u,v,w,y,o⟩
  ·exact .inl m
  ·exact .inr ⟨ev,cap,u,v.frame (aA.aC o),w,y,o⟩
 refine⟨?_,q,t⟩;obtain rfl|rfl|rfl|rfl:k=0∨k=1∨k=2∨k=3:=by omega
 ·exact⟨d,1,b,c,e,aA.bH,l⟩
 ·exact⟨d,a,1,c,e,aA.bH,l⟩
 ·exact⟨d,a,b,1,e,aA.bH,l⟩
 ·exact⟨d,a,b,c,1,aA.bH,l⟩
end Go.AM
namespace Go.Proofs.YtdkfhdmagdaceaaGreat
open Go Go.AM
attribute [local irreducible] aM wv aB vd wvH
section
variable {H : aA} {nx : Nat} {K : D → aA → Nat → Prop}
theorem aM8 {j:Job}:cI j.who::cI j.n::tG j.rsp=aS j:=rfl
theorem aMB {w:List Int} (hl:w.length<2^21) (h:K (boR [.isl (w.map aJ)]) H nx):aB Tryz.prog aIW [boR [.isl (w.map aJ)]] H nx K:=by
 refine aB.fresh (R:=fun b=>b=boR [.isl (w.map aJ)]) ?_ rfl (fun r hr=>hr▸h);clear h;refine aKY rfl fun Q c=> ?_;unfold aJE;repeat' first|apply bn1<;>(simp only[go_sem])| (with_reducible first|refine fun(cap:Nat) (a:_≤cap)=> ?_|refine fun(d:_≤cap)=> ?_)|refine⟨by omega,?_⟩|fail
 all_goals exact V4 c (boR [.isl (w.map aJ)]) _ rfl (aH (bW bF rfl rfl (by omega) trivial) eP) rfl rfl
theorem aKA {w:List Int} {u:List Int} (hl:w.length<2^21) (hu:u.length<2^21) (h:K (boR [.isl (w.map aJ),.isl (u.map aJ)]) H nx):aB Tryz.prog aIR [boR [.isl (w.map aJ),.isl (u.map aJ)]] H nx K:=by
 refine aB.fresh (R:=fun b=>b=boR [.isl (w.map aJ),.isl (u.map aJ)]) ?_ rfl (fun r hr=>hr▸h);clear h;refine aKW rfl fun Q c=> ?_;unfold aJH;repeat' first| (first|apply bn1|apply aMB hl)<;>(simp only[go_sem])| (with_reducible first|refine fun(cap:Nat) (a:_≤cap)=> ?_|refine fun(d:_≤cap)=> ?_)|refine⟨by omega,?_⟩|fail
 all_goals exact V4 c (boR [.isl (w.map aJ),.isl (u.map aJ)]) _ rfl (aH (bB rfl) (aH (bW bF rfl rfl (by omega) trivial) eP)) rfl rfl
theorem aMW {r:Rsp} (hl:r.data.length<2^21) (h:K (boR (tG r)) H nx):aB Tryz.prog aI8 [boR (tG r)] H nx K:=by
 refine aB.fresh (R:=fun b=>b=boR (tG r)) ?_ rfl (fun r hr=>hr▸h);clear h;refine aLO rfl fun Q c=> ?_;unfold aJN;repeat' first|apply bn1<;>(simp only[go_sem])| (with_reducible first|refine fun(cap:Nat) (a:_≤cap)=> ?_|refine fun(d:_≤cap)=> ?_)|refine⟨by omega,?_⟩|fail
 all_goals exact V4 c (boR (tG r)) _ rfl (aH (bB rfl) (aH (bB rfl) (aH (bW bF rfl rfl (by omega) trivial) eP))) rfl rfl
theorem aI1 {l:List Job} (hl:l.length<2^21) (g: ∀j∈l,j.rsp.data.length<2^21) (h:K (dS (l.map aS)) H nx):aB Tryz.prog aIM [dS (l.map aS)] H nx K:=by
 refine aB.fresh (R:=fun i=>i=dS (l.map aS)) ?_ rfl (fun r hr=>hr▸h);clear h;refine aLL rfl fun Q m=> ?_;unfold aJF;repeat' first|apply bn1<;>(simp only[go_sem])|fail
 refine aM.sG 1 (β:=Nat×Nat) (fun b u=>en [(4,boP u.1),(3,boQ 5 b u.1 u.2),(0,dS (l.map aS))])
  (fun b u=>hp [(b,⟨5,u.2,(l.take u.1).map aS⟩)]) (fun u=>u.1≤l.length∧u.1≤u.2) (fun u=>l.length-u.1) (0,0) (by(refine cR [1] (by omega) (by repeat' first|exact bo2|refine xqI rfl rfl ?_|refine xqO (by omega) rfl rfl (by rfl) ?_|fail) ⟨⟨by simp,by simp[sgL],_,rfl,bP (aG dZ _) rfl rfl⟩,trivial⟩ (by simp[sgL]))) ⟨by omega,by omega⟩ ?_
 rintro⟨k,cap⟩ ⟨n,o⟩ bpQ c;dsimp only at n o;have d:(l.take k).take k=l.take k:=boL (by simp;omega);by_cases a:k<l.length
 ·have hm:=g _ (cC a);repeat' first| (first|apply bn1|apply aMW hm)<;>(simp only[go_sem,d,aM8];try simp (disch:=omega) only[Iw])|apply bn2 (by omega)| (with_reducible first|refine fun(cap:Nat) (f:_≤cap)=> ?_|refine fun(p:_≤cap)=> ?_)|refine⟨by omega,?_⟩| (refine⟨by(rw[CG];omega),?_⟩)|fail
  all_goals exact c _ _ _ (k+1,cap) (by omega) (by(refine cR [28] (by omega) (by repeat' first|exact bo2|refine xqI rfl rfl ?_|refine xqO (by omega) rfl rfl (by rfl) ?_|fail) ⟨⟨by simp,by simp[sgL],_,rfl,bP (aG dZ _) (by rw[nK a]) rfl⟩,trivial⟩ (by simp[sgL]))) ⟨by dsimp only;omega,by dsimp only;omega⟩ (by dsimp only;omega)
 ·repeat' first|apply bn1<;>(simp only[go_sem])|apply bn3 (by omega)|fail
  have e:k=l.length:=by omega
  subst e;exact V4 m (dS (l.map aS)) _ rfl (DJ (rows:=l.map aS) (aG dZ _) (by simp) trivial rfl rfl (by simp[boL]) (by simp;omega)) rfl rfl
theorem aLV {c:Cfg} {s:TSt} (f:aQ c) (b:BA c s) (d: ∀j∈s.wait++s.done++s.told,j.rsp.data.length<2^21) (h:K (boR (eSt s)) H nx):aB Tryz.prog aI0 [boR (eSt s)] H nx K:=by
 refine aB.fresh (R:=fun g=>g=boR (eSt s)) ?_ rfl (fun r hr=>hr▸h);clear h;refine aK9 rfl fun Q i=> ?_;unfold aJB;have hl:=b.lens f;have k:=b.atm.wl;have m:=b.atm.hl;have n:=b.JI;repeat' first| (first|apply bn1|apply aKA (by omega) (by omega)|refine aI1 (l:=s.wait) (by omega) (fun j a=>d j (by simp[a])) ?_|refine aI1 (l:=s.done) (by omega) (fun j a=>d j (by simp[a])) ?_|refine aI1 (l:=s.told) (by omega) (fun j a=>d j (by simp[a])) ?_)<;>(simp only[go_sem])| (with_reducible first|refine fun(cap:Nat) (e:_≤cap)=> ?_|refine fun(o:_≤cap)=> ?_)|refine⟨by omega,?_⟩|fail
 all_goals exact V4 i (boR (eSt s)) _ rfl (aH (bB rfl) (aH (bB rfl) (aH (bW bF rfl rfl (by omega) trivial) (aH (bB rfl) (aH (bB rfl) (aH (bB rfl) eP)))))) rfl rfl
end
end Go.Proofs.YtdkfhdmagdaceaaGreat
