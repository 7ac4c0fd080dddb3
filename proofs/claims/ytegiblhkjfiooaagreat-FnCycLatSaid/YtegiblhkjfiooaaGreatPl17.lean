/- Texts laid together by a program: rules, contracts and the walk that leads to the law. -/
import Derived.Test.YtegiblhkjfiooaaGreatPl16
import Derived.Test.YtegiblhkjfiooaaGreatPl14
import Derived.Test.YtegiblhkjfiooaaGreatPl9
import Derived.Test.YtegiblhkjfiooaaGreatPl10
import Derived.Test.YtegiblhkjfiooaaGreatPl12
import Derived.Test.YtegiblhkjfiooaaGreatPl13
set_option linter.unusedVariables false
set_option linter.unusedSimpArgs false
set_option linter.unusedSectionVars false
section
namespace Go.Proofs.YtegiblhkjfiooaaGreat
open Go Go.AM
set_option maxRecDepth 100000
set_option maxHeartbeats 8000000
theorem BJ:cJ Tryz.prog cV Tryz.f63 kM pR:=cJ.mk Tryz.func63 (by kernel_rfl) AZ
end Go.Proofs.YtegiblhkjfiooaaGreat
namespace Go.AM
structure Part (A:Nat→Prop) (lo hi:Nat) (nm:Nat→Nat):Prop where
 inj: ∀j k,A j→A k→nm j=nm k→j=k
 rng: ∀k,A k→lo≤nm k∧nm k<hi
theorem Part.mono {A:Nat→Prop} {lo hi hi':Nat} {nm:Nat→Nat} (h:Part A lo hi nm) (hh:hi≤hi'):Part A lo hi' nm:=⟨h.inj,fun k hk=>by have:=h.rng k hk;omega⟩
theorem Part.put {A B:Nat→Prop} {lo hi hi' k v:Nat} {nm:Nat→Nat} (h:Part A lo hi nm) (h0:lo≤hi) (h1:hi≤v) (h2:v<hi') (hB: ∀j,B j→A j∧j≠k∨j=k):Part B lo hi' (put nm k v):=by
 refine⟨fun i j hi hj he=> ?_,fun j hj=> ?_⟩
 ·rcases hB i hi with⟨az9,az2⟩|rfl<;>rcases hB j hj with⟨b1,b2⟩|rfl
  ·rw[jE az2,jE b2] at he;exact h.inj i j az9 b1 he
  ·rw[jE az2,t8] at he;have:=h.rng i az9;omega
  ·rw[jE b2,t8] at he;have:=h.rng j b1;omega
  ·rfl
 ·rcases hB j hj with⟨az9,az2⟩|rfl
  ·rw[jE az2];have:=h.rng j az9;omega
  ·rw[t8];omega
structure CSz (s:CSt):Prop where
 pl:s.bM.length=3
 sl:s.dD.length=4
 w:s.words.length<2^20
 h:s.holds.length<2^20
 t:s.told.length<2^20∧ ∀j∈s.told,j.rsp.data.length<2^20
 port: ∀k,k<3→(aF s k).queue.length<2^20∧(aF s k).out.length<2^20
 slv: ∀k,k<4→(aL s k).pipe.length<2^20∧(aL s k).done.length<2^20∧ ∀j∈(aL s k).done,j.rsp.data.length<2^20
theorem aM.TF {P:Program} {T:Nat} {e:Env} {H:aA} {nx:Nat} {Q:AQ} {zs:List AC} (h: ∀G,G=H→aM P T zs e G nx Q):aM P T zs e H nx Q:=h H rfl
def asA (k:Nat) (H:aA) (nm:Nat→Nat) (s:CSt) (rows:List (List D1)):Prop:=
 rows.length=3∧(∀j,j<k→∃r,rows[j]?=some r∧CX H (nm (5+j)) (nm (8+j)) (aF s j) r)∧ ∀j,k≤j→j<3→rows[j]?=some (cD (aF s j))
def asP (k:Nat) (H:aA) (nm:Nat→Nat) (s:CSt) (rows:List (List D1)):Prop:=
 rows.length=4∧(∀j,j<k→∃r,rows[j]?=some r∧LJ H (nm (11+j)) (nm (15+j)) (aL s j) r)∧ ∀j,k≤j→j<4→rows[j]?=some (gF (aL s j))
end Go.AM
namespace Go.Proofs.YtegiblhkjfiooaaGreat
open Go Go.AM
set_option maxRecDepth 100000
set_option maxHeartbeats 8000000
section
variable {H : aA} {nx : Nat} {K : D → aA → Nat → Prop}
theorem fJ {s:CSt} (hs:CSz s)
 (h: ∀H' nx' nm cells,nx≤nx'→abY H' nm s cells→Part (fun k=>k<19) nx nx' nm→(∀id,id<nx→H' id=H id)→K (.one (.agg cells)) H' nx'):
 aB Tryz.prog cV [dA (eI s)] H nx K:=by
 have hpl:=hs.pl
 have hsl:=hs.sl
 refine BJ rfl fun Q hQ=> ?_
 unfold kM
 refine aM.BW fun hnm=> ?_
 have hmk: ∀k l,msk (nx+k) l H=H:=fun k l=>BV hnm (by omega)
 repeat' (first| (with_reducible first| (refine hK _ _ _ ?_;clear hK K)|refine Z1 ?_|refine Z3 fun KB hKB=> ?_)| (first| (with_reducible refine Y2 fun K hK=> ?_)| (refine qN (w:=s.words) (u:=s.holds) hs.w hs.h (fun m0 m1 hm0 hm1=> ?_))| (refine yX (l:=s.bM) (by omega) (fun m2 hm2=> ?_))| (refine xA (l:=s.dD) (by omega) (fun m3 hm3=> ?_))| (refine gY (l:=s.told) hs.t.1 hs.t.2 (fun m4 hm4=> ?_)))<;>(simp only[go_sem,Nat.add_assoc,Nat.left_eq_add,Nat.add_eq_left,hmk,umS (G:=H),umD (G:=H),umB,msk,List.map,List.mem_cons,List.not_mem_nil,or_false,hpl,hsl])|fail)
 refine aM.TF fun G0 hG0=> ?_
 have c0:G0 nx=some ⟨5,1,[eI s]⟩:=by rw[hG0];simp only[aA.set,Nat.add_left_cancel_iff,Nat.reduceEqDiff,Nat.add_eq_left,Nat.left_eq_add,if_false,if_true]
 have c1:G0 (nx+1)=some ⟨5,1,[[.osl 0 0 0 0 0,.osl 0 0 0 0 0,.osl 0 0 0 0 0,.osl 0 0 0 0 0,.osl 0 0 0 0 0]]⟩:=by rw[hG0];simp only[aA.set,Nat.add_left_cancel_iff,Nat.reduceEqDiff,Nat.add_eq_left,Nat.left_eq_add,if_false,if_true]
 have c15:G0 (nx+15)=some ⟨5,1,[[.osl 1 (nx+17) 0 s.words.length s.words.length,.osl 1 (nx+18) 0 s.holds.length s.holds.length,.osl 4 (nx+19) 0 3 3,.osl 3 (nx+20) 0 4 4,.osl 5 (nx+21) 0 s.told.length s.told.length]]⟩:=by rw[hG0];simp only[aA.set,Nat.add_left_cancel_iff,Nat.reduceEqDiff,Nat.add_eq_left,Nat.left_eq_add,if_false,if_true]
 have c17:G0 (nx+17)=some ⟨1,m0,s.words.map aJ⟩:=by rw[hG0];simp only[aA.set,Nat.add_left_cancel_iff,Nat.reduceEqDiff,Nat.add_eq_left,Nat.left_eq_add,if_false,if_true]
 have c18:G0 (nx+18)=some ⟨1,m1,s.holds.map aJ⟩:=by rw[hG0];simp only[aA.set,Nat.add_left_cancel_iff,Nat.reduceEqDiff,Nat.add_eq_left,Nat.left_eq_add,if_false,if_true]
 have c19:G0 (nx+19)=some ⟨4,m2,s.bM.map cD⟩:=by rw[hG0];simp only[aA.set,Nat.add_left_cancel_iff,Nat.reduceEqDiff,Nat.add_eq_left,Nat.left_eq_add,if_false,if_true]
 have c20:G0 (nx+20)=some ⟨3,m3,s.dD.map gF⟩:=by rw[hG0];simp only[aA.set,Nat.add_left_cancel_iff,Nat.reduceEqDiff,Nat.add_eq_left,Nat.left_eq_add,if_false,if_true]
 have c21:G0 (nx+21)=some ⟨5,m4,s.told.map aS⟩:=by rw[hG0];simp only[aA.set,Nat.add_left_cancel_iff,Nat.reduceEqDiff,Nat.add_eq_left,Nat.left_eq_add,if_false,if_true]
 have cfr: ∀id,id<nx→G0 id=H id:=fun id hid=>by
  rw[hG0];simp only[aA.set,show ¬id=nx by omega,show ¬id=nx+1 by omega,show ¬id=nx+15 by omega,show ¬id=nx+17 by omega,show ¬id=nx+18 by omega,show ¬id=nx+19 by omega,show ¬id=nx+20 by omega,show ¬id=nx+21 by omega,if_false]
 clear hG0
 (have hKX:=hKB;clear hKB)
 refine aM.gP (β:=Nat×(Nat→Nat)) (fun u=>en [(24,dI u.1),(23,dI 3),(22,dS (s.bM.map cD)),(3,.one (.c (.ptr 5 (nx+15) 0 0))),(2,.one (.c (.ptr 5 (nx+1) 0 0))),(1,.one (.c (.ptr 5 nx 0 0)))])
  (fun u H1 nx1=>u.1≤3∧(∀j,j<5→u.2 j=nx+17+j)∧Part (fun j=>j<5∨(5≤j∧j<5+u.1)∨(8≤j∧j<8+u.1)) (nx+17) nx1 u.2∧(∀id,id<nx+22→id≠nx+19→H1 id=G0 id)∧ ∃rows,H1 (nx+19)=some ⟨4,m2,rows⟩∧asA u.1 H1 u.2 s rows)
  (fun u=>3-u.1) (0,fun j=>nx+17+j) ⟨noF,_,by repeat' (first| (with_reducible first|exact C1|refine C2 ?_ ?_)| ((with_reducible refine C0 ?_);exact CE (by omega) rfl)| ((with_reducible refine D0 ?_);first|exact CA rfl|refine CJ ?_)|fail),aK,by dsimp only;omega,fun _ _=>rfl,⟨fun j k _ _ he=>by dsimp only at he;omega,fun j hj=>by dsimp only at hj ⊢;omega⟩,fun _ _ _=>rfl,_,c19,by simpa using hpl,fun j hj=>by dsimp only at hj;omega,fun j _ hj=>by rw[List.getElem?_map];simp[aF,List.getD,show j<s.bM.length by omega]⟩ ?_
 rintro⟨k,nm⟩ H1 nx1 hnx ⟨hk,hn5,hP,hfr,rows,g19,hR1,hR2,hR3⟩ KL hKL
 dsimp only at hk hn5 hP hR2 hR3
 have g0:H1 nx=some ⟨5,1,[eI s]⟩:=by rw[hfr _ (by omega) (by omega)];exact c0
 have g15:H1 (nx+15)=some ⟨5,1,[[.osl 1 (nx+17) 0 s.words.length s.words.length,.osl 1 (nx+18) 0 s.holds.length s.holds.length,.osl 4 (nx+19) 0 3 3,.osl 3 (nx+20) 0 4 4,.osl 5 (nx+21) 0 s.told.length s.told.length]]⟩:=by rw[hfr _ (by omega) (by omega)];exact c15
 have hA:bQ nx1 [nx,nx+1,nx+15,nx+19,nx+20]:=AM.apart (by simp) (by simp;omega)
 simp only[bQ,eZ] at hA
 by_cases hlt:k<3
 ·obtain⟨p,hpd⟩: ∃p,p=aF s k:=⟨_,rfl⟩
  have hpd':s.bM.getD k default=p:=hpd.symm
  obtain⟨hq,ho⟩:=hs.port k hlt
  rw[←hpd] at hq ho
  have hgk: ∀r,(rows.set k r)[k]?=some r:=fun r=>by rw[List.getElem?_set_self (by omega)]
  have hrk:=hR3 k (Nat.le_refl _) hlt
  rw[←hpd] at hrk
  refine aM.BW fun hnm1=> ?_
  have hmk1: ∀k l,msk (nx1+k) l H1=H1:=fun k l=>BV hnm1 (by omega)
  repeat' (first| (with_reducible first| (refine hK _ _ _ ?_;clear hK K)| (refine hA ?_;clear hA hB A B)|refine Z1 ?_|refine Z2 ?_|refine Z3 fun KB hKB=> ?_|refine Z4 (by omega) ?_)| (first| (with_reducible first|refine Y2 fun K hK=> ?_|refine Y3 fun A B hA hB=> ?_)| (refine kH (l:=p.queue) hq (fun mq hmq=> ?_))| (refine oD (l:=p.out) ho (fun mo hmo=> ?_)))<;>(simp only[go_sem,Nat.add_assoc,Nat.left_eq_add,Nat.add_eq_left,hmk1,umS (G:=H1),umD (G:=H1),umB,msk,List.map,List.mem_cons,List.not_mem_nil,or_false,hpd',hgk,hrk,List.set_set,g0,g15,g19,hA];try simp (disch:=omega) only[Iw])| ((with_reducible refine Y0 ?_);simp only[AQ.then,AQ.blk])|refine⟨by omega,?_⟩| (with_reducible refine hKB _ _ _ ?_)|fail)
  have hq19: ∀j,j<5∨(5≤j∧j<5+k)∨(8≤j∧j<8+k)→j≠2→nm j≠nx+19:=fun j hj h2 he=>h2 (hP.inj j 2 hj (.inl (by omega)) (by rw[he,hn5 2 (by omega)]))
  refine hKL _ _ _ (k+1,put (put nm (5+k) (nx1+25)) (8+k) (nx1+26)) noF _ (by omega) (by dsimp only;omega) (by repeat' (first| (with_reducible first|exact C1|refine C2 ?_ ?_)| ((with_reducible refine C0 ?_);exact CE (by omega) rfl)| ((with_reducible refine D0 ?_);first|exact CA rfl|refine CJ ?_)|fail)) aK ⟨by dsimp only;omega,fun j hj=> ?_,?_,fun id e0 e1=> ?_,_,aA.bH,?_,fun j hj=> ?_,fun j h1 h2=> ?_⟩
  ·dsimp only;rw[jE (by omega),jE (by omega)];exact hn5 j hj
  ·exact(hP.put (B:=fun j=>j<5∨(5≤j∧j<5+(k+1))∨(8≤j∧j<8+k)) (hi':=nx1+26) (by omega) (by omega) (by omega) (fun j hj=>by first|omega| (dsimp only at*;omega))).put (by omega) (by omega) (by omega) (fun j hj=>by first|omega| (dsimp only at*;omega))
  ·rw[aA.aC e1,aA.aC (by omega),aA.aC (by omega),aA.aC (by omega)];exact hfr id e0 e1
  ·rw[List.length_set];exact hR1
  ·dsimp only at hj ⊢
   by_cases hjk:j=k
   ·subst hjk
    refine⟨_,hgk _,⟨0,p.queue.length,p.out.length,?_,?_,?_⟩⟩
    ·rw[jE (by omega),t8,t8,←hpd];rfl
    ·rw[jE (by omega),t8,←hpd]
     exact⟨mq,p.queue.map aJ,by rw[aA.aC (by omega),aA.aC (by omega)];exact aA.bH,rfl,by simp,by simp,Nat.le_refl _,by omega⟩
    ·rw[t8,←hpd]
     exact⟨mo,p.out.map eCJ,by rw[aA.aC (by omega)];exact aA.bH,rfl,by simp,by simp,Nat.le_refl _,by omega⟩
   ·obtain⟨r,h1,h2⟩:=hR2 j (by omega)
    have aAA:=hP.rng (5+j) (.inr (.inl ⟨by omega,by omega⟩))
    have aAB:=hP.rng (8+j) (.inr (.inr ⟨by omega,by omega⟩))
    refine⟨r,by rw[List.getElem?_set_ne (by omega)];exact h1,?_⟩
    rw[jE (show 5+j≠8+k by omega),jE (show 5+j≠5+k by omega),jE (show 8+j≠8+k by omega),jE (show 8+j≠5+k by omega)]
    refine h2.frame ?_ ?_
    ·rw[aA.aC (hq19 _ (.inr (.inl ⟨by omega,by omega⟩)) (by omega)),aA.aC (by omega),aA.aC (by omega),aA.aC (by omega)]
    ·rw[aA.aC (hq19 _ (.inr (.inr ⟨by omega,by omega⟩)) (by omega)),aA.aC (by omega),aA.aC (by omega),aA.aC (by omega)]
  ·dsimp only at h1 ⊢
   rw[List.getElem?_set_ne (by omega)];exact hR3 j (by omega) h2
 ·repeat' (first| (with_reducible first| (refine hK _ _ _ ?_;clear hK K)| (refine hB ?_;clear hA hB A B)|refine Z1 ?_|refine Z3 fun KB hKB=> ?_|refine Z5 (by omega) ?_|refine hKX _ _ _ ?_)| (with_reducible first|refine Y2 fun K hK=> ?_|refine Y3 fun A B hA hB=> ?_)<;>(simp only[go_sem,g0])| ((with_reducible refine Y9 ?_);try simp only[AQ.then,AQ.blk,reduceIte,Nat.reduceEqDiff])|fail)
  have hk3:k=3:=by omega
  subst hk3
  have g20:H1 (nx+20)=some ⟨3,m3,s.dD.map gF⟩:=by rw[hfr _ (by omega) (by omega)];exact c20
  (have hKY:=hKB;clear hKB)
  refine aM.gP (β:=Nat×(Nat→Nat)) (fun u=>en [(49,dI u.1),(48,dI 4),(47,dS (s.dD.map gF)),(3,.one (.c (.ptr 5 (nx+15) 0 0))),(2,.one (.c (.ptr 5 (nx+1) 0 0)))])
   (fun u H2 nx2=>u.1≤4∧(∀j,j<11→u.2 j=nm j)∧Part (fun j=>j<11∨(11≤j∧j<11+u.1)∨(15≤j∧j<15+u.1)) (nx+17) nx2 u.2∧(∀id,id<nx1→id≠nx+20→H2 id=H1 id)∧ ∃rv,H2 (nx+20)=some ⟨3,m3,rv⟩∧asP u.1 H2 u.2 s rv)
   (fun u=>4-u.1) (0,nm) ⟨noF,_,by repeat' (first| (with_reducible first|exact C1|refine C2 ?_ ?_)| ((with_reducible refine C0 ?_);first|exact CE (by omega) rfl| (exact CG (by(congr 2;omega)) rfl))| ((with_reducible refine D0 ?_);first|exact CA rfl|refine CJ ?_)|fail),aK,by dsimp only;omega,fun _ _=>rfl,⟨fun j k hj hk he=>hP.inj j k (by first|omega| (dsimp only at*;omega)) (by first|omega| (dsimp only at*;omega)) he,fun j hj=>by have:=hP.rng j (by first|omega| (dsimp only at*;omega));first|omega| (dsimp only at*;omega)⟩,fun _ _ _=>rfl,_,g20,by simpa using hsl,fun j hj=>by dsimp only at hj;omega,fun j _ hj=>by rw[List.getElem?_map];simp[aL,List.getD,show j<s.dD.length by omega]⟩ ?_
  rintro⟨k,nm2⟩ H2 nx2 hnx2 ⟨hk,hn11,hP2,hfr2,rv,f20,hV1,hV2,hV3⟩ KM hKM
  dsimp only at hk hn11 hP2 hV2 hV3
  have f15:H2 (nx+15)=some ⟨5,1,[[.osl 1 (nx+17) 0 s.words.length s.words.length,.osl 1 (nx+18) 0 s.holds.length s.holds.length,.osl 4 (nx+19) 0 3 3,.osl 3 (nx+20) 0 4 4,.osl 5 (nx+21) 0 s.told.length s.told.length]]⟩:=by rw[hfr2 _ (by omega) (by omega)];exact g15
  have f1:H2 (nx+1)=some ⟨5,1,[[.osl 0 0 0 0 0,.osl 0 0 0 0 0,.osl 0 0 0 0 0,.osl 0 0 0 0 0,.osl 0 0 0 0 0]]⟩:=by rw[hfr2 _ (by omega) (by omega),hfr _ (by omega) (by omega)];exact c1
  have hA2:bQ nx2 [nx,nx+1,nx+15,nx+19,nx+20]:=AM.apart (by simp) (by simp;omega)
  simp only[bQ,eZ] at hA2
  have hn3:nm2 3=nx+20:=by rw[hn11 3 (by omega),hn5 3 (by omega)]
  by_cases hlt:k<4
  ·obtain⟨v,hvd⟩: ∃v,v=aL s k:=⟨_,rfl⟩
   have hvd':s.dD.getD k default=v:=hvd.symm
   obtain⟨hq,ho,ho2⟩:=hs.slv k hlt
   rw[←hvd] at hq ho ho2
   have hgk: ∀r,(rv.set k r)[k]?=some r:=fun r=>by rw[List.getElem?_set_self (by omega)]
   have hrk:=hV3 k (Nat.le_refl _) hlt
   rw[←hvd] at hrk
   refine aM.BW fun hnm1=> ?_
   have hmk1: ∀k l,msk (nx2+k) l H2=H2:=fun k l=>BV hnm1 (by omega)
   repeat' (first| (with_reducible first| (refine hK _ _ _ ?_;clear hK K)| (refine hA ?_;clear hA hB A B)|refine Z1 ?_|refine Z2 ?_|refine Z3 fun KB hKB=> ?_|refine Z4 (by omega) ?_)| (first| (with_reducible first|refine Y2 fun K hK=> ?_|refine Y3 fun A B hA hB=> ?_)| (refine oD (l:=v.pipe) hq (fun mq hmq=> ?_))| (refine gY (l:=v.done) ho ho2 (fun mo hmo=> ?_)))<;>(simp only[go_sem,Nat.add_assoc,Nat.left_eq_add,Nat.add_eq_left,hmk1,umS (G:=H2),umD (G:=H2),umB,msk,List.map,List.mem_cons,List.not_mem_nil,or_false,hvd',hgk,hrk,List.set_set,f15,f20,hA2];try simp (disch:=omega) only[Iw])| ((with_reducible refine Y0 ?_);simp only[AQ.then,AQ.blk])|refine⟨by omega,?_⟩| (with_reducible refine hKB _ _ _ ?_)|fail)
   have hq20: ∀j,j<11∨(11≤j∧j<11+k)∨(15≤j∧j<15+k)→j≠3→nm2 j≠nx+20:=fun j hj h2 he=>h2 (hP2.inj j 3 hj (.inl (by omega)) (by rw[he,hn3]))
   refine hKM _ _ _ (k+1,put (put nm2 (11+k) (nx2+25)) (15+k) (nx2+26)) noF _ (by omega) (by dsimp only;omega) (by repeat' (first| (with_reducible first|exact C1|refine C2 ?_ ?_)| ((with_reducible refine C0 ?_);exact CE (by omega) rfl)| ((with_reducible refine D0 ?_);first|exact CA rfl|refine CJ ?_)|fail)) aK ⟨by dsimp only;omega,fun j hj=> ?_,?_,fun id e0 e1=> ?_,_,aA.bH,?_,fun j hj=> ?_,fun j h1 h2=> ?_⟩
   ·dsimp only;rw[jE (by omega),jE (by omega)];exact hn11 j hj
   ·exact(hP2.put (B:=fun j=>j<11∨(11≤j∧j<11+(k+1))∨(15≤j∧j<15+k)) (hi':=nx2+26) (by omega) (by omega) (by omega) (fun j hj=>by first|omega| (dsimp only at*;omega))).put (by omega) (by omega) (by omega) (fun j hj=>by first|omega| (dsimp only at*;omega))
   ·rw[aA.aC e1,aA.aC (by omega),aA.aC (by omega),aA.aC (by omega)];exact hfr2 id e0 e1
   ·rw[List.length_set];exact hV1
   ·dsimp only at hj ⊢
    by_cases hjk:j=k
    ·subst hjk
     refine⟨_,hgk _,⟨0,v.pipe.length,0,v.done.length,?_,?_,?_⟩⟩
     ·rw[jE (by omega),t8,t8,←hvd];rfl
     ·rw[jE (by omega),t8,←hvd]
      exact⟨mq,v.pipe.map eCJ,by rw[aA.aC (by omega),aA.aC (by omega)];exact aA.bH,rfl,by simp,by simp,Nat.le_refl _,by omega⟩
     ·rw[t8,←hvd]
      exact⟨mo,v.done.map aS,by rw[aA.aC (by omega)];exact aA.bH,rfl,by simp,by simp,Nat.le_refl _,by omega⟩
    ·obtain⟨r,h1,h2⟩:=hV2 j (by omega)
     have aAA:=hP2.rng (11+j) (.inr (.inl ⟨by omega,by omega⟩))
     have aAB:=hP2.rng (15+j) (.inr (.inr ⟨by omega,by omega⟩))
     refine⟨r,by rw[List.getElem?_set_ne (by omega)];exact h1,?_⟩
     rw[jE (show 11+j≠15+k by omega),jE (show 11+j≠11+k by omega),jE (show 15+j≠15+k by omega),jE (show 15+j≠11+k by omega)]
     refine h2.frame ?_ ?_
     ·rw[aA.aC (hq20 _ (.inr (.inl ⟨by omega,by omega⟩)) (by omega)),aA.aC (by omega),aA.aC (by omega),aA.aC (by omega)]
     ·rw[aA.aC (hq20 _ (.inr (.inr ⟨by omega,by omega⟩)) (by omega)),aA.aC (by omega),aA.aC (by omega),aA.aC (by omega)]
   ·dsimp only at h1 ⊢
    rw[List.getElem?_set_ne (by omega)];exact hV3 j (by omega) h2
  ·repeat' (first| (with_reducible first| (refine hK _ _ _ ?_;clear hK K)| (refine hB ?_;clear hA hB A B)|refine Z1 ?_|refine Z5 (by omega) ?_|refine hKY _ _ _ ?_)| (with_reducible first|refine Y2 fun K hK=> ?_|refine Y3 fun A B hA hB=> ?_)<;>(simp only[go_sem,f15,f1,hA2])| ((with_reducible first|refine Y8 ?_|refine Y9 ?_);try simp only[AQ.then,AQ.blk,reduceIte,Nat.reduceEqDiff])|fail)
   have hk4:k=4:=by omega
   subst hk4
   have e0: ∀j,j<5→nm2 j=nx+17+j:=fun j hj=>(hn11 j (by omega)).trans (hn5 j hj)
   have hrd: ∀id,id<nx+22→id≠nx+1→id≠nx+19→id≠nx+20→(H2.set (nx+1) ⟨5,1,[[.osl 1 (nx+17) 0 s.words.length s.words.length,.osl 1 (nx+18) 0 s.holds.length s.holds.length,.osl 4 (nx+19) 0 3 3,.osl 3 (nx+20) 0 4 4,.osl 5 (nx+21) 0 s.told.length s.told.length]]⟩) id=G0 id:=fun id h1 h2 h3 h4=>by
    rw[aA.aC h2,hfr2 id (by omega) h4,hfr id h1 h3]
   have hge: ∀j,j<19→nx+17≤nm2 j:=fun j hj=>(hP2.rng j (by first|omega| (dsimp only;omega))).1
   refine hQ _ _ _ _ _ (.inr rfl) (fZ rfl aA.bH rfl) (h _ _ nm2 _ (by omega) ⟨⟨s.words.length,s.holds.length,3,4,s.told.length,?_,?_,?_,?_,Nat.le_refl _,Nat.le_refl _⟩,⟨m2,rows,?_,hR1,fun j hj=> ?_⟩,⟨m3,rv,?_,hV1,fun j hj=> ?_⟩⟩ ⟨fun j k hj hk he=>hP2.inj j k (by first|omega| (dsimp only;omega)) (by first|omega| (dsimp only;omega)) he,fun j hj=>by have:=hP2.rng j (by first|omega| (dsimp only;omega));omega⟩ fun id hid=> ?_)
   ·rw[U2,e0 0 (by omega),e0 1 (by omega),e0 2 (by omega),e0 3 (by omega),e0 4 (by omega)]
   ·rw[e0 0 (by omega)]
    exact⟨m0,s.words.map aJ,(hrd _ (by omega) (by omega) (by omega) (by omega)).trans c17,rfl,by simp,by simp,Nat.le_refl _,by omega⟩
   ·rw[e0 1 (by omega)]
    exact⟨m1,s.holds.map aJ,(hrd _ (by omega) (by omega) (by omega) (by omega)).trans c18,rfl,by simp,by simp,Nat.le_refl _,by omega⟩
   ·rw[e0 4 (by omega)]
    exact⟨m4,s.told.map aS,(hrd _ (by omega) (by omega) (by omega) (by omega)).trans c21,rfl,by simp,by simp,Nat.le_refl _,by omega⟩
   ·rw[e0 2 (by omega),aA.aC (by omega),hfr2 _ (by omega) (by omega)];exact g19
   ·obtain⟨r,h1,h2⟩:=hR2 j hj
    have aAA:=hP.rng (5+j) (.inr (.inl ⟨by omega,by omega⟩))
    have aAB:=hP.rng (8+j) (.inr (.inr ⟨by omega,by omega⟩))
    have b5:nm2 (5+j)≠nx+20:=fun he=>by
     have:=hP2.inj (5+j) 3 (.inl (by omega)) (.inl (by omega)) (by rw[he,hn3]);omega
    have b8:nm2 (8+j)≠nx+20:=fun he=>by
     have:=hP2.inj (8+j) 3 (.inl (by omega)) (.inl (by omega)) (by rw[he,hn3]);omega
    rw[hn11 _ (by omega)] at b5 b8
    refine⟨r,h1,?_⟩
    rw[hn11 _ (by omega),hn11 _ (by omega)]
    exact h2.frame (by rw[aA.aC (by omega),hfr2 _ (by omega) b5]) (by rw[aA.aC (by omega),hfr2 _ (by omega) b8])
   ·rw[hn3,aA.aC (by omega)];exact f20
   ·obtain⟨r,h1,h2⟩:=hV2 j hj
    exact⟨r,h1,h2.frame (aA.aC (by have:=hge (11+j) (by omega);omega)) (aA.aC (by have:=hge (15+j) (by omega);omega))⟩
   ·rw[hrd id (by omega) (by omega) (by omega) (by omega)];exact cfr id hid
end
end Go.Proofs.YtegiblhkjfiooaaGreat
end
section
namespace Go.AM
theorem IW {p:Job→Bool}: ∀{A B:List Job},(∀a∈A,p a=false)→(∀b∈B,p b=true)→(A++B).findIdx p=A.length
 | [],[],_,_=>rfl
 | [],b::B,_,hB=>by
   rw[List.nil_append,List.findIdx_cons,hB b (by simp)];rfl
 |a::A,B,hA,hB=>by
  rw[List.cons_append,List.findIdx_cons,hA a (by simp)]
  simp only[cond_false,List.length_cons]
  rw[IW (fun x hx=>hA x (List.mem_cons_of_mem _ hx)) hB]
theorem abS {A B:List Job} {x:Job} (hA: ∀a∈A,uL x a=false) (hB: ∀b∈B,uL x b=true):BM (A++B) x=A++x::B:=by
 unfold BM
 rw[IW hA hB,List.take_left',List.drop_left']
 ·rfl
 ·rfl
def A5 (l:List Job) (k:Nat):List Job:=jX (l.take k)
theorem ahI {l:List Job} {k:Nat} (hk:k≤l.length):(A5 l k).length=k:=by
 unfold A5;rw[(fH _).length_eq,List.length_take];omega
theorem ac8 {l:List Job} {k:Nat} (hk:k<l.length):A5 l (k+1)=BM (A5 l k) (l.getD k default):=by
 unfold A5 jX
 rw[nK hk,List.foldl_append];rfl
theorem ah3 {l:List Job}:A5 l 1=l.take 1:=by
 cases l with
 |nil=>rfl
 |cons x l=>rfl
theorem aiE {l:List Job}:A5 l l.length=jX l:=by unfold A5;rw[List.take_length]
theorem XB {l:List Job} {k:Nat} (hn:(l.map key).Nodup):kW (A5 l k):=by
 refine J9 ?_
 rw[List.map_take]
 exact hn.sublist (List.take_sublist _ _)
def MS (S:List Job) (x:Job) (j:Nat):List Job:=S.take j++x::S.drop j
theorem amF {S:List Job} {x:Job} {j:Nat} (_:j≤S.length):(MS S x j).length=S.length+1:=by
 unfold MS;simp;omega
theorem akX {S:List Job} {x:Job} {j:Nat} (hj:j≤S.length) (hs:kW S) (h0:j=0∨uL x (S.getD (j-1) default)=false) (hB: ∀i,j≤i→i<S.length→uL x (S.getD i default)=true):MS S x j=BM S x:=by
 have hl:(S.take j).length=j:=by simp;omega
 conv=>rhs;rw[←List.take_append_drop j S]
 refine(abS (fun a ha=> ?_) fun b hb=> ?_).symm
 ·rcases h0 with rfl|h0
  ·simp at ha
  ·obtain⟨i,hi,rfl⟩:=List.mem_iff_getElem.1 ha
   rw[List.getElem_take]
   by_cases he:i=j-1
   ·subst he
    have:S.getD (j-1) default=S[j-1]:=by simp[List.getD,show j-1<S.length by omega]
    rw[this] at h0;exact h0
   ·have h1:=List.pairwise_iff_getElem.1 hs i (j-1) (by omega) (by omega) (by omega)
    have h2:S.getD (j-1) default=S[j-1]:=by simp[List.getD,show j-1<S.length by omega]
    rw[h2] at h0
    rw[←Bool.not_eq_true,qL] at h0
    rw[qL] at h1
    rw[←Bool.not_eq_true,qL]
    omega
 ·obtain⟨i,hi,rfl⟩:=List.mem_iff_getElem.1 hb
  rw[List.getElem_drop]
  have:=hB (j+i) (by omega) (by simp at hi;omega)
  simpa [List.getD,show j+i<S.length by simp at hi;omega] using this
end Go.AM
end
section
namespace Go.AM
theorem ah1 {S R:List Job} {x:Job} {j:Nat} (h0:0<j) (hj:j≤S.length):((MS S x j++R).set j (S.getD (j-1) default)).set (j-1) x=MS S x (j-1)++R:=by
 have h1:S.take j=S.take (j-1)++[S.getD (j-1) default]:=by
  have:=nK (l:=S) (k:=j-1) (by omega)
  rwa [show j-1+1=j by omega] at this
 have h2:S.drop (j-1)=S.getD (j-1) default::S.drop j:=by
  have:=List.drop_eq_getElem_cons (l:=S) (i:=j-1) (by omega)
  rw[this,show j-1+1=j by omega];simp[List.getD,show j-1<S.length by omega]
 have hl:(S.take (j-1)).length=j-1:=by simp;omega
 unfold MS
 rw[h1,h2]
 generalize S.take (j-1)=A at*
 generalize S.drop j=B
 generalize S.getD (j-1) default=y
 simp only[List.append_assoc,List.cons_append,List.nil_append,List.singleton_append]
 obtain rfl:j=A.length+1:=by omega
 rw[List.set_append_right _ _ (by omega)]
 simp
theorem anT {S R:List Job} {x:Job} {j:Nat} (hj:j≤S.length):(MS S x j++R).getD j default=x:=by
 have hl:(S.take j).length=j:=by simp;omega
 unfold MS
 simp[List.getD,hl,List.append_assoc,List.getElem?_append_right]
theorem adY {S R:List Job} {x:Job} {j:Nat} (h0:0<j) (hj:j≤S.length):(MS S x j++R).getD (j-1) default=S.getD (j-1) default:=by
 unfold MS
 simp only[List.getD,List.append_assoc]
 rw[List.getElem?_append_left (by simp;omega),List.getElem?_take_of_lt (by omega)]
end Go.AM
namespace Go.Proofs.YtegiblhkjfiooaaGreat
open Go Go.AM
set_option maxRecDepth 100000
set_option maxHeartbeats 8000000
theorem mY:cJ Tryz.prog cL Tryz.f216 dU gU:=cJ.mk Tryz.func216 (by kernel_rfl) m9
theorem tL:cJ Tryz.prog gL Tryz.f156 gA kJ:=cJ.mk Tryz.func156 (by kernel_rfl) sX
theorem mA:cJ Tryz.prog cG Tryz.f86 dF gD:=cJ.mk Tryz.func86 (by kernel_rfl) mB
section
variable {H : aA} {nx : Nat} {K : D → aA → Nat → Prop}
theorem nZ {l:List Job} {m cap i0:Nat} (hl:l.length<2^20) (hn:(l.map key).Nodup) (hi:i0<nx) (o0:H i0=some ⟨5,m,l.map aS⟩)
 (h: ∀H' nx',nx≤nx'→H' i0=some ⟨5,m,(jX l).map aS⟩→(∀id,id<nx→id≠i0→H' id=H id)→K (.tup []) H' nx'):
 aB Tryz.prog cL [.one (.c (.osl 5 i0 0 l.length cap)),dI 0,dI l.length,.one (.c (.clo bJ []))] H nx K:=by
 refine mY rfl fun Q hQ=> ?_
 unfold dU
 repeat' (first| (with_reducible first| (refine hK _ _ _ ?_;clear hK K)|refine Z1 ?_|refine Z3 fun KB hKB=> ?_)| (with_reducible refine Y2 fun K hK=> ?_)<;>(simp only[go_sem];try simp (disch:=omega) only[Iw])|fail)
 (have hKX:=hKB;clear hKB)
 refine aM.gP (β:=Nat) (fun k=>en [(8,dI k),(3,.one (.c (.clo bJ []))),(2,dI l.length),(1,dI 0),(0,.one (.c (.osl 5 i0 0 l.length cap)))])
  (fun k H1 _=>1≤k∧(k≤1∨k≤l.length)∧H1 i0=some ⟨5,m,(A5 l k++l.drop k).map aS⟩∧ ∀id,id<nx→id≠i0→H1 id=H id) (fun k=>l.length+1-k) 1
  ⟨noF,_,by repeat' (first| (with_reducible first|exact C1|refine C2 ?_ ?_)| ((with_reducible refine C0 ?_);first|exact CQ (by omega) rfl rfl (by rfl) rfl|exact CH (by rfl))| ((with_reducible refine D0 ?_);first|exact CA rfl|refine CJ ?_)|fail),aK,by omega,.inl (by omega),by rw[ah3,List.take_append_drop];exact o0,fun _ _ _=>rfl⟩ ?_
 rintro k H1 nx1 hnx ⟨hk1,hk2,g0,hfr⟩ KL hKL
 by_cases hlt:k<l.length
 ·repeat' (first| (with_reducible first| (refine hK _ _ _ ?_;clear hK K)| (refine hA ?_;clear hA hB A B)|refine Z1 ?_|refine Z2 ?_|refine Z3 fun KB hKB=> ?_|refine Z4 (by omega) ?_)| (with_reducible first|refine Y2 fun K hK=> ?_|refine Y3 fun A B hA hB=> ?_)<;>(simp only[go_sem])|fail)
  (have hKY:=hKB;clear hKB)
  obtain⟨S,hS⟩: ∃S,S=A5 l k:=⟨_,rfl⟩
  have hSl:S.length=k:=by rw[hS];exact ahI (by omega)
  obtain⟨x,hx⟩: ∃x,x=l.getD k default:=⟨_,rfl⟩
  have hd:l.drop k=x::l.drop (k+1):=by
   rw[List.drop_eq_getElem_cons hlt,hx];simp[List.getD,hlt]
  refine aM.gP (β:=Nat) (fun j=>en [(9,dI j),(8,dI k),(3,.one (.c (.clo bJ []))),(2,dI l.length),(1,dI 0),(0,.one (.c (.osl 5 i0 0 l.length cap)))])
   (fun j H2 _=>j≤k∧H2 i0=some ⟨5,m,(MS S x j++l.drop (k+1)).map aS⟩∧(∀i,j≤i→i<S.length→uL x (S.getD i default)=true)∧ ∀id,id<nx→id≠i0→H2 id=H id) (fun j=>j) k
   ⟨noF,_,by repeat' (first| (with_reducible first|exact C1|refine C2 ?_ ?_)| ((with_reducible refine C0 ?_);first|exact CQ (by omega) rfl rfl (by rfl) rfl|exact CH (by rfl))| ((with_reducible refine D0 ?_);first|exact CA rfl|refine CJ ?_)|fail),aK,Nat.le_refl _,?_,fun i h1 h2=>by omega,hfr⟩ ?_
  ·rw[g0,←hS,hd]
   unfold MS
   rw[List.take_of_length_le (show S.length≤k by omega),show S.drop k=[] from List.drop_of_length_le (by omega)];simp
  rintro j H2 nx2 hnx2 ⟨hj,f0,hB,hfr2⟩ KM hKM
  have hLl:(MS S x j++l.drop (k+1)).length=l.length:=by rw[List.length_append,amF (by omega),List.length_drop];omega
  have hk0: ∀b,(i0=nx2+b)=False:=fun b=>eq_false (by omega)
  have hk0': ∀b,(nx2+b=i0)=False:=fun b=>eq_false (by omega)
  have hback: ∀{e:Env} {H':aA} {n':Nat},nx2≤n'→(j=0∨uL x (S.getD (j-1) default)=false)→H'=H2→CvE H' noF id n' (en [(8,dI (k+1)),(3,.one (.c (.clo bJ []))),(2,dI l.length),(1,dI 0),(0,.one (.c (.osl 5 i0 0 l.length cap)))]) e→KL e H' n':=fun h1 h2 h3 h4=>by
   subst h3
   refine hKL _ _ _ (k+1) noF _ (by omega) (by omega) h4 aK ⟨by omega,.inr (by omega),?_,hfr2⟩
   rw[f0,akX (by omega) (by rw[hS];exact XB hn) h2 hB,hS,ac8 hlt,hx]
  by_cases hj0:0<j
  ·have hat:=anT (S:=S) (R:=l.drop (k+1)) (x:=x) (j:=j) (by omega)
   have hah:=adY (S:=S) (R:=l.drop (k+1)) (x:=x) hj0 (by omega)
   have hsw:=ah1 (S:=S) (R:=l.drop (k+1)) (x:=x) hj0 (by omega)
   have ej:((j:Int)-1).toNat=j-1:=by omega
   repeat' (first| (with_reducible first| (refine hK _ _ _ ?_;clear hK K)| (refine hA ?_;clear hA hB A B)| (refine hB ?_;clear hA hB A B)|refine Z1 ?_|refine Z2 ?_|refine Z3 fun KB hKB=> ?_|refine Z6 (fun h=> ?_) fun h=> ?_|refine hKY _ _ _ ?_)| (first| (with_reducible first|refine Y2 fun K hK=> ?_|refine Y3 fun A B hA hB=> ?_|refine Y4 (by omega) ?_)| (refine xM ?_))<;>(simp only[go_sem,f0,hat,hah,ej,hLl,hk0,hk0'];try simp (disch:=omega) only[Iw])| ((with_reducible refine Y9 ?_);try simp only[AQ.then,AQ.blk,reduceIte,Nat.reduceEqDiff])| ((with_reducible refine Y0 ?_);simp only[AQ.then,AQ.blk])|refine⟨by omega,?_⟩| (with_reducible refine hKB _ _ _ ?_)|fail)
   ·exact hKM _ _ _ (j-1) noF _ (by omega) (by omega) (by repeat' (first| (with_reducible first|exact C1|refine C2 ?_ ?_)| ((with_reducible refine C0 ?_);first|exact CQ (by omega) rfl rfl (by rfl) rfl|exact CH (by rfl)| (exact CG (by(congr 2;omega)) rfl))| ((with_reducible refine D0 ?_);first|exact CA rfl|refine CJ ?_)|fail)) aK ⟨by omega,by rw[hsw];exact aA.bH,fun i h1 h2=>by
     by_cases he:i=j-1
     ·subst he;exact E7.1 (by assumption)
     ·exact hB i (by omega) h2,fun id e0 e1=>by rw[aA.aC e1];exact hfr2 id e0 e1⟩
   ·exact hback (by omega) (.inr (by rw[←Bool.not_eq_true,←E7];assumption)) rfl (by repeat' (first| (with_reducible first|exact C1|refine C2 ?_ ?_)| ((with_reducible refine C0 ?_);first|exact CQ (by omega) rfl rfl (by rfl) rfl|exact CH (by rfl))| ((with_reducible refine D0 ?_);first|exact CA rfl|refine CJ ?_)|fail))
  ·repeat' (first| (with_reducible first| (refine hK _ _ _ ?_;clear hK K)| (refine hB ?_;clear hA hB A B)|refine Z1 ?_|refine hKY _ _ _ ?_)| (with_reducible first|refine Y2 fun K hK=> ?_|refine Y3 fun A B hA hB=> ?_|refine Y5 (by omega) ?_)<;>(simp only[go_sem];try simp (disch:=omega) only[Iw])| ((with_reducible refine Y9 ?_);try simp only[AQ.then,AQ.blk,reduceIte,Nat.reduceEqDiff])| ((with_reducible refine Y0 ?_);simp only[AQ.then,AQ.blk])| (with_reducible refine hKB _ _ _ ?_)|fail)
   exact hback (by omega) (.inl (by omega)) rfl (by repeat' (first| (with_reducible first|exact C1|refine C2 ?_ ?_)| ((with_reducible refine C0 ?_);first|exact CQ (by omega) rfl rfl (by rfl) rfl|exact CH (by rfl))| ((with_reducible refine D0 ?_);first|exact CA rfl|refine CJ ?_)|fail))
 ·repeat' (first| (with_reducible first| (refine hK _ _ _ ?_;clear hK K)| (refine hB ?_;clear hA hB A B)|refine Z1 ?_|refine Z5 (by omega) ?_|refine hKX _ _ _ ?_)| (with_reducible first|refine Y2 fun K hK=> ?_|refine Y3 fun A B hA hB=> ?_)<;>(simp only[go_sem])| ((with_reducible refine Y9 ?_);try simp only[AQ.then,AQ.blk,reduceIte,Nat.reduceEqDiff])| ((with_reducible refine Y0 ?_);simp only[AQ.then,AQ.blk])|fail)
  have hd:A5 l k++l.drop k=jX l:=by
   rw[List.drop_of_length_le (by omega),List.append_nil,←aiE]
   unfold A5
   rw[List.take_of_length_le (by omega),List.take_of_length_le (by omega)]
  rw[hd] at g0
  exact hQ _ _ _ _ _ (.inl rfl) rfl (h _ _ (by omega) g0 hfr)
theorem N6 {l:List Job} {m cap i0:Nat} (hl:l.length<20) (hn:(l.map key).Nodup) (hi:i0<nx) (o0:H i0=some ⟨5,m,l.map aS⟩)
 (h: ∀H' nx',nx≤nx'→H' i0=some ⟨5,m,(jX l).map aS⟩→(∀id,id<nx→id≠i0→H' id=H id)→K (.tup []) H' nx'):
 aB Tryz.prog gL [.one (.c (.osl 5 i0 0 l.length cap)),dI l.length,.one (.c (.clo bJ []))] H nx K:=by
 refine tL rfl fun Q hQ=> ?_
 unfold gA
 repeat' (first| (with_reducible first| (refine hK _ _ _ ?_;clear hK K)|refine Z1 ?_|refine Z3 fun KB hKB=> ?_)| (with_reducible refine Y2 fun K hK=> ?_)<;>(simp only[go_sem])|fail)
 (have hKX:=hKB;clear hKB)
 refine aM.gP (β:=Unit) (fun _=>en [(8,dI 20),(7,dI 0),(6,dI 20),(2,.one (.c (.clo bJ []))),(1,dI l.length),(0,.one (.c (.osl 5 i0 0 l.length cap)))]) (fun _ H1 _=>H1=H) (fun _=>0) () ⟨noF,_,by repeat' (first| (with_reducible first|exact C1|refine C2 ?_ ?_)| ((with_reducible refine C0 ?_);first|exact CQ (by omega) rfl rfl (by rfl) rfl|exact CH (by rfl))| ((with_reducible refine D0 ?_);first|exact CA rfl|refine CJ ?_)|fail),aK,rfl⟩ ?_
 rintro u H1 nx1 hnx rfl KL hKL
 repeat' (first| (with_reducible first| (refine hK _ _ _ ?_;clear hK K)| (refine hB ?_;clear hA hB A B)|refine Z1 ?_|refine Z3 fun KB hKB=> ?_|refine Z5 (by omega) ?_|refine hKX _ _ _ ?_)| (first| (with_reducible first|refine Y2 fun K hK=> ?_|refine Y3 fun A B hA hB=> ?_)| (refine nZ (by omega) hn (by omega) o0 (fun H' nx' hx' f0 ffr=> ?_)))<;>(simp only[go_sem])| ((with_reducible refine Y9 ?_);try simp only[AQ.then,AQ.blk,reduceIte,Nat.reduceEqDiff])|fail)
 clear hKX
 (have hKX:=hKB;clear hKB)
 refine aM.gP (β:=Unit) (fun _=>en [(6,dI 20),(2,.one (.c (.clo bJ []))),(1,dI l.length),(0,.one (.c (.osl 5 i0 0 l.length cap)))]) (fun _ H2 _=>H2=H') (fun _=>0) () ⟨noF,_,by repeat' (first| (with_reducible first|exact C1|refine C2 ?_ ?_)| ((with_reducible refine C0 ?_);first|exact CQ (by omega) rfl rfl (by rfl) rfl|exact CH (by rfl))| ((with_reducible refine D0 ?_);first|exact CA rfl|refine CJ ?_)|fail),aK,rfl⟩ ?_
 rintro u H2 nx2 hnx2 rfl KM hKM
 repeat' (first| (with_reducible first| (refine hK _ _ _ ?_;clear hK K)| (refine hB ?_;clear hA hB A B)|refine Z1 ?_|refine Z5 (by omega) ?_|refine hKX _ _ _ ?_)| (with_reducible first|refine Y2 fun K hK=> ?_|refine Y3 fun A B hA hB=> ?_)<;>(simp only[go_sem])| ((with_reducible refine Y9 ?_);try simp only[AQ.then,AQ.blk,reduceIte,Nat.reduceEqDiff])| ((with_reducible refine Y0 ?_);simp only[AQ.then,AQ.blk])|fail)
 exact hQ _ _ _ _ _ (.inl rfl) rfl (h _ _ (by omega) f0 fun id e0 e1=>ffr id (by omega) e1)
theorem vX {l:List Job} {m cap i0:Nat} (hl:l.length<20) (hn:(l.map key).Nodup) (hi:i0<nx) (o0:H i0=some ⟨5,m,l.map aS⟩)
 (h: ∀H' nx',nx≤nx'→H' i0=some ⟨5,m,(jX l).map aS⟩→(∀id,id<nx→id≠i0→H' id=H id)→K (.tup []) H' nx'):
 aB Tryz.prog cG [.one (.c (.osl 5 i0 0 l.length cap)),.one (.c (.clo bJ []))] H nx K:=by
 refine mA rfl fun Q hQ=> ?_
 unfold dF
 repeat' (first| (with_reducible (refine hK _ _ _ ?_;clear hK K))| (first| (with_reducible refine Y2 fun K hK=> ?_)| (refine N6 hl hn (by omega) o0 (fun H' nx' hx' f0 ffr=> ?_)))<;>(simp only[go_sem])| ((with_reducible refine Y0 ?_);simp only[AQ.then,AQ.blk])|fail)
 exact hQ _ _ _ _ _ (.inl rfl) rfl (h _ _ (by omega) f0 fun id e0 e1=>ffr id (by omega) e1)
end
end Go.Proofs.YtegiblhkjfiooaaGreat
end
section
namespace Go.Proofs.YtegiblhkjfiooaaGreat
open Go Go.AM
set_option maxRecDepth 100000
set_option maxHeartbeats 8000000
theorem RA:cJ Tryz.prog zX Tryz.f39 yF GJ:=cJ.mk Tryz.func39 (by kernel_rfl) RY
end Go.Proofs.YtegiblhkjfiooaaGreat
namespace Go.AM
def IQ (H:aA) (lo hi t:Nat) (s:CSt) (A:List Int) (W D:List Job):Prop:=
 ∃ia iw id_ ca cw cd ma mw md,H t=some ⟨6,1,[[.isl (s.words.map aJ),.isl (s.holds.map aJ),.osl 1 ia 0 A.length ca,.osl 5 iw 0 W.length cw,.osl 5 id_ 0 D.length cd,.isl (s.told.map aS)]]⟩∧
  (H ia=some ⟨1,ma,A.map aJ⟩∧A.length≤ca∧ca≤ma)∧(H iw=some ⟨5,mw,W.map aS⟩∧W.length≤cw∧cw≤mw)∧(H id_=some ⟨5,md,D.map aS⟩∧D.length≤cd∧cd≤md)∧
  (lo≤ia∧ia<hi∧lo≤iw∧iw<hi∧lo≤id_∧id_<hi)∧ia≠iw∧ia≠id_∧iw≠id_
theorem IQ.frame {H H':aA} {lo hi hi' t:Nat} {s:CSt} {A:List Int} {W D:List Job} (h:IQ H lo hi t s A W D) (ht:t<lo) (hh:hi≤hi') (hf: ∀id,id<hi→(id=t∨lo≤id)→H' id=H id):IQ H' lo hi' t s A W D:=by
 obtain⟨ia,iw,id_,ca,cw,cd,ma,mw,md,h0,⟨h1,h2⟩,⟨h3,h4⟩,⟨h5,h6⟩,h7,h8⟩:=h
 exact⟨ia,iw,id_,ca,cw,cd,ma,mw,md,by rw[hf t (by omega) (.inl rfl)];exact h0,⟨by rw[hf _ (by omega) (.inr (by omega))];exact h1,h2⟩,⟨by rw[hf _ (by omega) (.inr (by omega))];exact h3,h4⟩,⟨by rw[hf _ (by omega) (.inr (by omega))];exact h5,h6⟩,by omega,h8⟩
theorem KO {H:aA} {nx i:Nat} {o o':bA} (ho:H i=some o) (h:CvO H noF id nx o' o):CvX noF nx H (H.set i o'):=fun j x hj=>by
 by_cases he:j=i
 ·subst he
  rw[aA.bH] at hj
  cases hj
  exact⟨fun h=>h,o,ho,.inr h⟩
 ·rw[aA.aC he] at hj
  exact⟨fun h=>h,x,hj,.inl rfl⟩
theorem CL {β:Type} {f:Nat→List β} {k:Nat}:(List.range (k+1)).flatMap f=(List.range k).flatMap f++f k:=by
 rw[List.range_succ,List.flatMap_append];simp
theorem QU {β:Type} {f:Nat→List β} {m:Nat} (n:Nat) (h: ∀k,k<n→(f k).length≤m):((List.range n).flatMap f).length≤m*n:=by
 induction n with
 |zero=>simp
 |succ n ih=>
  rw[CL,List.length_append]
  have h1:=ih fun k hk=>h k (by omega)
  have h2:=h n (by omega)
  rw[Nat.mul_succ];omega
theorem af0 {K:Env→aA→Nat→Prop} {e:Env} {G:aA} {n:Nat} (h: ∀G',G'=G→K e G' n):K e G n:=h G rfl
theorem as2 {H2 G:aA} {lo hi t:Nat} {s:CSt} {A:List Int} {W D:List Job} {ia iw id_ ca cd ma md x2 cap nx':Nat} {k n:Int}
 (az9:H2 ia=some ⟨1,ma,A.map aJ⟩) (az2:A.length≤ca∧ca≤ma) (aAC:H2 id_=some ⟨5,md,D.map aS⟩) (aAB:D.length≤cd∧cd≤md) (aa:lo≤ia∧ia<hi∧lo≤iw∧iw<hi∧lo≤id_∧id_<hi) (ab:ia≠iw) (ac:ia≠id_) (ad:iw≠id_) (ht:t<lo) (hx:hi≤x2∧x2<nx') (hcap:W.length+1≤cap)
 (g1:G t=some ⟨6,1,[[.isl (s.words.map aJ),.isl (s.holds.map aJ),.osl 1 ia 0 A.length ca,.osl 5 x2 0 (W.length+1) cap,.osl 5 id_ 0 D.length cd,.isl (s.told.map aS)]]⟩) (g2:G x2=some ⟨5,cap,W.map aS++[[cI k,cI n,cI 0,cI 0,.osl 0 0 0 0 0]]⟩) (g3: ∀id,id<hi→id≠iw→id≠t→G id=H2 id):
 ∃H',CvX noF nx' G H'∧IQ H' lo nx' t s A (W++[(⟨k,n,oW⟩:Job)]) D∧ ∀id,id≠x2→H' id=G id:=by
 refine⟨_,KO (i:=x2) (o':=⟨5,cap,(W++[(⟨k,n,oW⟩:Job)]).map aS⟩) g2 (uO (R:=W.map aS) (r':=aS (⟨k,n,oW⟩:Job)) (by rw[List.map_append];rfl) rfl (fun r hr=>(aG dZ _ r hr).2) rfl (aH (bB rfl) (aH (bB rfl) (aH (bB rfl) (aH (bB rfl) (aH (.frz (.nil ..)) eP)))))),?_,fun id e0=>aA.aC e0⟩
 refine⟨ia,x2,id_,ca,cap,cd,ma,cap,md,?_,⟨?_,az2⟩,⟨aA.bH,by simpa using hcap,Nat.le_refl _⟩,⟨?_,aAB⟩,by omega,by omega,by omega,by omega⟩
 ·rw[aA.aC (by omega),g1,List.length_append];rfl
 ·rw[aA.aC (by omega),g3 _ (by omega) ab (by omega)];exact az9
 ·rw[aA.aC (by omega),g3 _ (by omega) ad.symm (by omega)];exact aAC
theorem apO {F:Nat→Prop} {H H':aA} {nx t:Nat} {o o':bA} (h1: ∀j,F j→H' j=none) (h2:H' t=some o') (h3:H t=some o) (h4: ¬F t) (h5:CvO H F id nx o' o) (h6: ∀j,j≠t→¬F j→H' j=H j):CvX F nx H H':=fun j x hj=>by
 have hF: ¬F j:=fun h=>by rw[h1 j h] at hj;cases hj
 by_cases he:j=t
 ·subst he
  rw[h2] at hj
  cases hj
  exact⟨hF,o,h3,.inr h5⟩
 ·rw[h6 j he hF] at hj
  exact⟨hF,x,hj,.inl rfl⟩
def aq5 (b n:Nat) (H:aA):aA:=fun j=>if b≤j∧j<b+n then none else H j
theorem acA {b n j:Nat} {H:aA} (h: ¬(b≤j∧j<b+n)):aq5 b n H j=H j:=if_neg h
theorem ZW {b n nx:Nat} {H:aA}:CvX (fun j=>b≤j∧j<b+n) nx H (aq5 b n H):=fun j x hj=>by
 unfold aq5 at hj
 split at hj
 ·cases hj
 ·exact⟨by assumption,x,hj,.inl rfl⟩
end Go.AM
namespace Go.Proofs.YtegiblhkjfiooaaGreat
open Go Go.AM
set_option maxRecDepth 100000
set_option maxHeartbeats 8000000
section
variable {H : aA} {nx : Nat} {K : D → aA → Nat → Prop}
theorem T0 {c:Cfg} {s:CSt} (hb:aQ c) (hs:COk c s) (h: ∀H' nx',nx≤nx'→(∀id,id<nx→H' id=H id)→K (dA (eSt (cX s))) H' nx'):aB Tryz.prog zX [dA (eI s)] H nx K:=by
 have hpl:=hs.pl
 have hsl:=hs.sl
 refine aB.tW ?_
 refine RA rfl fun Q hQ=> ?_
 unfold yF
 repeat' (first| (with_reducible first| (refine hK _ _ _ ?_;clear hK K)|refine Z1 ?_|refine Z3 fun KB hKB=> ?_)| (with_reducible refine Y2 fun K hK=> ?_)<;>(simp only[go_sem,Nat.add_assoc,Nat.left_eq_add,Nat.add_eq_left,hpl])|fail)
 (have hKX:=hKB;clear hKB)
 refine aM.EJ 1 ?_
 refine aM.EJ 5 ?_
 refine aM.EJ 5 ?_
 refine aM.tW _ _ noF (fun t=>.inl rfl) (KO (i:=nx+7) (o:=⟨6,1,[[.isl (s.words.map aJ),.isl (s.holds.map aJ),.osl 0 0 0 0 0,.osl 0 0 0 0 0,.osl 0 0 0 0 0,.isl (s.told.map aS)]]⟩) (o':=⟨6,1,[[.isl (s.words.map aJ),.isl (s.holds.map aJ),.osl 1 (nx+13) 0 0 0,.osl 5 (nx+14) 0 0 0,.osl 5 (nx+15) 0 0 0,.isl (s.told.map aS)]]⟩) (by simp only[aA.set,Nat.add_assoc,Nat.add_left_cancel_iff,Nat.reduceEqDiff,Nat.reduceAdd,if_false,if_true]) (aP (aH (bB rfl) (aH (bB rfl) (aH (.VS ..) (aH (.VS ..) (aH (.VS ..) (aH (bB rfl) eP)))))))) ?_
 refine aM.TF fun G0 hG0=> ?_
 have c0:G0 nx=some ⟨5,1,[eI s]⟩:=by rw[hG0];simp only[aA.set,Nat.add_assoc,Nat.add_left_cancel_iff,Nat.reduceEqDiff,Nat.reduceAdd,Nat.left_eq_add,if_false,if_true]
 have c1:G0 (nx+1)=some ⟨6,1,[[.osl 0 0 0 0 0,.osl 0 0 0 0 0,.osl 0 0 0 0 0,.osl 0 0 0 0 0,.osl 0 0 0 0 0,.osl 0 0 0 0 0]]⟩:=by rw[hG0];simp only[aA.set,Nat.add_assoc,Nat.add_left_cancel_iff,Nat.reduceEqDiff,Nat.reduceAdd,Nat.left_eq_add,if_false,if_true]
 have cA:IQ G0 (nx+13) (nx+16) (nx+7) s [] [] []:=by
  refine⟨nx+13,nx+14,nx+15,0,0,0,0,0,0,?_,⟨?_,by simp,by simp⟩,⟨?_,by simp,by simp⟩,⟨?_,by simp,by simp⟩,by omega,by omega,by omega,by omega⟩<;>rw[hG0]<;>simp only[aA.set,Nat.add_assoc,Nat.add_left_cancel_iff,Nat.reduceEqDiff,Nat.reduceAdd,Nat.left_eq_add,if_false,if_true]<;>rfl
 have cfr: ∀id,id<nx→G0 id=H id:=fun id hid=>by
  rw[hG0];simp only[aA.set,Nat.add_assoc,show ¬id=nx by omega,show ¬id=nx+1 by omega,show ¬id=nx+7 by omega,show ¬id=nx+13 by omega,show ¬id=nx+(13+1) by omega,show ¬id=nx+(13+(1+1)) by omega,Nat.reduceAdd,show ¬id=nx+14 by omega,show ¬id=nx+15 by omega,if_false]
 clear hG0
 refine aM.gP (β:=Nat) (fun k=>en [(20,dI k),(19,dI 3),(18,dS (s.bM.map cD)),(3,.one (.c (.ptr 6 (nx+7) 0 0))),(2,.one (.c (.ptr 6 (nx+1) 0 0))),(1,.one (.c (.ptr 5 nx 0 0)))])
  (fun k H1 nx1=>k≤3∧IQ H1 (nx+13) nx1 (nx+7) s ((s.bM.take k).map (·.next)) ((List.range k).flatMap (jJ s)) []∧ ∀id,id<nx+13→id≠nx+7→H1 id=G0 id)
  (fun k=>3-k) 0 ⟨noF,_,by repeat' (first| (with_reducible first|exact C1|refine C2 ?_ ?_)| ((with_reducible refine C0 ?_);exact CE (by omega) rfl)| ((with_reducible refine D0 ?_);first|exact CA rfl|refine CJ ?_)|fail),aK,by omega,cA,fun _ _ _=>rfl⟩ ?_
 rintro k H1 nx1 hnx ⟨hk,hAt,hfr⟩ KL hKL
 have g0:H1 nx=some ⟨5,1,[eI s]⟩:=by rw[hfr _ (by omega) (by omega)];exact c0
 obtain⟨A,hAd⟩: ∃A,A=(s.bM.take k).map (·.next):=⟨_,rfl⟩
 obtain⟨W,hWd⟩: ∃W,W=(List.range k).flatMap (jJ s):=⟨_,rfl⟩
 have hAl:A.length=k:=by rw[hAd];simp;omega
 have hqs: ∀k,k<3→(jJ s k).length≤2:=fun k hk=>by have:=(hs.port k hk).ql;simpa [jJ] using this.1
 have hWl:W.length≤2*k:=by rw[hWd];exact QU k fun j hj=>hqs j (by omega)
 rw[←hAd,←hWd] at hAt
 obtain⟨ia,iw,id_,ca,cw,cd,ma,mw,md,az5,⟨az9,az2,aAD⟩,⟨aAE,aAA,aAF⟩,⟨aAC,aAB,aAG⟩,aa,ab,ac,ad⟩:=hAt
 have hA:bQ nx1 [nx,nx+1,nx+7,ia,iw,id_]:=AM.apart (by simp;omega) (by simp;omega)
 simp only[bQ,eZ] at hA
 by_cases hlt:k<3
 ·obtain⟨p,hpd⟩: ∃p,p=aF s k:=⟨_,rfl⟩
  have hpd':s.bM.getD k default=p:=hpd.symm
  have hpo:=hs.port k hlt
  rw[←hpd] at hpo
  have hql:=hpo.ql
  repeat' (first| (with_reducible first| (refine hK _ _ _ ?_;clear hK K)| (refine hA ?_;clear hA hB A B)|refine Z1 ?_|refine Z2 ?_|refine Z3 fun KB hKB=> ?_|refine Z4 (by omega) ?_|refine fun(cap:Nat) (hcap:_≤cap)=> ?_|refine fun(hcp:_≤cap)=> ?_)| (with_reducible first|refine Y2 fun K hK=> ?_|refine Y3 fun A B hA hB=> ?_)<;>(simp only[go_sem,Nat.add_assoc,Nat.left_eq_add,Nat.add_eq_left,hpd',az5,az9,aAE,aAC,hA,List.set])|refine⟨by omega,?_⟩|fail)
  (have hKY:=hKB;clear hKB)
  obtain⟨A',hA'd⟩: ∃A',A'=A++[p.next]:=⟨_,rfl⟩
  have hA'l:A'.length=A.length+1:=by rw[hA'd];simp
  refine aM.gP (β:=Nat) (fun i=>en [(35,dI i),(34,dI p.queue.length),(33,dS (p.queue.map aJ)),(20,dI k),(19,dI 3),(18,dS (s.bM.map cD)),(4,dI k),(3,.one (.c (.ptr 6 (nx+7) 0 0))),(2,.one (.c (.ptr 6 (nx+1) 0 0))),(1,.one (.c (.ptr 5 nx 0 0)))])
   (fun i H2 nx2=>i≤p.queue.length∧IQ H2 (nx+13) nx2 (nx+7) s A' (W++(jJ s k).take i) []∧ ∀id,id<nx+13→id≠nx+7→H2 id=G0 id)
   (fun i=>p.queue.length-i) 0 ⟨noF,_,by repeat' (first| (with_reducible first|exact C1|refine C2 ?_ ?_)| ((with_reducible refine C0 ?_);exact CE (by omega) rfl)| ((with_reducible refine D0 ?_);first|exact CA rfl|refine CJ ?_)|fail),aK,by omega,?_,fun id e0 e1=> ?_⟩ ?_
  ·rw[List.take_zero,List.append_nil]
   refine⟨nx1+12,iw,id_,cap,cw,cd,cap,mw,md,?_,⟨?_,by omega,Nat.le_refl _⟩,⟨?_,aAA,aAF⟩,⟨?_,aAB,aAG⟩,by omega,by omega,by omega,by omega⟩
   ·rw[hA'l,aA.bH];rfl
   ·rw[hA'd];simp only[aA.set,aA.del,hA,if_false,if_true]
   ·simp only[aA.set,aA.del,hA,if_false];exact aAE
   ·simp only[aA.set,aA.del,hA,if_false];exact aAC
  ·rw[aA.aC e1,aA.aC (by omega),aA.aC (by omega),aA.aC (by omega),aA.jG (by omega)]
   exact hfr id e0 e1
  clear az5 az9 aAE aAC aa ab ac ad hA
  rintro i H2 nx2 hnx2 ⟨hi,hAt,hfr2⟩ KM hKM
  obtain⟨W',hW'd⟩: ∃W',W'=W++(jJ s k).take i:=⟨_,rfl⟩
  have hW'l:W'.length≤2*k+2:=by have:=hqs k hlt;rw[hW'd,List.length_append,List.length_take];omega
  rw[←hW'd] at hAt
  obtain⟨ia,iw,id_,ca,cw,cd,ma,mw,md,az5,⟨az9,az2,aAD⟩,⟨aAE,aAA,aAF⟩,⟨aAC,aAB,aAG⟩,aa,ab,ac,ad⟩:=hAt
  have hA:bQ nx2 [nx,nx+1,nx+7,ia,iw,id_]:=AM.apart (by simp;omega) (by simp;omega)
  simp only[bQ,eZ] at hA
  by_cases hlt2:i<p.queue.length
  ·repeat' (first| (with_reducible first| (refine hK _ _ _ ?_;clear hK K)| (refine hA ?_;clear hA hB A B)|refine Z1 ?_|refine Z2 ?_|refine Z3 fun KB hKB=> ?_|refine Z4 (by omega) ?_|refine fun(cap:Nat) (hcap:_≤cap)=> ?_|refine fun(hcp:_≤cap)=> ?_)| (with_reducible first|refine Y2 fun K hK=> ?_|refine Y3 fun A B hA hB=> ?_)<;>(simp only[go_sem,Nat.add_assoc,Nat.left_eq_add,Nat.add_eq_left,az5,az9,aAE,aAC,hA,List.set];try simp (disch:=omega) only[Iw])| ((with_reducible refine Y0 ?_);simp only[AQ.then,AQ.blk])|refine⟨by omega,?_⟩| (with_reducible refine hKB _ _ _ ?_)|fail)
   refine af0 (K:=KM) fun G hG=> ?_
   obtain⟨H',q1,q2,q3⟩:=as2 (H2:=H2) (G:=G) (hi:=nx2) (lo:=nx+13) (t:=nx+7) (s:=s) (W:=W') (D:=[]) (x2:=nx2+10) (nx':=nx2+15) (k:=k) (n:=p.queue.getD i default) az9 ⟨az2,aAD⟩ aAC ⟨aAB,aAG⟩ aa ab ac ad (by omega) (by omega) hcap (by rw[hG];exact aA.bH) (by rw[hG,aA.aC (by omega)];exact aA.bH) (fun id e0 e1 e2=>by rw[hG,aA.aC e2,aA.aC (by omega),aA.aC (by omega),aA.jG e1])
   have q4: ∀id,id<nx+13→id≠nx+7→H' id=H2 id:=fun id e0 e1=>by rw[q3 id (by omega),hG,aA.aC e1,aA.aC (by omega),aA.aC (by omega),aA.jG (by omega)]
   have hWe:W++(jJ s k).take (i+1)=W'++[(⟨k,p.queue.getD i default,oW⟩:Job)]:=by
    rw[nK (by simpa [jJ,←hpd] using hlt2),←List.append_assoc,←hW'd]
    congr 2
    simp[jJ,←hpd,List.getD,hlt2]
   exact hKM _ _ _ (i+1) noF H' (by omega) (by omega) (by repeat' (first| (with_reducible first|exact C1|refine C2 ?_ ?_)| ((with_reducible refine C0 ?_);exact CE (by omega) rfl)| ((with_reducible refine D0 ?_);first|exact CA rfl|refine CJ ?_)|fail)) q1 ⟨by omega,by rw[hWe];exact q2,fun id e0 e1=>(q4 id e0 e1).trans (hfr2 id e0 e1)⟩
  ·repeat' (first| (with_reducible first| (refine hK _ _ _ ?_;clear hK K)| (refine hB ?_;clear hA hB A B)|refine Z1 ?_|refine Z5 (by omega) ?_|refine hKY _ _ _ ?_)| (with_reducible first|refine Y2 fun K hK=> ?_|refine Y3 fun A B hA hB=> ?_)<;>(simp only[go_sem];try simp (disch:=omega) only[Iw])| ((with_reducible refine Y9 ?_);try simp only[AQ.then,AQ.blk,reduceIte,Nat.reduceEqDiff])| ((with_reducible refine Y0 ?_);simp only[AQ.then,AQ.blk])| (with_reducible refine hKB _ _ _ ?_)|fail)
   have hi2:i=p.queue.length:=by omega
   have hWe:W'=(List.range (k+1)).flatMap (jJ s):=by
    rw[hW'd,CL,←hWd,List.take_of_length_le (by simp[jJ,←hpd];omega)]
   have hAe:A'=(s.bM.take (k+1)).map (·.next):=by
    rw[hA'd,nK (by omega),List.map_append,←hAd];rw[←hpd'];rfl
   exact hKL _ _ _ (k+1) noF _ (by omega) (by omega) (by repeat' (first| (with_reducible first|exact C1|refine C2 ?_ ?_)| ((with_reducible refine C0 ?_);exact CE (by omega) rfl)| ((with_reducible refine D0 ?_);first|exact CA rfl|refine CJ ?_)|fail)) aK ⟨by omega,by rw[←hWe,←hAe];exact⟨ia,iw,id_,ca,cw,cd,ma,mw,md,az5,⟨az9,az2,aAD⟩,⟨aAE,aAA,aAF⟩,⟨aAC,aAB,aAG⟩,by omega,ab,ac,ad⟩,hfr2⟩
 ·repeat' (first| (with_reducible first| (refine hK _ _ _ ?_;clear hK K)| (refine hB ?_;clear hA hB A B)|refine Z1 ?_|refine Z3 fun KB hKB=> ?_|refine Z5 (by omega) ?_|refine hKX _ _ _ ?_)| (with_reducible first|refine Y2 fun K hK=> ?_|refine Y3 fun A B hA hB=> ?_)<;>(simp only[go_sem,g0])| ((with_reducible refine Y9 ?_);try simp only[AQ.then,AQ.blk,reduceIte,Nat.reduceEqDiff])|fail)
  have hk3:k=3:=by omega
  subst hk3
  (have hKY:=hKB;clear hKB)
  have hvs: ∀k,k<4→(hJ s k).length≤2∧(aL s k).done.length≤2:=fun k hk=>⟨by have:=(hs.slv k hk).pl;simpa [hJ] using this,(hs.slv k hk).dl⟩
  refine aM.gP (β:=Nat) (fun k=>en [(52,dI k),(51,dI 4),(50,dS (s.dD.map gF)),(3,.one (.c (.ptr 6 (nx+7) 0 0))),(2,.one (.c (.ptr 6 (nx+1) 0 0)))])
   (fun k H1 nx1=>k≤4∧IQ H1 (nx+13) nx1 (nx+7) s A (W++(List.range k).flatMap (hJ s)) ((List.range k).flatMap fun k=>(aL s k).done)∧ ∀id,id<nx+13→id≠nx+7→H1 id=G0 id)
   (fun k=>4-k) 0 ⟨noF,_,by repeat' (first| (with_reducible first|exact C1|refine C2 ?_ ?_)| ((with_reducible refine C0 ?_);first|exact CE (by omega) rfl| (exact CG (by(congr 2;omega)) rfl))| ((with_reducible refine D0 ?_);first|exact CA rfl|refine CJ ?_)|fail),aK,by omega,?_,hfr⟩ ?_
  ·simp only[List.range_zero,List.flatMap_nil,List.append_nil]
   exact⟨ia,iw,id_,ca,cw,cd,ma,mw,md,az5,⟨az9,az2,aAD⟩,⟨aAE,aAA,aAF⟩,⟨aAC,aAB,aAG⟩,by omega,ab,ac,ad⟩
  clear az5 az9 aAE aAC aa ab ac ad hA hfr g0
  rintro k H2 nx2 hnx2 ⟨hk,hAt,hfr⟩ KM hKM
  obtain⟨W',hW'd⟩: ∃W',W'=W++(List.range k).flatMap (hJ s):=⟨_,rfl⟩
  obtain⟨D,hDd⟩: ∃D,D=(List.range k).flatMap fun k=>(aL s k).done:=⟨_,rfl⟩
  have hW'l:W'.length≤6+2*k:=by
   have:=QU (f:=hJ s) (m:=2) k fun j hj=>(hvs j (by omega)).1
   rw[hW'd,List.length_append];omega
  have hDl:D.length≤2*k:=by rw[hDd];exact QU k fun j hj=>(hvs j (by omega)).2
  rw[←hW'd,←hDd] at hAt
  obtain⟨ia,iw,id_,ca,cw,cd,ma,mw,md,az5,⟨az9,az2,aAD⟩,⟨aAE,aAA,aAF⟩,⟨aAC,aAB,aAG⟩,aa,ab,ac,ad⟩:=hAt
  by_cases hlt:k<4
  ·obtain⟨v,hvd⟩: ∃v,v=aL s k:=⟨_,rfl⟩
   have hvd':s.dD.getD k default=v:=hvd.symm
   obtain⟨hv1,hv2⟩:=hvs k hlt
   have hv1':v.pipe.length≤2:=by simpa [hJ,←hvd] using hv1
   rw[←hvd] at hv2
   repeat' (first| (with_reducible first| (refine hK _ _ _ ?_;clear hK K)| (refine hA ?_;clear hA hB A B)|refine Z1 ?_|refine Z2 ?_|refine Z3 fun KB hKB=> ?_|refine Z4 (by omega) ?_)| (with_reducible first|refine Y2 fun K hK=> ?_|refine Y3 fun A B hA hB=> ?_)<;>(simp only[go_sem,Nat.add_assoc,Nat.left_eq_add,Nat.add_eq_left,hvd',az5,List.set])|refine⟨by omega,?_⟩|fail)
   (have hKZ:=hKB;clear hKB)
   refine aM.gP (β:=Nat) (fun i=>en [(59,dI i),(58,dI v.pipe.length),(57,dS (v.pipe.map eCJ)),(52,dI k),(51,dI 4),(50,dS (s.dD.map gF)),(9,.one (.c (.ptr 3 (nx2+3) 0 0))),(3,.one (.c (.ptr 6 (nx+7) 0 0))),(2,.one (.c (.ptr 6 (nx+1) 0 0)))])
    (fun i H3 nx3=>i≤v.pipe.length∧IQ H3 (nx+13) nx3 (nx+7) s A (W'++(hJ s k).take i) D∧H3 (nx2+3)=some ⟨3,1,[gF v]⟩∧ ∀id,id<nx+13→id≠nx+7→H3 id=G0 id)
    (fun i=>v.pipe.length-i) 0 ⟨noF,_,by repeat' (first| (with_reducible first|exact C1|refine C2 ?_ ?_)| ((with_reducible refine C0 ?_);exact CE (by omega) rfl)| ((with_reducible refine D0 ?_);first|exact CA rfl|refine CJ ?_)|fail),aK,by omega,?_,aA.bH,fun id e0 e1=>by rw[aA.aC (by omega)];exact hfr id e0 e1⟩ ?_
   ·rw[List.take_zero,List.append_nil]
    refine IQ.frame (hi:=nx2) ⟨ia,iw,id_,ca,cw,cd,ma,mw,md,az5,⟨az9,az2,aAD⟩,⟨aAE,aAA,aAF⟩,⟨aAC,aAB,aAG⟩,aa,ab,ac,ad⟩ (by omega) (by omega) fun id e0 _=>aA.aC (by omega)
   clear az5 az9 aAE aAC aa ab ac ad hfr
   rintro i H3 nx3 hnx3 ⟨hi,hAt,g9,hfr⟩ KN hKN
   obtain⟨W3,hW3d⟩: ∃W3,W3=W'++(hJ s k).take i:=⟨_,rfl⟩
   have hW3l:W3.length≤8+2*k:=by rw[hW3d,List.length_append,List.length_take];omega
   rw[←hW3d] at hAt
   obtain⟨ia,iw,id_,ca,cw,cd,ma,mw,md,az5,⟨az9,az2,aAD⟩,⟨aAE,aAA,aAF⟩,⟨aAC,aAB,aAG⟩,aa,ab,ac,ad⟩:=hAt
   have n1:nx2+3≠ia:=fun he=>by rw[←he,g9] at az9;simp at az9
   have n2:nx2+3≠iw:=fun he=>by rw[←he,g9] at aAE;simp at aAE
   have n3:nx2+3≠id_:=fun he=>by rw[←he,g9] at aAC;simp at aAC
   have hA:bQ nx3 [nx,nx+1,nx+7,nx2+3,ia,iw,id_]:=AM.apart (by simp;omega) (by simp;omega)
   simp only[bQ,eZ] at hA
   by_cases hlt2:i<v.pipe.length
   ·repeat' (first| (with_reducible first| (refine hK _ _ _ ?_;clear hK K)| (refine hA ?_;clear hA hB A B)|refine Z1 ?_|refine Z2 ?_|refine Z3 fun KB hKB=> ?_|refine Z4 (by omega) ?_|refine fun(cap:Nat) (hcap:_≤cap)=> ?_|refine fun(hcp:_≤cap)=> ?_)| (with_reducible first|refine Y2 fun K hK=> ?_|refine Y3 fun A B hA hB=> ?_)<;>(simp only[go_sem,Nat.add_assoc,Nat.left_eq_add,Nat.add_eq_left,az5,az9,aAE,aAC,g9,hA,List.set];try simp (disch:=omega) only[Iw])| ((with_reducible refine Y0 ?_);simp only[AQ.then,AQ.blk])|refine⟨by omega,?_⟩| (with_reducible refine hKB _ _ _ ?_)|fail)
    refine af0 (K:=KN) fun G hG=> ?_
    obtain⟨H',q1,q2,q3⟩:=as2 (H2:=H3) (G:=G) (hi:=nx3) (lo:=nx+13) (t:=nx+7) (s:=s) (W:=W3) (D:=D) (x2:=nx3+13) (nx':=nx3+18) (k:=(v.pipe.getD i default).who) (n:=(v.pipe.getD i default).n) az9 ⟨az2,aAD⟩ aAC ⟨aAB,aAG⟩ aa ab ac ad (by omega) (by omega) hcap (by rw[hG];exact aA.bH) (by rw[hG,aA.aC (by omega)];exact aA.bH) (fun id e0 e1 e2=>by rw[hG,aA.aC e2,aA.aC (by omega),aA.aC (by omega),aA.aC (by omega),aA.jG e1])
    have q4: ∀id,id<nx+13→id≠nx+7→H' id=H3 id:=fun id e0 e1=>by rw[q3 id (by omega),hG,aA.aC e1,aA.aC (by omega),aA.aC (by omega),aA.aC (by omega),aA.jG (by omega)]
    have hWe:W'++(hJ s k).take (i+1)=W3++[(⟨(v.pipe.getD i default).who,(v.pipe.getD i default).n,oW⟩:Job)]:=by
     rw[nK (by simpa [hJ,←hvd] using hlt2),←List.append_assoc,←hW3d]
     congr 2
     simp[hJ,←hvd,List.getD,hlt2]
    exact hKN _ _ _ (i+1) noF H' (by omega) (by omega) (by repeat' (first| (with_reducible first|exact C1|refine C2 ?_ ?_)| ((with_reducible refine C0 ?_);exact CE (by omega) rfl)| ((with_reducible refine D0 ?_);first|exact CA rfl|refine CJ ?_)|fail)) q1 ⟨by omega,by rw[hWe];exact q2,by rw[q3 _ (by omega),hG,aA.aC (by omega),aA.aC (by omega),aA.aC (by omega),aA.aC (by omega),aA.jG n2];exact g9,fun id e0 e1=>(q4 id e0 e1).trans (hfr id e0 e1)⟩
   ·have hi2:i=v.pipe.length:=by omega
    have hWe:W3=W++(List.range (k+1)).flatMap (hJ s):=by
     rw[hW3d,CL,←List.append_assoc,←hW'd,List.take_of_length_le (by simp[hJ,←hvd];omega)]
    repeat' (first| (with_reducible first| (refine hK _ _ _ ?_;clear hK K)| (refine hB ?_;clear hA hB A B)|refine Z1 ?_|refine Z5 (by omega) ?_|refine fun(cap:Nat) (hcap:_≤cap)=> ?_|refine fun(hcp:_≤cap)=> ?_|refine hKZ _ _ _ ?_)| (with_reducible first|refine Y2 fun K hK=> ?_|refine Y3 fun A B hA hB=> ?_)<;>(simp only[go_sem,Nat.add_assoc,Nat.left_eq_add,Nat.add_eq_left,az5,az9,aAE,aAC,g9,hA,List.set];try simp (disch:=omega) only[Iw])| ((with_reducible refine Y9 ?_);try simp only[AQ.then,AQ.blk,reduceIte,Nat.reduceEqDiff])| ((with_reducible refine Y0 ?_);simp only[AQ.then,AQ.blk])|refine⟨by omega,?_⟩| (with_reducible refine hKB _ _ _ ?_)|fail)
    have hDe:D++v.done=(List.range (k+1)).flatMap fun k=>(aL s k).done:=by rw[CL,←hDd,hvd]
    have hcp:D.length+v.done.length≤cap:=by omega
    refine hKM _ _ _ (k+1) noF _ (by omega) (by omega) (by repeat' (first| (with_reducible first|exact C1|refine C2 ?_ ?_)| ((with_reducible refine C0 ?_);exact CE (by omega) rfl)| ((with_reducible refine D0 ?_);first|exact CA rfl|refine CJ ?_)|fail)) aK ⟨by omega,?_,fun id e0 e1=>by rw[aA.aC e1,aA.aC (by omega),aA.jG (by omega)];exact hfr id e0 e1⟩
    rw[←hWe,←hDe]
    refine⟨ia,iw,nx3+5,ca,cw,cap,ma,mw,cap,?_,⟨?_,az2,aAD⟩,⟨?_,aAA,aAF⟩,⟨?_,by simpa using hcp,Nat.le_refl _⟩,by omega,by omega,by omega,by omega⟩
    ·rw[aA.bH,List.length_append]
    ·rw[aA.aC (by omega),aA.aC (by omega),aA.jG ac];exact az9
    ·rw[aA.aC (by omega),aA.aC (by omega),aA.jG ad];exact aAE
    ·rw[aA.aC (by omega),aA.bH,List.map_append]
  ·repeat' (first| (with_reducible first| (refine hK _ _ _ ?_;clear hK K)| (refine hB ?_;clear hA hB A B)|refine Z1 ?_|refine Z5 (by omega) ?_|refine hKY _ _ _ ?_)| (with_reducible first|refine Y2 fun K hK=> ?_|refine Y3 fun A B hA hB=> ?_)<;>(simp only[go_sem,az5])| ((with_reducible refine Y9 ?_);try simp only[AQ.then,AQ.blk,reduceIte,Nat.reduceEqDiff])|fail)
   have hk4:k=4:=by omega
   subst hk4
   have hwt:W'=qU s:=by rw[hW'd,hWd];unfold qU;rw[hpl,hsl]
   have hdt:D=uQ s:=by rw[hDd];unfold uQ;rw[hsl]
   have hAt:A=s.bM.map (·.next):=by rw[hAd,List.take_of_length_le (by omega)]
   have hnw:(W'.map key).Nodup:=by rw[hwt];exact((fH _).map key).nodup_iff.1 (zG hs.st.NR)
   have hnd:(D.map key).Nodup:=by rw[hdt];exact((fH _).map key).nodup_iff.1 (zG hs.st.NW)
   refine vX (l:=W') (by omega) hnw (by omega) aAE fun H3 nx3 hx3 f4 ffr=> ?_
   have f0:=(ffr (nx+7) (by omega) (by omega)).trans az5
   have f1:=(ffr ia (by omega) ab).trans az9
   have f7:=(ffr id_ (by omega) ad.symm).trans aAC
   simp only[go_sem]
   repeat' (first| (with_reducible first| (refine hK _ _ _ ?_;clear hK K)|refine Z1 ?_)| (with_reducible refine Y2 fun K hK=> ?_)<;>(simp only[go_sem,f0])|fail)
   refine vX (l:=D) (by omega) hnd (by omega) f7 fun H4 nx4 hx4 e7 efr=> ?_
   have e0:=(efr (nx+7) (by omega) (by omega)).trans f0
   have e1:=(efr ia (by omega) ac).trans f1
   have e4:=(efr iw (by omega) ad).trans f4
   have ex:=((efr (nx+1) (by omega) (by omega)).trans ((ffr (nx+1) (by omega) (by omega)).trans ((hfr _ (by omega) (by omega)).trans c1)))
   have elo: ∀id,id<nx→H4 id=H id:=fun id hid=>(efr id (by omega) (by omega)).trans ((ffr id (by omega) (by omega)).trans ((hfr id (by omega) (by omega)).trans (cfr id hid)))
   simp only[go_sem]
   refine hK _ _ _ ?_
   have hlw:(jX W').length=W'.length:=(fH _).length_eq
   have hld:(jX D).length=D.length:=(fH _).length_eq
   have heS:eSt (cX s)=[.isl (s.words.map aJ),.isl (s.holds.map aJ),.isl (A.map aJ),.isl ((jX W').map aS),.isl ((jX D).map aS),.isl (s.told.map aS)]:=by rw[hAt,hwt,hdt];rfl
   obtain⟨H5,hH5⟩: ∃H5:aA,H5=fun j=>if j=ia∨j=iw∨j=id_ then none else if j=nx+7 then some ⟨6,1,[eSt (cX s)]⟩ else H4 j:=⟨_,rfl⟩
   have q5: ∀j,j≠ia→j≠iw→j≠id_→j≠nx+7→H5 j=H4 j:=fun j h1 h2 h3 h4=>by rw[hH5];simp only[h1,h2,h3,h4,or_self,if_false]
   have q7:H5 (nx+7)=some ⟨6,1,[eSt (cX s)]⟩:=by rw[hH5];simp only[show ¬nx+7=ia by omega,show ¬nx+7=iw by omega,show ¬nx+7=id_ by omega,or_self,if_false,if_true]
   refine aM.tW _ H5 (fun j=>j=ia∨j=iw∨j=id_) (fun t=>.inl rfl) (apO (t:=nx+7) (fun j hj=>by rw[hH5];simp only[hj,if_true]) q7 e0 (by omega) (aP ?_) fun j h1 h2=>q5 j (fun h=>h2 (.inl h)) (fun h=>h2 (.inr (.inl h))) (fun h=>h2 (.inr (.inr h))) h1) ?_
   ·rw[heS]
    exact aH (bB rfl) (aH (bB rfl) (aH (bW bF e1 rfl az2 (.inl rfl)) (aH (bW dZ e4 hlw.symm (by omega) (.inr (.inl rfl))) (aH (bW dZ e7 hld.symm (by omega) (.inr (.inr rfl))) (aH (bB rfl) eP)))))
   have qx:=(q5 (nx+1) (by omega) (by omega) (by omega) (by omega)).trans ex
   have qlo: ∀id,id<nx→H5 id=H id:=fun id hid=>(q5 id (by omega) (by omega) (by omega) (by omega)).trans (elo id hid)
   clear hK
   have hst:=hs.st
   have hz: ∀k,(nx=nx4+k)=False:=fun k=>eq_false (by omega)
   generalize hS:cX s=S at*
   repeat' (first| (with_reducible first| (refine hK _ _ _ ?_;clear hK K)|refine Z1 ?_)| (first| (with_reducible refine Y2 fun K hK=> ?_)| (refine CM (c:=c) (s:=S) hb hst (fun m0 m1 m2 m3 m4 m5 hm=> ?_)))<;>(simp only[go_sem,Nat.add_assoc,Nat.left_eq_add,q7,qx,hz,oIm])| ((with_reducible refine Y8 ?_);try simp only[AQ.then,AQ.blk,reduceIte,Nat.reduceEqDiff])|fail)
   refine hQ _ _ _ _ _ (.inr rfl) (fZ rfl aA.bH rfl) ⟨dA (eSt S),_,fun j=>nx4+3≤j∧j<nx4+3+6,lY (aH (bW bF (m:=m0) (by simp only[aA.set,Nat.add_left_cancel_iff,Nat.reduceEqDiff,show ¬nx4+3=nx+1 by omega,if_false,if_true]) rfl (Nat.le_refl _) (by omega)) (aH (bW bF (m:=m1) (by simp only[aA.set,Nat.add_left_cancel_iff,Nat.reduceEqDiff,show ¬nx4+4=nx+1 by omega,if_false,if_true]) rfl (Nat.le_refl _) (by omega)) (aH (bW bF (m:=m2) (by simp only[aA.set,Nat.add_left_cancel_iff,Nat.reduceEqDiff,show ¬nx4+5=nx+1 by omega,if_false,if_true]) rfl (Nat.le_refl _) (by omega)) (aH (bW dZ (m:=m3) (by simp only[aA.set,Nat.add_left_cancel_iff,Nat.reduceEqDiff,show ¬nx4+6=nx+1 by omega,if_false,if_true]) rfl (Nat.le_refl _) (by omega)) (aH (bW dZ (m:=m4) (by simp only[aA.set,Nat.add_left_cancel_iff,Nat.reduceEqDiff,show ¬nx4+7=nx+1 by omega,if_false,if_true]) rfl (Nat.le_refl _) (by omega)) (aH (bW dZ (m:=m5) (by simp only[aA.set,Nat.add_left_cancel_iff,Nat.reduceEqDiff,show ¬nx4+8=nx+1 by omega,if_false,if_true]) rfl (Nat.le_refl _) (by omega)) eP)))))),ZW,h _ _ (by omega) fun id hid=> ?_⟩
   rw[acA (by omega),aA.aC (by omega),aA.aC (by omega),aA.aC (by omega),aA.aC (by omega),aA.aC (by omega),aA.aC (by omega),aA.aC (by omega)]
   exact qlo id hid
end
end Go.Proofs.YtegiblhkjfiooaaGreat
end
