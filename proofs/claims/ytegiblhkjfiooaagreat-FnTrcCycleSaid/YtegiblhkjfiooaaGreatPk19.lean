/- Texts laid together by a program: rules, contracts and the walk that leads to the law. -/
import Derived.Test.YtegiblhkjfiooaaGreatPk18
import Derived.Test.YtegiblhkjfiooaaGreatPk16
import Derived.Test.YtegiblhkjfiooaaGreatPk12
import Derived.Test.YtegiblhkjfiooaaGreatPk13
import Derived.Test.YtegiblhkjfiooaaGreatPk9
import Derived.Test.YtegiblhkjfiooaaGreatPk15
set_option linter.unusedVariables false
set_option linter.unusedSimpArgs false
set_option linter.unusedSectionVars false
section
namespace Go.Proofs.YtegiblhkjfiooaaGreat
open Go Go.AM
set_option maxRecDepth 100000
set_option maxHeartbeats 8000000
theorem CD:d8 Tryz.prog iN Tryz.f63 lC rG:=d8.mk Tryz.func63 (by kernel_rfl) DF
end Go.Proofs.YtegiblhkjfiooaaGreat
namespace Go.AM
structure Part (A:Nat→Prop) (lo hi:Nat) (nm:Nat→Nat):Prop where
 inj: ∀j k,A j→A k→nm j=nm k→j=k
 rng: ∀k,A k→lo≤nm k∧nm k<hi
theorem Part.mono {A:Nat→Prop} {lo hi hi':Nat} {nm:Nat→Nat} (h:Part A lo hi nm) (hh:hi≤hi'):Part A lo hi' nm:=⟨h.inj,fun k hk=>by have:=h.rng k hk;omega⟩
theorem Part.put {A B:Nat→Prop} {lo hi hi' k v:Nat} {nm:Nat→Nat} (h:Part A lo hi nm) (h0:lo≤hi) (h1:hi≤v) (h2:v<hi') (hB: ∀j,B j→A j∧j≠k∨j=k):Part B lo hi' (put nm k v):=by
 refine⟨fun i j hi hj he=> ?_,fun j hj=> ?_⟩
 ·rcases hB i hi with⟨a1,a2⟩|rfl<;>rcases hB j hj with⟨b1,b2⟩|rfl
  ·rw[jZ a2,jZ b2] at he;exact h.inj i j a1 b1 he
  ·rw[jZ a2,wB] at he;have:=h.rng i a1;omega
  ·rw[jZ b2,wB] at he;have:=h.rng j b1;omega
  ·rfl
 ·rcases hB j hj with⟨a1,a2⟩|rfl
  ·rw[jZ a2];have:=h.rng j a1;omega
  ·rw[wB];omega
structure CSz (s:CSt):Prop where
 pl:s.bS.length=3
 sl:s.eL.length=4
 w:s.words.length<2^20
 h:s.holds.length<2^20
 t:s.told.length<2^20∧ ∀j∈s.told,j.rsp.data.length<2^20
 port: ∀k,k<3→(aS s k).queue.length<2^20∧(aS s k).out.length<2^20
 slv: ∀k,k<4→(bA s k).pipe.length<2^20∧(bA s k).done.length<2^20∧ ∀j∈(bA s k).done,j.rsp.data.length<2^20
theorem aQ.WA {P:Program} {T:Nat} {e:Env} {H:aA} {nx:Nat} {Q:AQ} {zs:List AC} (h: ∀G,G=H→aQ P T zs e G nx Q):aQ P T zs e H nx Q:=h H rfl
def ar0 (k:Nat) (H:aA) (nm:Nat→Nat) (s:CSt) (rows:List (List D1)):Prop:=
 rows.length=3∧(∀j,j<k→∃r,rows[j]?=some r∧ED H (nm (5+j)) (nm (8+j)) (aS s j) r)∧ ∀j,k≤j→j<3→rows[j]?=some (cD (aS s j))
def arV (k:Nat) (H:aA) (nm:Nat→Nat) (s:CSt) (rows:List (List D1)):Prop:=
 rows.length=4∧(∀j,j<k→∃r,rows[j]?=some r∧MQ H (nm (11+j)) (nm (15+j)) (bA s j) r)∧ ∀j,k≤j→j<4→rows[j]?=some (gM (bA s j))
end Go.AM
namespace Go.Proofs.YtegiblhkjfiooaaGreat
open Go Go.AM
set_option maxRecDepth 100000
set_option maxHeartbeats 8000000
section
variable {H : aA} {nx : Nat} {K : D → aA → Nat → Prop}
theorem sY {s:CSt} (hs:CSz s)
 (h: ∀H' nx' nm cells,nx≤nx'→ad6 H' nm s cells→Part (fun k=>k<19) nx nx' nm→(∀id,id<nx→H' id=H id)→K (.one (.agg cells)) H' nx'):
 aB Tryz.prog iN [dA (lD s)] H nx K:=by
 have hpl:=hs.pl
 have hsl:=hs.sl
 refine CD rfl fun Q hQ=> ?_
 unfold lC
 refine aQ.EI fun hnm=> ?_
 have hmk: ∀k l,msk (nx+k) l H=H:=fun k l=>DZ hnm (by omega)
 repeat' (first| (with_reducible first| (refine hK _ _ _ ?_;clear hK K)|refine Z1 ?_|refine Z3 fun KB hKB=> ?_)| (first| (with_reducible refine Y2 fun K hK=> ?_)| (refine s7 (w:=s.words) (u:=s.holds) hs.w hs.h (fun m0 m1 hm0 hm1=> ?_))| (refine zU (l:=s.bS) (by omega) (fun m2 hm2=> ?_))| (refine y5 (l:=s.eL) (by omega) (fun m3 hm3=> ?_))| (refine lX (l:=s.told) hs.t.1 hs.t.2 (fun m4 hm4=> ?_)))<;>(simp only[go_sem,Nat.add_assoc,Nat.left_eq_add,Nat.add_eq_left,hmk,umS (G:=H),umD (G:=H),umB,msk,List.map,List.mem_cons,List.not_mem_nil,or_false,hpl,hsl])|fail)
 refine aQ.WA fun G0 hG0=> ?_
 have c0:G0 nx=some ⟨5,1,[lD s]⟩:=by rw[hG0];simp only[aA.set,Nat.add_left_cancel_iff,Nat.reduceEqDiff,Nat.add_eq_left,Nat.left_eq_add,if_false,if_true]
 have c1:G0 (nx+1)=some ⟨5,1,[[.osl 0 0 0 0 0,.osl 0 0 0 0 0,.osl 0 0 0 0 0,.osl 0 0 0 0 0,.osl 0 0 0 0 0]]⟩:=by rw[hG0];simp only[aA.set,Nat.add_left_cancel_iff,Nat.reduceEqDiff,Nat.add_eq_left,Nat.left_eq_add,if_false,if_true]
 have c15:G0 (nx+15)=some ⟨5,1,[[.osl 1 (nx+17) 0 s.words.length s.words.length,.osl 1 (nx+18) 0 s.holds.length s.holds.length,.osl 4 (nx+19) 0 3 3,.osl 3 (nx+20) 0 4 4,.osl 5 (nx+21) 0 s.told.length s.told.length]]⟩:=by rw[hG0];simp only[aA.set,Nat.add_left_cancel_iff,Nat.reduceEqDiff,Nat.add_eq_left,Nat.left_eq_add,if_false,if_true]
 have c17:G0 (nx+17)=some ⟨1,m0,s.words.map aE⟩:=by rw[hG0];simp only[aA.set,Nat.add_left_cancel_iff,Nat.reduceEqDiff,Nat.add_eq_left,Nat.left_eq_add,if_false,if_true]
 have c18:G0 (nx+18)=some ⟨1,m1,s.holds.map aE⟩:=by rw[hG0];simp only[aA.set,Nat.add_left_cancel_iff,Nat.reduceEqDiff,Nat.add_eq_left,Nat.left_eq_add,if_false,if_true]
 have c19:G0 (nx+19)=some ⟨4,m2,s.bS.map cD⟩:=by rw[hG0];simp only[aA.set,Nat.add_left_cancel_iff,Nat.reduceEqDiff,Nat.add_eq_left,Nat.left_eq_add,if_false,if_true]
 have c20:G0 (nx+20)=some ⟨3,m3,s.eL.map gM⟩:=by rw[hG0];simp only[aA.set,Nat.add_left_cancel_iff,Nat.reduceEqDiff,Nat.add_eq_left,Nat.left_eq_add,if_false,if_true]
 have c21:G0 (nx+21)=some ⟨5,m4,s.told.map aK⟩:=by rw[hG0];simp only[aA.set,Nat.add_left_cancel_iff,Nat.reduceEqDiff,Nat.add_eq_left,Nat.left_eq_add,if_false,if_true]
 have cfr: ∀id,id<nx→G0 id=H id:=fun id hid=>by
  rw[hG0];simp only[aA.set,show ¬id=nx by omega,show ¬id=nx+1 by omega,show ¬id=nx+15 by omega,show ¬id=nx+17 by omega,show ¬id=nx+18 by omega,show ¬id=nx+19 by omega,show ¬id=nx+20 by omega,show ¬id=nx+21 by omega,if_false]
 clear hG0
 (have hKX:=hKB;clear hKB)
 refine aQ.iI (β:=Nat×(Nat→Nat)) (fun u=>en [(24,dI u.1),(23,dI 3),(22,dS (s.bS.map cD)),(3,.one (.c (.ptr 5 (nx+15) 0 0))),(2,.one (.c (.ptr 5 (nx+1) 0 0))),(1,.one (.c (.ptr 5 nx 0 0)))])
  (fun u H1 nx1=>u.1≤3∧(∀j,j<5→u.2 j=nx+17+j)∧Part (fun j=>j<5∨(5≤j∧j<5+u.1)∨(8≤j∧j<8+u.1)) (nx+17) nx1 u.2∧(∀id,id<nx+22→id≠nx+19→H1 id=G0 id)∧ ∃rows,H1 (nx+19)=some ⟨4,m2,rows⟩∧ar0 u.1 H1 u.2 s rows)
  (fun u=>3-u.1) (0,fun j=>nx+17+j) ⟨noF,_,by repeat' (first| (with_reducible first|exact C1|refine C2 ?_ ?_)| ((with_reducible refine C0 ?_);exact CE (by omega) rfl)| ((with_reducible refine D0 ?_);first|exact CA rfl|refine CJ ?_)|fail),aL,by dsimp only;omega,fun _ _=>rfl,⟨fun j k _ _ he=>by dsimp only at he;omega,fun j hj=>by dsimp only at hj ⊢;omega⟩,fun _ _ _=>rfl,_,c19,by simpa using hpl,fun j hj=>by dsimp only at hj;omega,fun j _ hj=>by rw[List.getElem?_map];simp[aS,List.getD,show j<s.bS.length by omega]⟩ ?_
 rintro⟨k,nm⟩ H1 nx1 hnx ⟨hk,hn5,hP,hfr,rows,g19,hR1,hR2,hR3⟩ KL hKL
 dsimp only at hk hn5 hP hR2 hR3
 have g0:H1 nx=some ⟨5,1,[lD s]⟩:=by rw[hfr _ (by omega) (by omega)];exact c0
 have g15:H1 (nx+15)=some ⟨5,1,[[.osl 1 (nx+17) 0 s.words.length s.words.length,.osl 1 (nx+18) 0 s.holds.length s.holds.length,.osl 4 (nx+19) 0 3 3,.osl 3 (nx+20) 0 4 4,.osl 5 (nx+21) 0 s.told.length s.told.length]]⟩:=by rw[hfr _ (by omega) (by omega)];exact c15
 have hA:bT nx1 [nx,nx+1,nx+15,nx+19,nx+20]:=AM.apart (by simp) (by simp;omega)
 simp only[bT,fN] at hA
 by_cases hlt:k<3
 ·obtain⟨p,hpd⟩: ∃p,p=aS s k:=⟨_,rfl⟩
  have hpd':s.bS.getD k default=p:=hpd.symm
  obtain⟨hq,ho⟩:=hs.port k hlt
  rw[←hpd] at hq ho
  have hgk: ∀r,(rows.set k r)[k]?=some r:=fun r=>by rw[List.getElem?_set_self (by omega)]
  have hrk:=hR3 k (Nat.le_refl _) hlt
  rw[←hpd] at hrk
  refine aQ.EI fun hnm1=> ?_
  have hmk1: ∀k l,msk (nx1+k) l H1=H1:=fun k l=>DZ hnm1 (by omega)
  repeat' (first| (with_reducible first| (refine hK _ _ _ ?_;clear hK K)| (refine hA ?_;clear hA hB A B)|refine Z1 ?_|refine Z2 ?_|refine Z3 fun KB hKB=> ?_|refine Z4 (by omega) ?_)| (first| (with_reducible first|refine Y2 fun K hK=> ?_|refine Y3 fun A B hA hB=> ?_)| (refine lH (l:=p.queue) hq (fun mq hmq=> ?_))| (refine pX (l:=p.out) ho (fun mo hmo=> ?_)))<;>(simp only[go_sem,Nat.add_assoc,Nat.left_eq_add,Nat.add_eq_left,hmk1,umS (G:=H1),umD (G:=H1),umB,msk,List.map,List.mem_cons,List.not_mem_nil,or_false,hpd',hgk,hrk,List.set_set,g0,g15,g19,hA];try simp (disch:=omega) only[Iw])| ((with_reducible refine Y0 ?_);simp only[AQ.then,AQ.blk])|refine⟨by omega,?_⟩| (with_reducible refine hKB _ _ _ ?_)|fail)
  have hq19: ∀j,j<5∨(5≤j∧j<5+k)∨(8≤j∧j<8+k)→j≠2→nm j≠nx+19:=fun j hj h2 he=>h2 (hP.inj j 2 hj (.inl (by omega)) (by rw[he,hn5 2 (by omega)]))
  refine hKL _ _ _ (k+1,put (put nm (5+k) (nx1+25)) (8+k) (nx1+26)) noF _ (by omega) (by dsimp only;omega) (by repeat' (first| (with_reducible first|exact C1|refine C2 ?_ ?_)| ((with_reducible refine C0 ?_);exact CE (by omega) rfl)| ((with_reducible refine D0 ?_);first|exact CA rfl|refine CJ ?_)|fail)) aL ⟨by dsimp only;omega,fun j hj=> ?_,?_,fun id e0 e1=> ?_,_,aA.bN,?_,fun j hj=> ?_,fun j h1 h2=> ?_⟩
  ·dsimp only;rw[jZ (by omega),jZ (by omega)];exact hn5 j hj
  ·exact(hP.put (B:=fun j=>j<5∨(5≤j∧j<5+(k+1))∨(8≤j∧j<8+k)) (hi':=nx1+26) (by omega) (by omega) (by omega) (fun j hj=>by first|omega| (dsimp only at*;omega))).put (by omega) (by omega) (by omega) (fun j hj=>by first|omega| (dsimp only at*;omega))
  ·rw[aA.aD e1,aA.aD (by omega),aA.aD (by omega),aA.aD (by omega)];exact hfr id e0 e1
  ·rw[List.length_set];exact hR1
  ·dsimp only at hj ⊢
   by_cases hjk:j=k
   ·subst hjk
    refine⟨_,hgk _,⟨0,p.queue.length,p.out.length,?_,?_,?_⟩⟩
    ·rw[jZ (by omega),wB,wB,←hpd];rfl
    ·rw[jZ (by omega),wB,←hpd]
     exact⟨mq,p.queue.map aE,by rw[aA.aD (by omega),aA.aD (by omega)];exact aA.bN,rfl,by simp,by simp,Nat.le_refl _,by omega⟩
    ·rw[wB,←hpd]
     exact⟨mo,p.out.map eCJ,by rw[aA.aD (by omega)];exact aA.bN,rfl,by simp,by simp,Nat.le_refl _,by omega⟩
   ·obtain⟨r,h1,h2⟩:=hR2 j (by omega)
    have a5:=hP.rng (5+j) (.inr (.inl ⟨by omega,by omega⟩))
    have a8:=hP.rng (8+j) (.inr (.inr ⟨by omega,by omega⟩))
    refine⟨r,by rw[List.getElem?_set_ne (by omega)];exact h1,?_⟩
    rw[jZ (show 5+j≠8+k by omega),jZ (show 5+j≠5+k by omega),jZ (show 8+j≠8+k by omega),jZ (show 8+j≠5+k by omega)]
    refine h2.frame ?_ ?_
    ·rw[aA.aD (hq19 _ (.inr (.inl ⟨by omega,by omega⟩)) (by omega)),aA.aD (by omega),aA.aD (by omega),aA.aD (by omega)]
    ·rw[aA.aD (hq19 _ (.inr (.inr ⟨by omega,by omega⟩)) (by omega)),aA.aD (by omega),aA.aD (by omega),aA.aD (by omega)]
  ·dsimp only at h1 ⊢
   rw[List.getElem?_set_ne (by omega)];exact hR3 j (by omega) h2
 ·repeat' (first| (with_reducible first| (refine hK _ _ _ ?_;clear hK K)| (refine hB ?_;clear hA hB A B)|refine Z1 ?_|refine Z3 fun KB hKB=> ?_|refine Z5 (by omega) ?_|refine hKX _ _ _ ?_)| (with_reducible first|refine Y2 fun K hK=> ?_|refine Y3 fun A B hA hB=> ?_)<;>(simp only[go_sem,g0])| ((with_reducible refine Y9 ?_);try simp only[AQ.then,AQ.blk,reduceIte,Nat.reduceEqDiff])|fail)
  have hk3:k=3:=by omega
  subst hk3
  have g20:H1 (nx+20)=some ⟨3,m3,s.eL.map gM⟩:=by rw[hfr _ (by omega) (by omega)];exact c20
  (have hKY:=hKB;clear hKB)
  refine aQ.iI (β:=Nat×(Nat→Nat)) (fun u=>en [(49,dI u.1),(48,dI 4),(47,dS (s.eL.map gM)),(3,.one (.c (.ptr 5 (nx+15) 0 0))),(2,.one (.c (.ptr 5 (nx+1) 0 0)))])
   (fun u H2 nx2=>u.1≤4∧(∀j,j<11→u.2 j=nm j)∧Part (fun j=>j<11∨(11≤j∧j<11+u.1)∨(15≤j∧j<15+u.1)) (nx+17) nx2 u.2∧(∀id,id<nx1→id≠nx+20→H2 id=H1 id)∧ ∃rv,H2 (nx+20)=some ⟨3,m3,rv⟩∧arV u.1 H2 u.2 s rv)
   (fun u=>4-u.1) (0,nm) ⟨noF,_,by repeat' (first| (with_reducible first|exact C1|refine C2 ?_ ?_)| ((with_reducible refine C0 ?_);first|exact CE (by omega) rfl| (exact CG (by(congr 2;omega)) rfl))| ((with_reducible refine D0 ?_);first|exact CA rfl|refine CJ ?_)|fail),aL,by dsimp only;omega,fun _ _=>rfl,⟨fun j k hj hk he=>hP.inj j k (by first|omega| (dsimp only at*;omega)) (by first|omega| (dsimp only at*;omega)) he,fun j hj=>by have:=hP.rng j (by first|omega| (dsimp only at*;omega));first|omega| (dsimp only at*;omega)⟩,fun _ _ _=>rfl,_,g20,by simpa using hsl,fun j hj=>by dsimp only at hj;omega,fun j _ hj=>by rw[List.getElem?_map];simp[bA,List.getD,show j<s.eL.length by omega]⟩ ?_
  rintro⟨k,nm2⟩ H2 nx2 hnx2 ⟨hk,hn11,hP2,hfr2,rv,f20,hV1,hV2,hV3⟩ KM hKM
  dsimp only at hk hn11 hP2 hV2 hV3
  have f15:H2 (nx+15)=some ⟨5,1,[[.osl 1 (nx+17) 0 s.words.length s.words.length,.osl 1 (nx+18) 0 s.holds.length s.holds.length,.osl 4 (nx+19) 0 3 3,.osl 3 (nx+20) 0 4 4,.osl 5 (nx+21) 0 s.told.length s.told.length]]⟩:=by rw[hfr2 _ (by omega) (by omega)];exact g15
  have f1:H2 (nx+1)=some ⟨5,1,[[.osl 0 0 0 0 0,.osl 0 0 0 0 0,.osl 0 0 0 0 0,.osl 0 0 0 0 0,.osl 0 0 0 0 0]]⟩:=by rw[hfr2 _ (by omega) (by omega),hfr _ (by omega) (by omega)];exact c1
  have hA2:bT nx2 [nx,nx+1,nx+15,nx+19,nx+20]:=AM.apart (by simp) (by simp;omega)
  simp only[bT,fN] at hA2
  have hn3:nm2 3=nx+20:=by rw[hn11 3 (by omega),hn5 3 (by omega)]
  by_cases hlt:k<4
  ·obtain⟨v,hvd⟩: ∃v,v=bA s k:=⟨_,rfl⟩
   have hvd':s.eL.getD k default=v:=hvd.symm
   obtain⟨hq,ho,ho2⟩:=hs.slv k hlt
   rw[←hvd] at hq ho ho2
   have hgk: ∀r,(rv.set k r)[k]?=some r:=fun r=>by rw[List.getElem?_set_self (by omega)]
   have hrk:=hV3 k (Nat.le_refl _) hlt
   rw[←hvd] at hrk
   refine aQ.EI fun hnm1=> ?_
   have hmk1: ∀k l,msk (nx2+k) l H2=H2:=fun k l=>DZ hnm1 (by omega)
   repeat' (first| (with_reducible first| (refine hK _ _ _ ?_;clear hK K)| (refine hA ?_;clear hA hB A B)|refine Z1 ?_|refine Z2 ?_|refine Z3 fun KB hKB=> ?_|refine Z4 (by omega) ?_)| (first| (with_reducible first|refine Y2 fun K hK=> ?_|refine Y3 fun A B hA hB=> ?_)| (refine pX (l:=v.pipe) hq (fun mq hmq=> ?_))| (refine lX (l:=v.done) ho ho2 (fun mo hmo=> ?_)))<;>(simp only[go_sem,Nat.add_assoc,Nat.left_eq_add,Nat.add_eq_left,hmk1,umS (G:=H2),umD (G:=H2),umB,msk,List.map,List.mem_cons,List.not_mem_nil,or_false,hvd',hgk,hrk,List.set_set,f15,f20,hA2];try simp (disch:=omega) only[Iw])| ((with_reducible refine Y0 ?_);simp only[AQ.then,AQ.blk])|refine⟨by omega,?_⟩| (with_reducible refine hKB _ _ _ ?_)|fail)
   have hq20: ∀j,j<11∨(11≤j∧j<11+k)∨(15≤j∧j<15+k)→j≠3→nm2 j≠nx+20:=fun j hj h2 he=>h2 (hP2.inj j 3 hj (.inl (by omega)) (by rw[he,hn3]))
   refine hKM _ _ _ (k+1,put (put nm2 (11+k) (nx2+25)) (15+k) (nx2+26)) noF _ (by omega) (by dsimp only;omega) (by repeat' (first| (with_reducible first|exact C1|refine C2 ?_ ?_)| ((with_reducible refine C0 ?_);exact CE (by omega) rfl)| ((with_reducible refine D0 ?_);first|exact CA rfl|refine CJ ?_)|fail)) aL ⟨by dsimp only;omega,fun j hj=> ?_,?_,fun id e0 e1=> ?_,_,aA.bN,?_,fun j hj=> ?_,fun j h1 h2=> ?_⟩
   ·dsimp only;rw[jZ (by omega),jZ (by omega)];exact hn11 j hj
   ·exact(hP2.put (B:=fun j=>j<11∨(11≤j∧j<11+(k+1))∨(15≤j∧j<15+k)) (hi':=nx2+26) (by omega) (by omega) (by omega) (fun j hj=>by first|omega| (dsimp only at*;omega))).put (by omega) (by omega) (by omega) (fun j hj=>by first|omega| (dsimp only at*;omega))
   ·rw[aA.aD e1,aA.aD (by omega),aA.aD (by omega),aA.aD (by omega)];exact hfr2 id e0 e1
   ·rw[List.length_set];exact hV1
   ·dsimp only at hj ⊢
    by_cases hjk:j=k
    ·subst hjk
     refine⟨_,hgk _,⟨0,v.pipe.length,0,v.done.length,?_,?_,?_⟩⟩
     ·rw[jZ (by omega),wB,wB,←hvd];rfl
     ·rw[jZ (by omega),wB,←hvd]
      exact⟨mq,v.pipe.map eCJ,by rw[aA.aD (by omega),aA.aD (by omega)];exact aA.bN,rfl,by simp,by simp,Nat.le_refl _,by omega⟩
     ·rw[wB,←hvd]
      exact⟨mo,v.done.map aK,by rw[aA.aD (by omega)];exact aA.bN,rfl,by simp,by simp,Nat.le_refl _,by omega⟩
    ·obtain⟨r,h1,h2⟩:=hV2 j (by omega)
     have a5:=hP2.rng (11+j) (.inr (.inl ⟨by omega,by omega⟩))
     have a8:=hP2.rng (15+j) (.inr (.inr ⟨by omega,by omega⟩))
     refine⟨r,by rw[List.getElem?_set_ne (by omega)];exact h1,?_⟩
     rw[jZ (show 11+j≠15+k by omega),jZ (show 11+j≠11+k by omega),jZ (show 15+j≠15+k by omega),jZ (show 15+j≠11+k by omega)]
     refine h2.frame ?_ ?_
     ·rw[aA.aD (hq20 _ (.inr (.inl ⟨by omega,by omega⟩)) (by omega)),aA.aD (by omega),aA.aD (by omega),aA.aD (by omega)]
     ·rw[aA.aD (hq20 _ (.inr (.inr ⟨by omega,by omega⟩)) (by omega)),aA.aD (by omega),aA.aD (by omega),aA.aD (by omega)]
   ·dsimp only at h1 ⊢
    rw[List.getElem?_set_ne (by omega)];exact hV3 j (by omega) h2
  ·repeat' (first| (with_reducible first| (refine hK _ _ _ ?_;clear hK K)| (refine hB ?_;clear hA hB A B)|refine Z1 ?_|refine Z5 (by omega) ?_|refine hKY _ _ _ ?_)| (with_reducible first|refine Y2 fun K hK=> ?_|refine Y3 fun A B hA hB=> ?_)<;>(simp only[go_sem,f15,f1,hA2])| ((with_reducible first|refine Y8 ?_|refine Y9 ?_);try simp only[AQ.then,AQ.blk,reduceIte,Nat.reduceEqDiff])|fail)
   have hk4:k=4:=by omega
   subst hk4
   have e0: ∀j,j<5→nm2 j=nx+17+j:=fun j hj=>(hn11 j (by omega)).trans (hn5 j hj)
   have hrd: ∀id,id<nx+22→id≠nx+1→id≠nx+19→id≠nx+20→(H2.set (nx+1) ⟨5,1,[[.osl 1 (nx+17) 0 s.words.length s.words.length,.osl 1 (nx+18) 0 s.holds.length s.holds.length,.osl 4 (nx+19) 0 3 3,.osl 3 (nx+20) 0 4 4,.osl 5 (nx+21) 0 s.told.length s.told.length]]⟩) id=G0 id:=fun id h1 h2 h3 h4=>by
    rw[aA.aD h2,hfr2 id (by omega) h4,hfr id h1 h3]
   have hge: ∀j,j<19→nx+17≤nm2 j:=fun j hj=>(hP2.rng j (by first|omega| (dsimp only;omega))).1
   refine hQ _ _ _ _ _ (.inr rfl) (kW rfl aA.bN rfl) (h _ _ nm2 _ (by omega) ⟨⟨s.words.length,s.holds.length,3,4,s.told.length,?_,?_,?_,?_,Nat.le_refl _,Nat.le_refl _⟩,⟨m2,rows,?_,hR1,fun j hj=> ?_⟩,⟨m3,rv,?_,hV1,fun j hj=> ?_⟩⟩ ⟨fun j k hj hk he=>hP2.inj j k (by first|omega| (dsimp only;omega)) (by first|omega| (dsimp only;omega)) he,fun j hj=>by have:=hP2.rng j (by first|omega| (dsimp only;omega));omega⟩ fun id hid=> ?_)
   ·rw[aaK,e0 0 (by omega),e0 1 (by omega),e0 2 (by omega),e0 3 (by omega),e0 4 (by omega)]
   ·rw[e0 0 (by omega)]
    exact⟨m0,s.words.map aE,(hrd _ (by omega) (by omega) (by omega) (by omega)).trans c17,rfl,by simp,by simp,Nat.le_refl _,by omega⟩
   ·rw[e0 1 (by omega)]
    exact⟨m1,s.holds.map aE,(hrd _ (by omega) (by omega) (by omega) (by omega)).trans c18,rfl,by simp,by simp,Nat.le_refl _,by omega⟩
   ·rw[e0 4 (by omega)]
    exact⟨m4,s.told.map aK,(hrd _ (by omega) (by omega) (by omega) (by omega)).trans c21,rfl,by simp,by simp,Nat.le_refl _,by omega⟩
   ·rw[e0 2 (by omega),aA.aD (by omega),hfr2 _ (by omega) (by omega)];exact g19
   ·obtain⟨r,h1,h2⟩:=hR2 j hj
    have a5:=hP.rng (5+j) (.inr (.inl ⟨by omega,by omega⟩))
    have a8:=hP.rng (8+j) (.inr (.inr ⟨by omega,by omega⟩))
    have b5:nm2 (5+j)≠nx+20:=fun he=>by
     have:=hP2.inj (5+j) 3 (.inl (by omega)) (.inl (by omega)) (by rw[he,hn3]);omega
    have b8:nm2 (8+j)≠nx+20:=fun he=>by
     have:=hP2.inj (8+j) 3 (.inl (by omega)) (.inl (by omega)) (by rw[he,hn3]);omega
    rw[hn11 _ (by omega)] at b5 b8
    refine⟨r,h1,?_⟩
    rw[hn11 _ (by omega),hn11 _ (by omega)]
    exact h2.frame (by rw[aA.aD (by omega),hfr2 _ (by omega) b5]) (by rw[aA.aD (by omega),hfr2 _ (by omega) b8])
   ·rw[hn3,aA.aD (by omega)];exact f20
   ·obtain⟨r,h1,h2⟩:=hV2 j hj
    exact⟨r,h1,h2.frame (aA.aD (by have:=hge (11+j) (by omega);omega)) (aA.aD (by have:=hge (15+j) (by omega);omega))⟩
   ·rw[hrd id (by omega) (by omega) (by omega) (by omega)];exact cfr id hid
end
end Go.Proofs.YtegiblhkjfiooaaGreat
end
section
namespace Go.AM
theorem JC {p:Job→Bool}: ∀{A B:List Job},(∀a∈A,p a=false)→(∀b∈B,p b=true)→(A++B).findIdx p=A.length
 | [],[],_,_=>rfl
 | [],b::B,_,hB=>by
   rw[List.nil_append,List.findIdx_cons,hB b (by simp)];rfl
 |a::A,B,hA,hB=>by
  rw[List.cons_append,List.findIdx_cons,hA a (by simp)]
  simp only[cond_false,List.length_cons]
  rw[JC (fun x hx=>hA x (List.mem_cons_of_mem _ hx)) hB]
theorem ab8 {A B:List Job} {x:Job} (hA: ∀a∈A,nA x a=false) (hB: ∀b∈B,nA x b=true):gL (A++B) x=A++x::B:=by
 unfold gL
 rw[JC hA hB,List.take_left',List.drop_left']
 ·rfl
 ·rfl
def CM (l:List Job) (k:Nat):List Job:=kH (l.take k)
theorem ajE {l:List Job} {k:Nat} (hk:k≤l.length):(CM l k).length=k:=by
 unfold CM;rw[(iF _).length_eq,List.length_take];omega
theorem acV {l:List Job} {k:Nat} (hk:k<l.length):CM l (k+1)=gL (CM l k) (l.getD k default):=by
 unfold CM kH
 rw[oM hk,List.foldl_append];rfl
theorem ahU {l:List Job}:CM l 1=l.take 1:=by
 cases l with
 |nil=>rfl
 |cons x l=>rfl
theorem ahK {l:List Job}:CM l l.length=kH l:=by unfold CM;rw[List.take_length]
theorem XS {l:List Job} {k:Nat} (hn:(l.map key).Nodup):gQ (CM l k):=by
 refine K4 ?_
 rw[List.map_take]
 exact hn.sublist (List.take_sublist _ _)
def N5 (S:List Job) (x:Job) (j:Nat):List Job:=S.take j++x::S.drop j
theorem alW {S:List Job} {x:Job} {j:Nat} (_:j≤S.length):(N5 S x j).length=S.length+1:=by
 unfold N5;simp;omega
theorem amS {S:List Job} {x:Job} {j:Nat} (hj:j≤S.length) (hs:gQ S) (h0:j=0∨nA x (S.getD (j-1) default)=false) (hB: ∀i,j≤i→i<S.length→nA x (S.getD i default)=true):N5 S x j=gL S x:=by
 have hl:(S.take j).length=j:=by simp;omega
 conv=>rhs;rw[←List.take_append_drop j S]
 refine(ab8 (fun a ha=> ?_) fun b hb=> ?_).symm
 ·rcases h0 with rfl|h0
  ·simp at ha
  ·obtain⟨i,hi,rfl⟩:=List.mem_iff_getElem.1 ha
   rw[List.getElem_take]
   by_cases he:i=j-1
   ·subst he
    have:S.getD (j-1) default=S[j-1]:=by simp[List.getD,show j-1<S.length by omega]
    rw[this] at h0;exact h0
   ·have h1:=List.pairwise_iff_getElem.1 hs i (j-1) (by omega) (by omega) (by omega)
    have h2:S.getD (j-1) default=S[j-1]:=by simp[List.getD,show j-1<S.length by omega]
    rw[h2] at h0
    rw[←Bool.not_eq_true,nN] at h0
    rw[nN] at h1
    rw[←Bool.not_eq_true,nN]
    omega
 ·obtain⟨i,hi,rfl⟩:=List.mem_iff_getElem.1 hb
  rw[List.getElem_drop]
  have:=hB (j+i) (by omega) (by simp at hi;omega)
  simpa [List.getD,show j+i<S.length by simp at hi;omega] using this
end Go.AM
end
section
namespace Go.AM
theorem aiI {S R:List Job} {x:Job} {j:Nat} (h0:0<j) (hj:j≤S.length):((N5 S x j++R).set j (S.getD (j-1) default)).set (j-1) x=N5 S x (j-1)++R:=by
 have h1:S.take j=S.take (j-1)++[S.getD (j-1) default]:=by
  have:=oM (l:=S) (k:=j-1) (by omega)
  rwa [show j-1+1=j by omega] at this
 have h2:S.drop (j-1)=S.getD (j-1) default::S.drop j:=by
  have:=List.drop_eq_getElem_cons (l:=S) (i:=j-1) (by omega)
  rw[this,show j-1+1=j by omega];simp[List.getD,show j-1<S.length by omega]
 have hl:(S.take (j-1)).length=j-1:=by simp;omega
 unfold N5
 rw[h1,h2]
 generalize S.take (j-1)=A at*
 generalize S.drop j=B
 generalize S.getD (j-1) default=y
 simp only[List.append_assoc,List.cons_append,List.nil_append,List.singleton_append]
 obtain rfl:j=A.length+1:=by omega
 rw[List.set_append_right _ _ (by omega)]
 simp
theorem apH {S R:List Job} {x:Job} {j:Nat} (hj:j≤S.length):(N5 S x j++R).getD j default=x:=by
 have hl:(S.take j).length=j:=by simp;omega
 unfold N5
 simp[List.getD,hl,List.append_assoc,List.getElem?_append_right]
theorem aeT {S R:List Job} {x:Job} {j:Nat} (h0:0<j) (hj:j≤S.length):(N5 S x j++R).getD (j-1) default=S.getD (j-1) default:=by
 unfold N5
 simp only[List.getD,List.append_assoc]
 rw[List.getElem?_append_left (by simp;omega),List.getElem?_take_of_lt (by omega)]
end Go.AM
namespace Go.Proofs.YtegiblhkjfiooaaGreat
open Go Go.AM
set_option maxRecDepth 100000
set_option maxHeartbeats 8000000
theorem oJ:d8 Tryz.prog cN Tryz.f216 eD hZ:=d8.mk Tryz.func216 (by kernel_rfl) n7
theorem uH:d8 Tryz.prog gV Tryz.f156 gG kR:=d8.mk Tryz.func156 (by kernel_rfl) vC
theorem mX:d8 Tryz.prog cJ Tryz.f86 dQ gJ:=d8.mk Tryz.func86 (by kernel_rfl) mY
section
variable {H : aA} {nx : Nat} {K : D → aA → Nat → Prop}
theorem pC {l:List Job} {m cap i0:Nat} (hl:l.length<2^20) (hn:(l.map key).Nodup) (hi:i0<nx) (o0:H i0=some ⟨5,m,l.map aK⟩)
 (h: ∀H' nx',nx≤nx'→H' i0=some ⟨5,m,(kH l).map aK⟩→(∀id,id<nx→id≠i0→H' id=H id)→K (.tup []) H' nx'):
 aB Tryz.prog cN [.one (.c (.osl 5 i0 0 l.length cap)),dI 0,dI l.length,.one (.c (.clo aX []))] H nx K:=by
 refine oJ rfl fun Q hQ=> ?_
 unfold eD
 repeat' (first| (with_reducible first| (refine hK _ _ _ ?_;clear hK K)|refine Z1 ?_|refine Z3 fun KB hKB=> ?_)| (with_reducible refine Y2 fun K hK=> ?_)<;>(simp only[go_sem];try simp (disch:=omega) only[Iw])|fail)
 (have hKX:=hKB;clear hKB)
 refine aQ.iI (β:=Nat) (fun k=>en [(8,dI k),(3,.one (.c (.clo aX []))),(2,dI l.length),(1,dI 0),(0,.one (.c (.osl 5 i0 0 l.length cap)))])
  (fun k H1 _=>1≤k∧(k≤1∨k≤l.length)∧H1 i0=some ⟨5,m,(CM l k++l.drop k).map aK⟩∧ ∀id,id<nx→id≠i0→H1 id=H id) (fun k=>l.length+1-k) 1
  ⟨noF,_,by repeat' (first| (with_reducible first|exact C1|refine C2 ?_ ?_)| ((with_reducible refine C0 ?_);first|exact CQ (by omega) rfl rfl (by rfl) rfl|exact CH (by rfl))| ((with_reducible refine D0 ?_);first|exact CA rfl|refine CJ ?_)|fail),aL,by omega,.inl (by omega),by rw[ahU,List.take_append_drop];exact o0,fun _ _ _=>rfl⟩ ?_
 rintro k H1 nx1 hnx ⟨hk1,hk2,g0,hfr⟩ KL hKL
 by_cases hlt:k<l.length
 ·repeat' (first| (with_reducible first| (refine hK _ _ _ ?_;clear hK K)| (refine hA ?_;clear hA hB A B)|refine Z1 ?_|refine Z2 ?_|refine Z3 fun KB hKB=> ?_|refine Z4 (by omega) ?_)| (with_reducible first|refine Y2 fun K hK=> ?_|refine Y3 fun A B hA hB=> ?_)<;>(simp only[go_sem])|fail)
  (have hKY:=hKB;clear hKB)
  obtain⟨S,hS⟩: ∃S,S=CM l k:=⟨_,rfl⟩
  have hSl:S.length=k:=by rw[hS];exact ajE (by omega)
  obtain⟨x,hx⟩: ∃x,x=l.getD k default:=⟨_,rfl⟩
  have hd:l.drop k=x::l.drop (k+1):=by
   rw[List.drop_eq_getElem_cons hlt,hx];simp[List.getD,hlt]
  refine aQ.iI (β:=Nat) (fun j=>en [(9,dI j),(8,dI k),(3,.one (.c (.clo aX []))),(2,dI l.length),(1,dI 0),(0,.one (.c (.osl 5 i0 0 l.length cap)))])
   (fun j H2 _=>j≤k∧H2 i0=some ⟨5,m,(N5 S x j++l.drop (k+1)).map aK⟩∧(∀i,j≤i→i<S.length→nA x (S.getD i default)=true)∧ ∀id,id<nx→id≠i0→H2 id=H id) (fun j=>j) k
   ⟨noF,_,by repeat' (first| (with_reducible first|exact C1|refine C2 ?_ ?_)| ((with_reducible refine C0 ?_);first|exact CQ (by omega) rfl rfl (by rfl) rfl|exact CH (by rfl))| ((with_reducible refine D0 ?_);first|exact CA rfl|refine CJ ?_)|fail),aL,Nat.le_refl _,?_,fun i h1 h2=>by omega,hfr⟩ ?_
  ·rw[g0,←hS,hd]
   unfold N5
   rw[List.take_of_length_le (show S.length≤k by omega),show S.drop k=[] from List.drop_of_length_le (by omega)];simp
  rintro j H2 nx2 hnx2 ⟨hj,f0,hB,hfr2⟩ KM hKM
  have hLl:(N5 S x j++l.drop (k+1)).length=l.length:=by rw[List.length_append,alW (by omega),List.length_drop];omega
  have hk0: ∀b,(i0=nx2+b)=False:=fun b=>eq_false (by omega)
  have hk0': ∀b,(nx2+b=i0)=False:=fun b=>eq_false (by omega)
  have hback: ∀{e:Env} {H':aA} {n':Nat},nx2≤n'→(j=0∨nA x (S.getD (j-1) default)=false)→H'=H2→CvE H' noF id n' (en [(8,dI (k+1)),(3,.one (.c (.clo aX []))),(2,dI l.length),(1,dI 0),(0,.one (.c (.osl 5 i0 0 l.length cap)))]) e→KL e H' n':=fun h1 h2 h3 h4=>by
   subst h3
   refine hKL _ _ _ (k+1) noF _ (by omega) (by omega) h4 aL ⟨by omega,.inr (by omega),?_,hfr2⟩
   rw[f0,amS (by omega) (by rw[hS];exact XS hn) h2 hB,hS,acV hlt,hx]
  by_cases hj0:0<j
  ·have hat:=apH (S:=S) (R:=l.drop (k+1)) (x:=x) (j:=j) (by omega)
   have hah:=aeT (S:=S) (R:=l.drop (k+1)) (x:=x) hj0 (by omega)
   have hsw:=aiI (S:=S) (R:=l.drop (k+1)) (x:=x) hj0 (by omega)
   have ej:((j:Int)-1).toNat=j-1:=by omega
   repeat' (first| (with_reducible first| (refine hK _ _ _ ?_;clear hK K)| (refine hA ?_;clear hA hB A B)| (refine hB ?_;clear hA hB A B)|refine Z1 ?_|refine Z2 ?_|refine Z3 fun KB hKB=> ?_|refine Z6 (fun h=> ?_) fun h=> ?_|refine hKY _ _ _ ?_)| (first| (with_reducible first|refine Y2 fun K hK=> ?_|refine Y3 fun A B hA hB=> ?_|refine Y4 (by omega) ?_)| (refine lS ?_))<;>(simp only[go_sem,f0,hat,hah,ej,hLl,hk0,hk0'];try simp (disch:=omega) only[Iw])| ((with_reducible refine Y9 ?_);try simp only[AQ.then,AQ.blk,reduceIte,Nat.reduceEqDiff])| ((with_reducible refine Y0 ?_);simp only[AQ.then,AQ.blk])|refine⟨by omega,?_⟩| (with_reducible refine hKB _ _ _ ?_)|fail)
   ·exact hKM _ _ _ (j-1) noF _ (by omega) (by omega) (by repeat' (first| (with_reducible first|exact C1|refine C2 ?_ ?_)| ((with_reducible refine C0 ?_);first|exact CQ (by omega) rfl rfl (by rfl) rfl|exact CH (by rfl)| (exact CG (by(congr 2;omega)) rfl))| ((with_reducible refine D0 ?_);first|exact CA rfl|refine CJ ?_)|fail)) aL ⟨by omega,by rw[hsw];exact aA.bN,fun i h1 h2=>by
     by_cases he:i=j-1
     ·subst he;exact B1.1 (by assumption)
     ·exact hB i (by omega) h2,fun id e0 e1=>by rw[aA.aD e1];exact hfr2 id e0 e1⟩
   ·exact hback (by omega) (.inr (by rw[←Bool.not_eq_true,←B1];assumption)) rfl (by repeat' (first| (with_reducible first|exact C1|refine C2 ?_ ?_)| ((with_reducible refine C0 ?_);first|exact CQ (by omega) rfl rfl (by rfl) rfl|exact CH (by rfl))| ((with_reducible refine D0 ?_);first|exact CA rfl|refine CJ ?_)|fail))
  ·repeat' (first| (with_reducible first| (refine hK _ _ _ ?_;clear hK K)| (refine hB ?_;clear hA hB A B)|refine Z1 ?_|refine hKY _ _ _ ?_)| (with_reducible first|refine Y2 fun K hK=> ?_|refine Y3 fun A B hA hB=> ?_|refine Y5 (by omega) ?_)<;>(simp only[go_sem];try simp (disch:=omega) only[Iw])| ((with_reducible refine Y9 ?_);try simp only[AQ.then,AQ.blk,reduceIte,Nat.reduceEqDiff])| ((with_reducible refine Y0 ?_);simp only[AQ.then,AQ.blk])| (with_reducible refine hKB _ _ _ ?_)|fail)
   exact hback (by omega) (.inl (by omega)) rfl (by repeat' (first| (with_reducible first|exact C1|refine C2 ?_ ?_)| ((with_reducible refine C0 ?_);first|exact CQ (by omega) rfl rfl (by rfl) rfl|exact CH (by rfl))| ((with_reducible refine D0 ?_);first|exact CA rfl|refine CJ ?_)|fail))
 ·repeat' (first| (with_reducible first| (refine hK _ _ _ ?_;clear hK K)| (refine hB ?_;clear hA hB A B)|refine Z1 ?_|refine Z5 (by omega) ?_|refine hKX _ _ _ ?_)| (with_reducible first|refine Y2 fun K hK=> ?_|refine Y3 fun A B hA hB=> ?_)<;>(simp only[go_sem])| ((with_reducible refine Y9 ?_);try simp only[AQ.then,AQ.blk,reduceIte,Nat.reduceEqDiff])| ((with_reducible refine Y0 ?_);simp only[AQ.then,AQ.blk])|fail)
  have hd:CM l k++l.drop k=kH l:=by
   rw[List.drop_of_length_le (by omega),List.append_nil,←ahK]
   unfold CM
   rw[List.take_of_length_le (by omega),List.take_of_length_le (by omega)]
  rw[hd] at g0
  exact hQ _ _ _ _ _ (.inl rfl) rfl (h _ _ (by omega) g0 hfr)
theorem PI {l:List Job} {m cap i0:Nat} (hl:l.length<20) (hn:(l.map key).Nodup) (hi:i0<nx) (o0:H i0=some ⟨5,m,l.map aK⟩)
 (h: ∀H' nx',nx≤nx'→H' i0=some ⟨5,m,(kH l).map aK⟩→(∀id,id<nx→id≠i0→H' id=H id)→K (.tup []) H' nx'):
 aB Tryz.prog gV [.one (.c (.osl 5 i0 0 l.length cap)),dI l.length,.one (.c (.clo aX []))] H nx K:=by
 refine uH rfl fun Q hQ=> ?_
 unfold gG
 repeat' (first| (with_reducible first| (refine hK _ _ _ ?_;clear hK K)|refine Z1 ?_|refine Z3 fun KB hKB=> ?_)| (with_reducible refine Y2 fun K hK=> ?_)<;>(simp only[go_sem])|fail)
 (have hKX:=hKB;clear hKB)
 refine aQ.iI (β:=Unit) (fun _=>en [(8,dI 20),(7,dI 0),(6,dI 20),(2,.one (.c (.clo aX []))),(1,dI l.length),(0,.one (.c (.osl 5 i0 0 l.length cap)))]) (fun _ H1 _=>H1=H) (fun _=>0) () ⟨noF,_,by repeat' (first| (with_reducible first|exact C1|refine C2 ?_ ?_)| ((with_reducible refine C0 ?_);first|exact CQ (by omega) rfl rfl (by rfl) rfl|exact CH (by rfl))| ((with_reducible refine D0 ?_);first|exact CA rfl|refine CJ ?_)|fail),aL,rfl⟩ ?_
 rintro u H1 nx1 hnx rfl KL hKL
 repeat' (first| (with_reducible first| (refine hK _ _ _ ?_;clear hK K)| (refine hB ?_;clear hA hB A B)|refine Z1 ?_|refine Z3 fun KB hKB=> ?_|refine Z5 (by omega) ?_|refine hKX _ _ _ ?_)| (first| (with_reducible first|refine Y2 fun K hK=> ?_|refine Y3 fun A B hA hB=> ?_)| (refine pC (by omega) hn (by omega) o0 (fun H' nx' hx' f0 ffr=> ?_)))<;>(simp only[go_sem])| ((with_reducible refine Y9 ?_);try simp only[AQ.then,AQ.blk,reduceIte,Nat.reduceEqDiff])|fail)
 clear hKX
 (have hKX:=hKB;clear hKB)
 refine aQ.iI (β:=Unit) (fun _=>en [(6,dI 20),(2,.one (.c (.clo aX []))),(1,dI l.length),(0,.one (.c (.osl 5 i0 0 l.length cap)))]) (fun _ H2 _=>H2=H') (fun _=>0) () ⟨noF,_,by repeat' (first| (with_reducible first|exact C1|refine C2 ?_ ?_)| ((with_reducible refine C0 ?_);first|exact CQ (by omega) rfl rfl (by rfl) rfl|exact CH (by rfl))| ((with_reducible refine D0 ?_);first|exact CA rfl|refine CJ ?_)|fail),aL,rfl⟩ ?_
 rintro u H2 nx2 hnx2 rfl KM hKM
 repeat' (first| (with_reducible first| (refine hK _ _ _ ?_;clear hK K)| (refine hB ?_;clear hA hB A B)|refine Z1 ?_|refine Z5 (by omega) ?_|refine hKX _ _ _ ?_)| (with_reducible first|refine Y2 fun K hK=> ?_|refine Y3 fun A B hA hB=> ?_)<;>(simp only[go_sem])| ((with_reducible refine Y9 ?_);try simp only[AQ.then,AQ.blk,reduceIte,Nat.reduceEqDiff])| ((with_reducible refine Y0 ?_);simp only[AQ.then,AQ.blk])|fail)
 exact hQ _ _ _ _ _ (.inl rfl) rfl (h _ _ (by omega) f0 fun id e0 e1=>ffr id (by omega) e1)
theorem xO {l:List Job} {m cap i0:Nat} (hl:l.length<20) (hn:(l.map key).Nodup) (hi:i0<nx) (o0:H i0=some ⟨5,m,l.map aK⟩)
 (h: ∀H' nx',nx≤nx'→H' i0=some ⟨5,m,(kH l).map aK⟩→(∀id,id<nx→id≠i0→H' id=H id)→K (.tup []) H' nx'):
 aB Tryz.prog cJ [.one (.c (.osl 5 i0 0 l.length cap)),.one (.c (.clo aX []))] H nx K:=by
 refine mX rfl fun Q hQ=> ?_
 unfold dQ
 repeat' (first| (with_reducible (refine hK _ _ _ ?_;clear hK K))| (first| (with_reducible refine Y2 fun K hK=> ?_)| (refine PI hl hn (by omega) o0 (fun H' nx' hx' f0 ffr=> ?_)))<;>(simp only[go_sem])| ((with_reducible refine Y0 ?_);simp only[AQ.then,AQ.blk])|fail)
 exact hQ _ _ _ _ _ (.inl rfl) rfl (h _ _ (by omega) f0 fun id e0 e1=>ffr id (by omega) e1)
end
end Go.Proofs.YtegiblhkjfiooaaGreat
end
section
namespace Go.Proofs.YtegiblhkjfiooaaGreat
open Go Go.AM
set_option maxRecDepth 100000
set_option maxHeartbeats 8000000
theorem Q9:d8 Tryz.prog BF Tryz.f39 yT HB:=d8.mk Tryz.func39 (by kernel_rfl) R9
end Go.Proofs.YtegiblhkjfiooaaGreat
namespace Go.AM
def I2 (H:aA) (lo hi t:Nat) (s:CSt) (A:List Int) (W D:List Job):Prop:=
 ∃ia iw id_ ca cw cd ma mw md,H t=some ⟨6,1,[[.isl (s.words.map aE),.isl (s.holds.map aE),.osl 1 ia 0 A.length ca,.osl 5 iw 0 W.length cw,.osl 5 id_ 0 D.length cd,.isl (s.told.map aK)]]⟩∧
  (H ia=some ⟨1,ma,A.map aE⟩∧A.length≤ca∧ca≤ma)∧(H iw=some ⟨5,mw,W.map aK⟩∧W.length≤cw∧cw≤mw)∧(H id_=some ⟨5,md,D.map aK⟩∧D.length≤cd∧cd≤md)∧
  (lo≤ia∧ia<hi∧lo≤iw∧iw<hi∧lo≤id_∧id_<hi)∧ia≠iw∧ia≠id_∧iw≠id_
theorem I2.frame {H H':aA} {lo hi hi' t:Nat} {s:CSt} {A:List Int} {W D:List Job} (h:I2 H lo hi t s A W D) (ht:t<lo) (hh:hi≤hi') (hf: ∀id,id<hi→(id=t∨lo≤id)→H' id=H id):I2 H' lo hi' t s A W D:=by
 obtain⟨ia,iw,id_,ca,cw,cd,ma,mw,md,h0,⟨h1,h2⟩,⟨h3,h4⟩,⟨h5,h6⟩,h7,h8⟩:=h
 exact⟨ia,iw,id_,ca,cw,cd,ma,mw,md,by rw[hf t (by omega) (.inl rfl)];exact h0,⟨by rw[hf _ (by omega) (.inr (by omega))];exact h1,h2⟩,⟨by rw[hf _ (by omega) (.inr (by omega))];exact h3,h4⟩,⟨by rw[hf _ (by omega) (.inr (by omega))];exact h5,h6⟩,by omega,h8⟩
theorem MA {H:aA} {nx i:Nat} {o o':bC} (ho:H i=some o) (h:CvO H noF id nx o' o):CvX noF nx H (H.set i o'):=fun j x hj=>by
 by_cases he:j=i
 ·subst he
  rw[aA.bN] at hj
  cases hj
  exact⟨fun h=>h,o,ho,.inr h⟩
 ·rw[aA.aD he] at hj
  exact⟨fun h=>h,x,hj,.inl rfl⟩
theorem D8 {β:Type} {f:Nat→List β} {k:Nat}:(List.range (k+1)).flatMap f=(List.range k).flatMap f++f k:=by
 rw[List.range_succ,List.flatMap_append];simp
theorem SF {β:Type} {f:Nat→List β} {m:Nat} (n:Nat) (h: ∀k,k<n→(f k).length≤m):((List.range n).flatMap f).length≤m*n:=by
 induction n with
 |zero=>simp
 |succ n ih=>
  rw[D8,List.length_append]
  have h1:=ih fun k hk=>h k (by omega)
  have h2:=h n (by omega)
  rw[Nat.mul_succ];omega
theorem afP {K:Env→aA→Nat→Prop} {e:Env} {G:aA} {n:Nat} (h: ∀G',G'=G→K e G' n):K e G n:=h G rfl
theorem ar7 {H2 G:aA} {lo hi t:Nat} {s:CSt} {A:List Int} {W D:List Job} {ia iw id_ ca cd ma md x2 cap nx':Nat} {k n:Int}
 (a1:H2 ia=some ⟨1,ma,A.map aE⟩) (a2:A.length≤ca∧ca≤ma) (a7:H2 id_=some ⟨5,md,D.map aK⟩) (a8:D.length≤cd∧cd≤md) (aa:lo≤ia∧ia<hi∧lo≤iw∧iw<hi∧lo≤id_∧id_<hi) (ab:ia≠iw) (ac:ia≠id_) (ad:iw≠id_) (ht:t<lo) (hx:hi≤x2∧x2<nx') (hcap:W.length+1≤cap)
 (g1:G t=some ⟨6,1,[[.isl (s.words.map aE),.isl (s.holds.map aE),.osl 1 ia 0 A.length ca,.osl 5 x2 0 (W.length+1) cap,.osl 5 id_ 0 D.length cd,.isl (s.told.map aK)]]⟩) (g2:G x2=some ⟨5,cap,W.map aK++[[cI k,cI n,cI 0,cI 0,.osl 0 0 0 0 0]]⟩) (g3: ∀id,id<hi→id≠iw→id≠t→G id=H2 id):
 ∃H',CvX noF nx' G H'∧I2 H' lo nx' t s A (W++[(⟨k,n,kO⟩:Job)]) D∧ ∀id,id≠x2→H' id=G id:=by
 refine⟨_,MA (i:=x2) (o':=⟨5,cap,(W++[(⟨k,n,kO⟩:Job)]).map aK⟩) g2 (BX (R:=W.map aK) (r':=aK (⟨k,n,kO⟩:Job)) (by rw[List.map_append];rfl) rfl (fun r hr=>(aC aV _ r hr).2) rfl (aH (bG rfl) (aH (bG rfl) (aH (bG rfl) (aH (bG rfl) (aH (.frz (.nil ..)) eR)))))),?_,fun id e0=>aA.aD e0⟩
 refine⟨ia,x2,id_,ca,cap,cd,ma,cap,md,?_,⟨?_,a2⟩,⟨aA.bN,by simpa using hcap,Nat.le_refl _⟩,⟨?_,a8⟩,by omega,by omega,by omega,by omega⟩
 ·rw[aA.aD (by omega),g1,List.length_append];rfl
 ·rw[aA.aD (by omega),g3 _ (by omega) ab (by omega)];exact a1
 ·rw[aA.aD (by omega),g3 _ (by omega) ad.symm (by omega)];exact a7
theorem apA {F:Nat→Prop} {H H':aA} {nx t:Nat} {o o':bC} (h1: ∀j,F j→H' j=none) (h2:H' t=some o') (h3:H t=some o) (h4: ¬F t) (h5:CvO H F id nx o' o) (h6: ∀j,j≠t→¬F j→H' j=H j):CvX F nx H H':=fun j x hj=>by
 have hF: ¬F j:=fun h=>by rw[h1 j h] at hj;cases hj
 by_cases he:j=t
 ·subst he
  rw[h2] at hj
  cases hj
  exact⟨hF,o,h3,.inr h5⟩
 ·rw[h6 j he hF] at hj
  exact⟨hF,x,hj,.inl rfl⟩
def aq6 (b n:Nat) (H:aA):aA:=fun j=>if b≤j∧j<b+n then none else H j
theorem afF {b n j:Nat} {H:aA} (h: ¬(b≤j∧j<b+n)):aq6 b n H j=H j:=if_neg h
theorem ZH {b n nx:Nat} {H:aA}:CvX (fun j=>b≤j∧j<b+n) nx H (aq6 b n H):=fun j x hj=>by
 unfold aq6 at hj
 split at hj
 ·cases hj
 ·exact⟨by assumption,x,hj,.inl rfl⟩
end Go.AM
namespace Go.Proofs.YtegiblhkjfiooaaGreat
open Go Go.AM
set_option maxRecDepth 100000
set_option maxHeartbeats 8000000
section
variable {H : aA} {nx : Nat} {K : D → aA → Nat → Prop}
theorem UG {c:Cfg} {s:CSt} (hb:aY c) (hs:COk c s) (h: ∀H' nx',nx≤nx'→(∀id,id<nx→H' id=H id)→K (dA (eSt (dZ s))) H' nx'):aB Tryz.prog BF [dA (lD s)] H nx K:=by
 have hpl:=hs.pl
 have hsl:=hs.sl
 refine aB.BZ ?_
 refine Q9 rfl fun Q hQ=> ?_
 unfold yT
 repeat' (first| (with_reducible first| (refine hK _ _ _ ?_;clear hK K)|refine Z1 ?_|refine Z3 fun KB hKB=> ?_)| (with_reducible refine Y2 fun K hK=> ?_)<;>(simp only[go_sem,Nat.add_assoc,Nat.left_eq_add,Nat.add_eq_left,hpl])|fail)
 (have hKX:=hKB;clear hKB)
 refine aQ.C6 1 ?_
 refine aQ.C6 5 ?_
 refine aQ.C6 5 ?_
 refine aQ.BZ _ _ noF (fun t=>.inl rfl) (MA (i:=nx+7) (o:=⟨6,1,[[.isl (s.words.map aE),.isl (s.holds.map aE),.osl 0 0 0 0 0,.osl 0 0 0 0 0,.osl 0 0 0 0 0,.isl (s.told.map aK)]]⟩) (o':=⟨6,1,[[.isl (s.words.map aE),.isl (s.holds.map aE),.osl 1 (nx+13) 0 0 0,.osl 5 (nx+14) 0 0 0,.osl 5 (nx+15) 0 0 0,.isl (s.told.map aK)]]⟩) (by simp only[aA.set,Nat.add_assoc,Nat.add_left_cancel_iff,Nat.reduceEqDiff,Nat.reduceAdd,if_false,if_true]) (aM (aH (bG rfl) (aH (bG rfl) (aH (.V2 ..) (aH (.V2 ..) (aH (.V2 ..) (aH (bG rfl) eR)))))))) ?_
 refine aQ.WA fun G0 hG0=> ?_
 have c0:G0 nx=some ⟨5,1,[lD s]⟩:=by rw[hG0];simp only[aA.set,Nat.add_assoc,Nat.add_left_cancel_iff,Nat.reduceEqDiff,Nat.reduceAdd,Nat.left_eq_add,if_false,if_true]
 have c1:G0 (nx+1)=some ⟨6,1,[[.osl 0 0 0 0 0,.osl 0 0 0 0 0,.osl 0 0 0 0 0,.osl 0 0 0 0 0,.osl 0 0 0 0 0,.osl 0 0 0 0 0]]⟩:=by rw[hG0];simp only[aA.set,Nat.add_assoc,Nat.add_left_cancel_iff,Nat.reduceEqDiff,Nat.reduceAdd,Nat.left_eq_add,if_false,if_true]
 have cA:I2 G0 (nx+13) (nx+16) (nx+7) s [] [] []:=by
  refine⟨nx+13,nx+14,nx+15,0,0,0,0,0,0,?_,⟨?_,by simp,by simp⟩,⟨?_,by simp,by simp⟩,⟨?_,by simp,by simp⟩,by omega,by omega,by omega,by omega⟩<;>rw[hG0]<;>simp only[aA.set,Nat.add_assoc,Nat.add_left_cancel_iff,Nat.reduceEqDiff,Nat.reduceAdd,Nat.left_eq_add,if_false,if_true]<;>rfl
 have cfr: ∀id,id<nx→G0 id=H id:=fun id hid=>by
  rw[hG0];simp only[aA.set,Nat.add_assoc,show ¬id=nx by omega,show ¬id=nx+1 by omega,show ¬id=nx+7 by omega,show ¬id=nx+13 by omega,show ¬id=nx+(13+1) by omega,show ¬id=nx+(13+(1+1)) by omega,Nat.reduceAdd,show ¬id=nx+14 by omega,show ¬id=nx+15 by omega,if_false]
 clear hG0
 refine aQ.iI (β:=Nat) (fun k=>en [(20,dI k),(19,dI 3),(18,dS (s.bS.map cD)),(3,.one (.c (.ptr 6 (nx+7) 0 0))),(2,.one (.c (.ptr 6 (nx+1) 0 0))),(1,.one (.c (.ptr 5 nx 0 0)))])
  (fun k H1 nx1=>k≤3∧I2 H1 (nx+13) nx1 (nx+7) s ((s.bS.take k).map (·.next)) ((List.range k).flatMap (jR s)) []∧ ∀id,id<nx+13→id≠nx+7→H1 id=G0 id)
  (fun k=>3-k) 0 ⟨noF,_,by repeat' (first| (with_reducible first|exact C1|refine C2 ?_ ?_)| ((with_reducible refine C0 ?_);exact CE (by omega) rfl)| ((with_reducible refine D0 ?_);first|exact CA rfl|refine CJ ?_)|fail),aL,by omega,cA,fun _ _ _=>rfl⟩ ?_
 rintro k H1 nx1 hnx ⟨hk,hAt,hfr⟩ KL hKL
 have g0:H1 nx=some ⟨5,1,[lD s]⟩:=by rw[hfr _ (by omega) (by omega)];exact c0
 obtain⟨A,hAd⟩: ∃A,A=(s.bS.take k).map (·.next):=⟨_,rfl⟩
 obtain⟨W,hWd⟩: ∃W,W=(List.range k).flatMap (jR s):=⟨_,rfl⟩
 have hAl:A.length=k:=by rw[hAd];simp;omega
 have hqs: ∀k,k<3→(jR s k).length≤2:=fun k hk=>by have:=(hs.port k hk).ql;simpa [jR] using this.1
 have hWl:W.length≤2*k:=by rw[hWd];exact SF k fun j hj=>hqs j (by omega)
 rw[←hAd,←hWd] at hAt
 obtain⟨ia,iw,id_,ca,cw,cd,ma,mw,md,a0,⟨a1,a2,a3⟩,⟨a4,a5,a6⟩,⟨a7,a8,a9⟩,aa,ab,ac,ad⟩:=hAt
 have hA:bT nx1 [nx,nx+1,nx+7,ia,iw,id_]:=AM.apart (by simp;omega) (by simp;omega)
 simp only[bT,fN] at hA
 by_cases hlt:k<3
 ·obtain⟨p,hpd⟩: ∃p,p=aS s k:=⟨_,rfl⟩
  have hpd':s.bS.getD k default=p:=hpd.symm
  have hpo:=hs.port k hlt
  rw[←hpd] at hpo
  have hql:=hpo.ql
  repeat' (first| (with_reducible first| (refine hK _ _ _ ?_;clear hK K)| (refine hA ?_;clear hA hB A B)|refine Z1 ?_|refine Z2 ?_|refine Z3 fun KB hKB=> ?_|refine Z4 (by omega) ?_|refine fun(cap:Nat) (hcap:_≤cap)=> ?_|refine fun(hcp:_≤cap)=> ?_)| (with_reducible first|refine Y2 fun K hK=> ?_|refine Y3 fun A B hA hB=> ?_)<;>(simp only[go_sem,Nat.add_assoc,Nat.left_eq_add,Nat.add_eq_left,hpd',a0,a1,a4,a7,hA,List.set])|refine⟨by omega,?_⟩|fail)
  (have hKY:=hKB;clear hKB)
  obtain⟨A',hA'd⟩: ∃A',A'=A++[p.next]:=⟨_,rfl⟩
  have hA'l:A'.length=A.length+1:=by rw[hA'd];simp
  refine aQ.iI (β:=Nat) (fun i=>en [(35,dI i),(34,dI p.queue.length),(33,dS (p.queue.map aE)),(20,dI k),(19,dI 3),(18,dS (s.bS.map cD)),(4,dI k),(3,.one (.c (.ptr 6 (nx+7) 0 0))),(2,.one (.c (.ptr 6 (nx+1) 0 0))),(1,.one (.c (.ptr 5 nx 0 0)))])
   (fun i H2 nx2=>i≤p.queue.length∧I2 H2 (nx+13) nx2 (nx+7) s A' (W++(jR s k).take i) []∧ ∀id,id<nx+13→id≠nx+7→H2 id=G0 id)
   (fun i=>p.queue.length-i) 0 ⟨noF,_,by repeat' (first| (with_reducible first|exact C1|refine C2 ?_ ?_)| ((with_reducible refine C0 ?_);exact CE (by omega) rfl)| ((with_reducible refine D0 ?_);first|exact CA rfl|refine CJ ?_)|fail),aL,by omega,?_,fun id e0 e1=> ?_⟩ ?_
  ·rw[List.take_zero,List.append_nil]
   refine⟨nx1+12,iw,id_,cap,cw,cd,cap,mw,md,?_,⟨?_,by omega,Nat.le_refl _⟩,⟨?_,a5,a6⟩,⟨?_,a8,a9⟩,by omega,by omega,by omega,by omega⟩
   ·rw[hA'l,aA.bN];rfl
   ·rw[hA'd];simp only[aA.set,aA.del,hA,if_false,if_true]
   ·simp only[aA.set,aA.del,hA,if_false];exact a4
   ·simp only[aA.set,aA.del,hA,if_false];exact a7
  ·rw[aA.aD e1,aA.aD (by omega),aA.aD (by omega),aA.aD (by omega),aA.iS (by omega)]
   exact hfr id e0 e1
  clear a0 a1 a4 a7 aa ab ac ad hA
  rintro i H2 nx2 hnx2 ⟨hi,hAt,hfr2⟩ KM hKM
  obtain⟨W',hW'd⟩: ∃W',W'=W++(jR s k).take i:=⟨_,rfl⟩
  have hW'l:W'.length≤2*k+2:=by have:=hqs k hlt;rw[hW'd,List.length_append,List.length_take];omega
  rw[←hW'd] at hAt
  obtain⟨ia,iw,id_,ca,cw,cd,ma,mw,md,a0,⟨a1,a2,a3⟩,⟨a4,a5,a6⟩,⟨a7,a8,a9⟩,aa,ab,ac,ad⟩:=hAt
  have hA:bT nx2 [nx,nx+1,nx+7,ia,iw,id_]:=AM.apart (by simp;omega) (by simp;omega)
  simp only[bT,fN] at hA
  by_cases hlt2:i<p.queue.length
  ·repeat' (first| (with_reducible first| (refine hK _ _ _ ?_;clear hK K)| (refine hA ?_;clear hA hB A B)|refine Z1 ?_|refine Z2 ?_|refine Z3 fun KB hKB=> ?_|refine Z4 (by omega) ?_|refine fun(cap:Nat) (hcap:_≤cap)=> ?_|refine fun(hcp:_≤cap)=> ?_)| (with_reducible first|refine Y2 fun K hK=> ?_|refine Y3 fun A B hA hB=> ?_)<;>(simp only[go_sem,Nat.add_assoc,Nat.left_eq_add,Nat.add_eq_left,a0,a1,a4,a7,hA,List.set];try simp (disch:=omega) only[Iw])| ((with_reducible refine Y0 ?_);simp only[AQ.then,AQ.blk])|refine⟨by omega,?_⟩| (with_reducible refine hKB _ _ _ ?_)|fail)
   refine afP (K:=KM) fun G hG=> ?_
   obtain⟨H',q1,q2,q3⟩:=ar7 (H2:=H2) (G:=G) (hi:=nx2) (lo:=nx+13) (t:=nx+7) (s:=s) (W:=W') (D:=[]) (x2:=nx2+10) (nx':=nx2+15) (k:=k) (n:=p.queue.getD i default) a1 ⟨a2,a3⟩ a7 ⟨a8,a9⟩ aa ab ac ad (by omega) (by omega) hcap (by rw[hG];exact aA.bN) (by rw[hG,aA.aD (by omega)];exact aA.bN) (fun id e0 e1 e2=>by rw[hG,aA.aD e2,aA.aD (by omega),aA.aD (by omega),aA.iS e1])
   have q4: ∀id,id<nx+13→id≠nx+7→H' id=H2 id:=fun id e0 e1=>by rw[q3 id (by omega),hG,aA.aD e1,aA.aD (by omega),aA.aD (by omega),aA.iS (by omega)]
   have hWe:W++(jR s k).take (i+1)=W'++[(⟨k,p.queue.getD i default,kO⟩:Job)]:=by
    rw[oM (by simpa [jR,←hpd] using hlt2),←List.append_assoc,←hW'd]
    congr 2
    simp[jR,←hpd,List.getD,hlt2]
   exact hKM _ _ _ (i+1) noF H' (by omega) (by omega) (by repeat' (first| (with_reducible first|exact C1|refine C2 ?_ ?_)| ((with_reducible refine C0 ?_);exact CE (by omega) rfl)| ((with_reducible refine D0 ?_);first|exact CA rfl|refine CJ ?_)|fail)) q1 ⟨by omega,by rw[hWe];exact q2,fun id e0 e1=>(q4 id e0 e1).trans (hfr2 id e0 e1)⟩
  ·repeat' (first| (with_reducible first| (refine hK _ _ _ ?_;clear hK K)| (refine hB ?_;clear hA hB A B)|refine Z1 ?_|refine Z5 (by omega) ?_|refine hKY _ _ _ ?_)| (with_reducible first|refine Y2 fun K hK=> ?_|refine Y3 fun A B hA hB=> ?_)<;>(simp only[go_sem];try simp (disch:=omega) only[Iw])| ((with_reducible refine Y9 ?_);try simp only[AQ.then,AQ.blk,reduceIte,Nat.reduceEqDiff])| ((with_reducible refine Y0 ?_);simp only[AQ.then,AQ.blk])| (with_reducible refine hKB _ _ _ ?_)|fail)
   have hi2:i=p.queue.length:=by omega
   have hWe:W'=(List.range (k+1)).flatMap (jR s):=by
    rw[hW'd,D8,←hWd,List.take_of_length_le (by simp[jR,←hpd];omega)]
   have hAe:A'=(s.bS.take (k+1)).map (·.next):=by
    rw[hA'd,oM (by omega),List.map_append,←hAd];rw[←hpd'];rfl
   exact hKL _ _ _ (k+1) noF _ (by omega) (by omega) (by repeat' (first| (with_reducible first|exact C1|refine C2 ?_ ?_)| ((with_reducible refine C0 ?_);exact CE (by omega) rfl)| ((with_reducible refine D0 ?_);first|exact CA rfl|refine CJ ?_)|fail)) aL ⟨by omega,by rw[←hWe,←hAe];exact⟨ia,iw,id_,ca,cw,cd,ma,mw,md,a0,⟨a1,a2,a3⟩,⟨a4,a5,a6⟩,⟨a7,a8,a9⟩,by omega,ab,ac,ad⟩,hfr2⟩
 ·repeat' (first| (with_reducible first| (refine hK _ _ _ ?_;clear hK K)| (refine hB ?_;clear hA hB A B)|refine Z1 ?_|refine Z3 fun KB hKB=> ?_|refine Z5 (by omega) ?_|refine hKX _ _ _ ?_)| (with_reducible first|refine Y2 fun K hK=> ?_|refine Y3 fun A B hA hB=> ?_)<;>(simp only[go_sem,g0])| ((with_reducible refine Y9 ?_);try simp only[AQ.then,AQ.blk,reduceIte,Nat.reduceEqDiff])|fail)
  have hk3:k=3:=by omega
  subst hk3
  (have hKY:=hKB;clear hKB)
  have hvs: ∀k,k<4→(iL s k).length≤2∧(bA s k).done.length≤2:=fun k hk=>⟨by have:=(hs.slv k hk).pl;simpa [iL] using this,(hs.slv k hk).dl⟩
  refine aQ.iI (β:=Nat) (fun k=>en [(52,dI k),(51,dI 4),(50,dS (s.eL.map gM)),(3,.one (.c (.ptr 6 (nx+7) 0 0))),(2,.one (.c (.ptr 6 (nx+1) 0 0)))])
   (fun k H1 nx1=>k≤4∧I2 H1 (nx+13) nx1 (nx+7) s A (W++(List.range k).flatMap (iL s)) ((List.range k).flatMap fun k=>(bA s k).done)∧ ∀id,id<nx+13→id≠nx+7→H1 id=G0 id)
   (fun k=>4-k) 0 ⟨noF,_,by repeat' (first| (with_reducible first|exact C1|refine C2 ?_ ?_)| ((with_reducible refine C0 ?_);first|exact CE (by omega) rfl| (exact CG (by(congr 2;omega)) rfl))| ((with_reducible refine D0 ?_);first|exact CA rfl|refine CJ ?_)|fail),aL,by omega,?_,hfr⟩ ?_
  ·simp only[List.range_zero,List.flatMap_nil,List.append_nil]
   exact⟨ia,iw,id_,ca,cw,cd,ma,mw,md,a0,⟨a1,a2,a3⟩,⟨a4,a5,a6⟩,⟨a7,a8,a9⟩,by omega,ab,ac,ad⟩
  clear a0 a1 a4 a7 aa ab ac ad hA hfr g0
  rintro k H2 nx2 hnx2 ⟨hk,hAt,hfr⟩ KM hKM
  obtain⟨W',hW'd⟩: ∃W',W'=W++(List.range k).flatMap (iL s):=⟨_,rfl⟩
  obtain⟨D,hDd⟩: ∃D,D=(List.range k).flatMap fun k=>(bA s k).done:=⟨_,rfl⟩
  have hW'l:W'.length≤6+2*k:=by
   have:=SF (f:=iL s) (m:=2) k fun j hj=>(hvs j (by omega)).1
   rw[hW'd,List.length_append];omega
  have hDl:D.length≤2*k:=by rw[hDd];exact SF k fun j hj=>(hvs j (by omega)).2
  rw[←hW'd,←hDd] at hAt
  obtain⟨ia,iw,id_,ca,cw,cd,ma,mw,md,a0,⟨a1,a2,a3⟩,⟨a4,a5,a6⟩,⟨a7,a8,a9⟩,aa,ab,ac,ad⟩:=hAt
  by_cases hlt:k<4
  ·obtain⟨v,hvd⟩: ∃v,v=bA s k:=⟨_,rfl⟩
   have hvd':s.eL.getD k default=v:=hvd.symm
   obtain⟨hv1,hv2⟩:=hvs k hlt
   have hv1':v.pipe.length≤2:=by simpa [iL,←hvd] using hv1
   rw[←hvd] at hv2
   repeat' (first| (with_reducible first| (refine hK _ _ _ ?_;clear hK K)| (refine hA ?_;clear hA hB A B)|refine Z1 ?_|refine Z2 ?_|refine Z3 fun KB hKB=> ?_|refine Z4 (by omega) ?_)| (with_reducible first|refine Y2 fun K hK=> ?_|refine Y3 fun A B hA hB=> ?_)<;>(simp only[go_sem,Nat.add_assoc,Nat.left_eq_add,Nat.add_eq_left,hvd',a0,List.set])|refine⟨by omega,?_⟩|fail)
   (have hKZ:=hKB;clear hKB)
   refine aQ.iI (β:=Nat) (fun i=>en [(59,dI i),(58,dI v.pipe.length),(57,dS (v.pipe.map eCJ)),(52,dI k),(51,dI 4),(50,dS (s.eL.map gM)),(9,.one (.c (.ptr 3 (nx2+3) 0 0))),(3,.one (.c (.ptr 6 (nx+7) 0 0))),(2,.one (.c (.ptr 6 (nx+1) 0 0)))])
    (fun i H3 nx3=>i≤v.pipe.length∧I2 H3 (nx+13) nx3 (nx+7) s A (W'++(iL s k).take i) D∧H3 (nx2+3)=some ⟨3,1,[gM v]⟩∧ ∀id,id<nx+13→id≠nx+7→H3 id=G0 id)
    (fun i=>v.pipe.length-i) 0 ⟨noF,_,by repeat' (first| (with_reducible first|exact C1|refine C2 ?_ ?_)| ((with_reducible refine C0 ?_);exact CE (by omega) rfl)| ((with_reducible refine D0 ?_);first|exact CA rfl|refine CJ ?_)|fail),aL,by omega,?_,aA.bN,fun id e0 e1=>by rw[aA.aD (by omega)];exact hfr id e0 e1⟩ ?_
   ·rw[List.take_zero,List.append_nil]
    refine I2.frame (hi:=nx2) ⟨ia,iw,id_,ca,cw,cd,ma,mw,md,a0,⟨a1,a2,a3⟩,⟨a4,a5,a6⟩,⟨a7,a8,a9⟩,aa,ab,ac,ad⟩ (by omega) (by omega) fun id e0 _=>aA.aD (by omega)
   clear a0 a1 a4 a7 aa ab ac ad hfr
   rintro i H3 nx3 hnx3 ⟨hi,hAt,g9,hfr⟩ KN hKN
   obtain⟨W3,hW3d⟩: ∃W3,W3=W'++(iL s k).take i:=⟨_,rfl⟩
   have hW3l:W3.length≤8+2*k:=by rw[hW3d,List.length_append,List.length_take];omega
   rw[←hW3d] at hAt
   obtain⟨ia,iw,id_,ca,cw,cd,ma,mw,md,a0,⟨a1,a2,a3⟩,⟨a4,a5,a6⟩,⟨a7,a8,a9⟩,aa,ab,ac,ad⟩:=hAt
   have n1:nx2+3≠ia:=fun he=>by rw[←he,g9] at a1;simp at a1
   have n2:nx2+3≠iw:=fun he=>by rw[←he,g9] at a4;simp at a4
   have n3:nx2+3≠id_:=fun he=>by rw[←he,g9] at a7;simp at a7
   have hA:bT nx3 [nx,nx+1,nx+7,nx2+3,ia,iw,id_]:=AM.apart (by simp;omega) (by simp;omega)
   simp only[bT,fN] at hA
   by_cases hlt2:i<v.pipe.length
   ·repeat' (first| (with_reducible first| (refine hK _ _ _ ?_;clear hK K)| (refine hA ?_;clear hA hB A B)|refine Z1 ?_|refine Z2 ?_|refine Z3 fun KB hKB=> ?_|refine Z4 (by omega) ?_|refine fun(cap:Nat) (hcap:_≤cap)=> ?_|refine fun(hcp:_≤cap)=> ?_)| (with_reducible first|refine Y2 fun K hK=> ?_|refine Y3 fun A B hA hB=> ?_)<;>(simp only[go_sem,Nat.add_assoc,Nat.left_eq_add,Nat.add_eq_left,a0,a1,a4,a7,g9,hA,List.set];try simp (disch:=omega) only[Iw])| ((with_reducible refine Y0 ?_);simp only[AQ.then,AQ.blk])|refine⟨by omega,?_⟩| (with_reducible refine hKB _ _ _ ?_)|fail)
    refine afP (K:=KN) fun G hG=> ?_
    obtain⟨H',q1,q2,q3⟩:=ar7 (H2:=H3) (G:=G) (hi:=nx3) (lo:=nx+13) (t:=nx+7) (s:=s) (W:=W3) (D:=D) (x2:=nx3+13) (nx':=nx3+18) (k:=(v.pipe.getD i default).who) (n:=(v.pipe.getD i default).n) a1 ⟨a2,a3⟩ a7 ⟨a8,a9⟩ aa ab ac ad (by omega) (by omega) hcap (by rw[hG];exact aA.bN) (by rw[hG,aA.aD (by omega)];exact aA.bN) (fun id e0 e1 e2=>by rw[hG,aA.aD e2,aA.aD (by omega),aA.aD (by omega),aA.aD (by omega),aA.iS e1])
    have q4: ∀id,id<nx+13→id≠nx+7→H' id=H3 id:=fun id e0 e1=>by rw[q3 id (by omega),hG,aA.aD e1,aA.aD (by omega),aA.aD (by omega),aA.aD (by omega),aA.iS (by omega)]
    have hWe:W'++(iL s k).take (i+1)=W3++[(⟨(v.pipe.getD i default).who,(v.pipe.getD i default).n,kO⟩:Job)]:=by
     rw[oM (by simpa [iL,←hvd] using hlt2),←List.append_assoc,←hW3d]
     congr 2
     simp[iL,←hvd,List.getD,hlt2]
    exact hKN _ _ _ (i+1) noF H' (by omega) (by omega) (by repeat' (first| (with_reducible first|exact C1|refine C2 ?_ ?_)| ((with_reducible refine C0 ?_);exact CE (by omega) rfl)| ((with_reducible refine D0 ?_);first|exact CA rfl|refine CJ ?_)|fail)) q1 ⟨by omega,by rw[hWe];exact q2,by rw[q3 _ (by omega),hG,aA.aD (by omega),aA.aD (by omega),aA.aD (by omega),aA.aD (by omega),aA.iS n2];exact g9,fun id e0 e1=>(q4 id e0 e1).trans (hfr id e0 e1)⟩
   ·have hi2:i=v.pipe.length:=by omega
    have hWe:W3=W++(List.range (k+1)).flatMap (iL s):=by
     rw[hW3d,D8,←List.append_assoc,←hW'd,List.take_of_length_le (by simp[iL,←hvd];omega)]
    repeat' (first| (with_reducible first| (refine hK _ _ _ ?_;clear hK K)| (refine hB ?_;clear hA hB A B)|refine Z1 ?_|refine Z5 (by omega) ?_|refine fun(cap:Nat) (hcap:_≤cap)=> ?_|refine fun(hcp:_≤cap)=> ?_|refine hKZ _ _ _ ?_)| (with_reducible first|refine Y2 fun K hK=> ?_|refine Y3 fun A B hA hB=> ?_)<;>(simp only[go_sem,Nat.add_assoc,Nat.left_eq_add,Nat.add_eq_left,a0,a1,a4,a7,g9,hA,List.set];try simp (disch:=omega) only[Iw])| ((with_reducible refine Y9 ?_);try simp only[AQ.then,AQ.blk,reduceIte,Nat.reduceEqDiff])| ((with_reducible refine Y0 ?_);simp only[AQ.then,AQ.blk])|refine⟨by omega,?_⟩| (with_reducible refine hKB _ _ _ ?_)|fail)
    have hDe:D++v.done=(List.range (k+1)).flatMap fun k=>(bA s k).done:=by rw[D8,←hDd,hvd]
    have hcp:D.length+v.done.length≤cap:=by omega
    refine hKM _ _ _ (k+1) noF _ (by omega) (by omega) (by repeat' (first| (with_reducible first|exact C1|refine C2 ?_ ?_)| ((with_reducible refine C0 ?_);exact CE (by omega) rfl)| ((with_reducible refine D0 ?_);first|exact CA rfl|refine CJ ?_)|fail)) aL ⟨by omega,?_,fun id e0 e1=>by rw[aA.aD e1,aA.aD (by omega),aA.iS (by omega)];exact hfr id e0 e1⟩
    rw[←hWe,←hDe]
    refine⟨ia,iw,nx3+5,ca,cw,cap,ma,mw,cap,?_,⟨?_,a2,a3⟩,⟨?_,a5,a6⟩,⟨?_,by simpa using hcp,Nat.le_refl _⟩,by omega,by omega,by omega,by omega⟩
    ·rw[aA.bN,List.length_append]
    ·rw[aA.aD (by omega),aA.aD (by omega),aA.iS ac];exact a1
    ·rw[aA.aD (by omega),aA.aD (by omega),aA.iS ad];exact a4
    ·rw[aA.aD (by omega),aA.bN,List.map_append]
  ·repeat' (first| (with_reducible first| (refine hK _ _ _ ?_;clear hK K)| (refine hB ?_;clear hA hB A B)|refine Z1 ?_|refine Z5 (by omega) ?_|refine hKY _ _ _ ?_)| (with_reducible first|refine Y2 fun K hK=> ?_|refine Y3 fun A B hA hB=> ?_)<;>(simp only[go_sem,a0])| ((with_reducible refine Y9 ?_);try simp only[AQ.then,AQ.blk,reduceIte,Nat.reduceEqDiff])|fail)
   have hk4:k=4:=by omega
   subst hk4
   have hwt:W'=wJ s:=by rw[hW'd,hWd];unfold wJ;rw[hpl,hsl]
   have hdt:D=xW s:=by rw[hDd];unfold xW;rw[hsl]
   have hAt:A=s.bS.map (·.next):=by rw[hAd,List.take_of_length_le (by omega)]
   have hnw:(W'.map key).Nodup:=by rw[hwt];exact((iF _).map key).nodup_iff.1 (z8 hs.st.K8)
   have hnd:(D.map key).Nodup:=by rw[hdt];exact((iF _).map key).nodup_iff.1 (z8 hs.st.KZ)
   refine xO (l:=W') (by omega) hnw (by omega) a4 fun H3 nx3 hx3 f4 ffr=> ?_
   have f0:=(ffr (nx+7) (by omega) (by omega)).trans a0
   have f1:=(ffr ia (by omega) ab).trans a1
   have f7:=(ffr id_ (by omega) ad.symm).trans a7
   simp only[go_sem]
   repeat' (first| (with_reducible first| (refine hK _ _ _ ?_;clear hK K)|refine Z1 ?_)| (with_reducible refine Y2 fun K hK=> ?_)<;>(simp only[go_sem,f0])|fail)
   refine xO (l:=D) (by omega) hnd (by omega) f7 fun H4 nx4 hx4 e7 efr=> ?_
   have e0:=(efr (nx+7) (by omega) (by omega)).trans f0
   have e1:=(efr ia (by omega) ac).trans f1
   have e4:=(efr iw (by omega) ad).trans f4
   have ex:=((efr (nx+1) (by omega) (by omega)).trans ((ffr (nx+1) (by omega) (by omega)).trans ((hfr _ (by omega) (by omega)).trans c1)))
   have elo: ∀id,id<nx→H4 id=H id:=fun id hid=>(efr id (by omega) (by omega)).trans ((ffr id (by omega) (by omega)).trans ((hfr id (by omega) (by omega)).trans (cfr id hid)))
   simp only[go_sem]
   refine hK _ _ _ ?_
   have hlw:(kH W').length=W'.length:=(iF _).length_eq
   have hld:(kH D).length=D.length:=(iF _).length_eq
   have heS:eSt (dZ s)=[.isl (s.words.map aE),.isl (s.holds.map aE),.isl (A.map aE),.isl ((kH W').map aK),.isl ((kH D).map aK),.isl (s.told.map aK)]:=by rw[hAt,hwt,hdt];rfl
   obtain⟨H5,hH5⟩: ∃H5:aA,H5=fun j=>if j=ia∨j=iw∨j=id_ then none else if j=nx+7 then some ⟨6,1,[eSt (dZ s)]⟩ else H4 j:=⟨_,rfl⟩
   have q5: ∀j,j≠ia→j≠iw→j≠id_→j≠nx+7→H5 j=H4 j:=fun j h1 h2 h3 h4=>by rw[hH5];simp only[h1,h2,h3,h4,or_self,if_false]
   have q7:H5 (nx+7)=some ⟨6,1,[eSt (dZ s)]⟩:=by rw[hH5];simp only[show ¬nx+7=ia by omega,show ¬nx+7=iw by omega,show ¬nx+7=id_ by omega,or_self,if_false,if_true]
   refine aQ.BZ _ H5 (fun j=>j=ia∨j=iw∨j=id_) (fun t=>.inl rfl) (apA (t:=nx+7) (fun j hj=>by rw[hH5];simp only[hj,if_true]) q7 e0 (by omega) (aM ?_) fun j h1 h2=>q5 j (fun h=>h2 (.inl h)) (fun h=>h2 (.inr (.inl h))) (fun h=>h2 (.inr (.inr h))) h1) ?_
   ·rw[heS]
    exact aH (bG rfl) (aH (bG rfl) (aH (bU aJ e1 rfl a2 (.inl rfl)) (aH (bU aV e4 hlw.symm (by omega) (.inr (.inl rfl))) (aH (bU aV e7 hld.symm (by omega) (.inr (.inr rfl))) (aH (bG rfl) eR)))))
   have qx:=(q5 (nx+1) (by omega) (by omega) (by omega) (by omega)).trans ex
   have qlo: ∀id,id<nx→H5 id=H id:=fun id hid=>(q5 id (by omega) (by omega) (by omega) (by omega)).trans (elo id hid)
   clear hK
   have hst:=hs.st
   have hz: ∀k,(nx=nx4+k)=False:=fun k=>eq_false (by omega)
   generalize hS:dZ s=S at*
   repeat' (first| (with_reducible first| (refine hK _ _ _ ?_;clear hK K)|refine Z1 ?_)| (first| (with_reducible refine Y2 fun K hK=> ?_)| (refine D9 (c:=c) (s:=S) hb hst (fun m0 m1 m2 m3 m4 m5 hm=> ?_)))<;>(simp only[go_sem,Nat.add_assoc,Nat.left_eq_add,q7,qx,hz,oIm])| ((with_reducible refine Y8 ?_);try simp only[AQ.then,AQ.blk,reduceIte,Nat.reduceEqDiff])|fail)
   refine hQ _ _ _ _ _ (.inr rfl) (kW rfl aA.bN rfl) ⟨dA (eSt S),_,fun j=>nx4+3≤j∧j<nx4+3+6,x8 (aH (bU aJ (m:=m0) (by simp only[aA.set,Nat.add_left_cancel_iff,Nat.reduceEqDiff,show ¬nx4+3=nx+1 by omega,if_false,if_true]) rfl (Nat.le_refl _) (by omega)) (aH (bU aJ (m:=m1) (by simp only[aA.set,Nat.add_left_cancel_iff,Nat.reduceEqDiff,show ¬nx4+4=nx+1 by omega,if_false,if_true]) rfl (Nat.le_refl _) (by omega)) (aH (bU aJ (m:=m2) (by simp only[aA.set,Nat.add_left_cancel_iff,Nat.reduceEqDiff,show ¬nx4+5=nx+1 by omega,if_false,if_true]) rfl (Nat.le_refl _) (by omega)) (aH (bU aV (m:=m3) (by simp only[aA.set,Nat.add_left_cancel_iff,Nat.reduceEqDiff,show ¬nx4+6=nx+1 by omega,if_false,if_true]) rfl (Nat.le_refl _) (by omega)) (aH (bU aV (m:=m4) (by simp only[aA.set,Nat.add_left_cancel_iff,Nat.reduceEqDiff,show ¬nx4+7=nx+1 by omega,if_false,if_true]) rfl (Nat.le_refl _) (by omega)) (aH (bU aV (m:=m5) (by simp only[aA.set,Nat.add_left_cancel_iff,Nat.reduceEqDiff,show ¬nx4+8=nx+1 by omega,if_false,if_true]) rfl (Nat.le_refl _) (by omega)) eR)))))),ZH,h _ _ (by omega) fun id hid=> ?_⟩
   rw[afF (by omega),aA.aD (by omega),aA.aD (by omega),aA.aD (by omega),aA.aD (by omega),aA.aD (by omega),aA.aD (by omega),aA.aD (by omega)]
   exact qlo id hid
end
end Go.Proofs.YtegiblhkjfiooaaGreat
end
