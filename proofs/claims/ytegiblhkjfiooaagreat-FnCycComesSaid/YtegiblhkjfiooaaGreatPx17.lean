/- Texts laid together by a program: rules, contracts and the walk that leads to the law. -/
import Derived.Test.YtegiblhkjfiooaaGreatPx16
import Derived.Test.YtegiblhkjfiooaaGreatPx13
import Derived.Test.YtegiblhkjfiooaaGreatPx3
import Derived.Test.YtegiblhkjfiooaaGreatPx10
import Derived.Test.YtegiblhkjfiooaaGreatPx8
set_option linter.unusedVariables false
set_option linter.unusedSimpArgs false
set_option linter.unusedSectionVars false
section
namespace Go.Proofs.YtegiblhkjfiooaaGreat
open Go Go.AM
set_option maxRecDepth 100000
set_option maxHeartbeats 8000000
theorem RA:cJ Tryz.prog zX Tryz.f39 yF GJ:=cJ.mk Tryz.func39 (by kernel_rfl) RY
end Go.Proofs.YtegiblhkjfiooaaGreat
namespace Go.AM
def IQ (H:aA) (lo hi t:Nat) (s:CSt) (A:List Int) (W D:List Job):Prop:=
 ∃ia iw id_ ca cw cd ma mw md,H t=some ⟨6,1,[[.isl (s.words.map aJ),.isl (s.holds.map aJ),.osl 1 ia 0 A.length ca,.osl 5 iw 0 W.length cw,.osl 5 id_ 0 D.length cd,.isl (s.told.map aS)]]⟩∧
  (H ia=some ⟨1,ma,A.map aJ⟩∧A.length≤ca∧ca≤ma)∧(H iw=some ⟨5,mw,W.map aS⟩∧W.length≤cw∧cw≤mw)∧(H id_=some ⟨5,md,D.map aS⟩∧D.length≤cd∧cd≤md)∧
  (lo≤ia∧ia<hi∧lo≤iw∧iw<hi∧lo≤id_∧id_<hi)∧ia≠iw∧ia≠id_∧iw≠id_
theorem IQ.frame {H H':aA} {lo hi hi' t:Nat} {s:CSt} {A:List Int} {W D:List Job} (h:IQ H lo hi t s A W D) (ht:t<lo) (hh:hi≤hi') (hf: ∀id,id<hi→(id=t∨lo≤id)→H' id=H id):IQ H' lo hi' t s A W D:=by
 obtain⟨ia,iw,id_,ca,cw,cd,ma,mw,md,h0,⟨h1,h2⟩,⟨h3,h4⟩,⟨h5,h6⟩,h7,h8⟩:=h
 exact⟨ia,iw,id_,ca,cw,cd,ma,mw,md,by rw[hf t (by omega) (.inl rfl)];exact h0,⟨by rw[hf _ (by omega) (.inr (by omega))];exact h1,h2⟩,⟨by rw[hf _ (by omega) (.inr (by omega))];exact h3,h4⟩,⟨by rw[hf _ (by omega) (.inr (by omega))];exact h5,h6⟩,by omega,h8⟩
theorem KO {H:aA} {nx i:Nat} {o o':bA} (ho:H i=some o) (h:CvO H noF id nx o' o):CvX noF nx H (H.set i o'):=fun j x hj=>by
 by_cases he:j=i
 ·subst he
  rw[aA.bH] at hj
  cases hj
  exact⟨fun h=>h,o,ho,.inr h⟩
 ·rw[aA.aC he] at hj
  exact⟨fun h=>h,x,hj,.inl rfl⟩
theorem CL {β:Type} {f:Nat→List β} {k:Nat}:(List.range (k+1)).flatMap f=(List.range k).flatMap f++f k:=by
 rw[List.range_succ,List.flatMap_append];simp
theorem QU {β:Type} {f:Nat→List β} {m:Nat} (n:Nat) (h: ∀k,k<n→(f k).length≤m):((List.range n).flatMap f).length≤m*n:=by
 induction n with
 |zero=>simp
 |succ n ih=>
  rw[CL,List.length_append]
  have h1:=ih fun k hk=>h k (by omega)
  have h2:=h n (by omega)
  rw[Nat.mul_succ];omega
theorem af0 {K:Env→aA→Nat→Prop} {e:Env} {G:aA} {n:Nat} (h: ∀G',G'=G→K e G' n):K e G n:=h G rfl
theorem as2 {H2 G:aA} {lo hi t:Nat} {s:CSt} {A:List Int} {W D:List Job} {ia iw id_ ca cd ma md x2 cap nx':Nat} {k n:Int}
 (az9:H2 ia=some ⟨1,ma,A.map aJ⟩) (az2:A.length≤ca∧ca≤ma) (aAC:H2 id_=some ⟨5,md,D.map aS⟩) (aAB:D.length≤cd∧cd≤md) (aa:lo≤ia∧ia<hi∧lo≤iw∧iw<hi∧lo≤id_∧id_<hi) (ab:ia≠iw) (ac:ia≠id_) (ad:iw≠id_) (ht:t<lo) (hx:hi≤x2∧x2<nx') (hcap:W.length+1≤cap)
 (g1:G t=some ⟨6,1,[[.isl (s.words.map aJ),.isl (s.holds.map aJ),.osl 1 ia 0 A.length ca,.osl 5 x2 0 (W.length+1) cap,.osl 5 id_ 0 D.length cd,.isl (s.told.map aS)]]⟩) (g2:G x2=some ⟨5,cap,W.map aS++[[cI k,cI n,cI 0,cI 0,.osl 0 0 0 0 0]]⟩) (g3: ∀id,id<hi→id≠iw→id≠t→G id=H2 id):
 ∃H',CvX noF nx' G H'∧IQ H' lo nx' t s A (W++[(⟨k,n,oW⟩:Job)]) D∧ ∀id,id≠x2→H' id=G id:=by
 refine⟨_,KO (i:=x2) (o':=⟨5,cap,(W++[(⟨k,n,oW⟩:Job)]).map aS⟩) g2 (uO (R:=W.map aS) (r':=aS (⟨k,n,oW⟩:Job)) (by rw[List.map_append];rfl) rfl (fun r hr=>(aG dZ _ r hr).2) rfl (aH (bB rfl) (aH (bB rfl) (aH (bB rfl) (aH (bB rfl) (aH (.frz (.nil ..)) eP)))))),?_,fun id e0=>aA.aC e0⟩
 refine⟨ia,x2,id_,ca,cap,cd,ma,cap,md,?_,⟨?_,az2⟩,⟨aA.bH,by simpa using hcap,Nat.le_refl _⟩,⟨?_,aAB⟩,by omega,by omega,by omega,by omega⟩
 ·rw[aA.aC (by omega),g1,List.length_append];rfl
 ·rw[aA.aC (by omega),g3 _ (by omega) ab (by omega)];exact az9
 ·rw[aA.aC (by omega),g3 _ (by omega) ad.symm (by omega)];exact aAC
theorem apO {F:Nat→Prop} {H H':aA} {nx t:Nat} {o o':bA} (h1: ∀j,F j→H' j=none) (h2:H' t=some o') (h3:H t=some o) (h4: ¬F t) (h5:CvO H F id nx o' o) (h6: ∀j,j≠t→¬F j→H' j=H j):CvX F nx H H':=fun j x hj=>by
 have hF: ¬F j:=fun h=>by rw[h1 j h] at hj;cases hj
 by_cases he:j=t
 ·subst he
  rw[h2] at hj
  cases hj
  exact⟨hF,o,h3,.inr h5⟩
 ·rw[h6 j he hF] at hj
  exact⟨hF,x,hj,.inl rfl⟩
def aq5 (b n:Nat) (H:aA):aA:=fun j=>if b≤j∧j<b+n then none else H j
theorem acA {b n j:Nat} {H:aA} (h: ¬(b≤j∧j<b+n)):aq5 b n H j=H j:=if_neg h
theorem ZW {b n nx:Nat} {H:aA}:CvX (fun j=>b≤j∧j<b+n) nx H (aq5 b n H):=fun j x hj=>by
 unfold aq5 at hj
 split at hj
 ·cases hj
 ·exact⟨by assumption,x,hj,.inl rfl⟩
end Go.AM
namespace Go.Proofs.YtegiblhkjfiooaaGreat
open Go Go.AM
set_option maxRecDepth 100000
set_option maxHeartbeats 8000000
section
variable {H : aA} {nx : Nat} {K : D → aA → Nat → Prop}
theorem T0 {c:Cfg} {s:CSt} (hb:aQ c) (hs:COk c s) (h: ∀H' nx',nx≤nx'→(∀id,id<nx→H' id=H id)→K (dA (eSt (cX s))) H' nx'):aB Tryz.prog zX [dA (eI s)] H nx K:=by
 have hpl:=hs.pl
 have hsl:=hs.sl
 refine aB.tW ?_
 refine RA rfl fun Q hQ=> ?_
 unfold yF
 repeat' (first| (with_reducible first| (refine hK _ _ _ ?_;clear hK K)|refine Z1 ?_|refine Z3 fun KB hKB=> ?_)| (with_reducible refine Y2 fun K hK=> ?_)<;>(simp only[go_sem,Nat.add_assoc,Nat.left_eq_add,Nat.add_eq_left,hpl])|fail)
 (have hKX:=hKB;clear hKB)
 refine aM.EJ 1 ?_
 refine aM.EJ 5 ?_
 refine aM.EJ 5 ?_
 refine aM.tW _ _ noF (fun t=>.inl rfl) (KO (i:=nx+7) (o:=⟨6,1,[[.isl (s.words.map aJ),.isl (s.holds.map aJ),.osl 0 0 0 0 0,.osl 0 0 0 0 0,.osl 0 0 0 0 0,.isl (s.told.map aS)]]⟩) (o':=⟨6,1,[[.isl (s.words.map aJ),.isl (s.holds.map aJ),.osl 1 (nx+13) 0 0 0,.osl 5 (nx+14) 0 0 0,.osl 5 (nx+15) 0 0 0,.isl (s.told.map aS)]]⟩) (by simp only[aA.set,Nat.add_assoc,Nat.add_left_cancel_iff,Nat.reduceEqDiff,Nat.reduceAdd,if_false,if_true]) (aP (aH (bB rfl) (aH (bB rfl) (aH (.VS ..) (aH (.VS ..) (aH (.VS ..) (aH (bB rfl) eP)))))))) ?_
 refine aM.TF fun G0 hG0=> ?_
 have c0:G0 nx=some ⟨5,1,[eI s]⟩:=by rw[hG0];simp only[aA.set,Nat.add_assoc,Nat.add_left_cancel_iff,Nat.reduceEqDiff,Nat.reduceAdd,Nat.left_eq_add,if_false,if_true]
 have c1:G0 (nx+1)=some ⟨6,1,[[.osl 0 0 0 0 0,.osl 0 0 0 0 0,.osl 0 0 0 0 0,.osl 0 0 0 0 0,.osl 0 0 0 0 0,.osl 0 0 0 0 0]]⟩:=by rw[hG0];simp only[aA.set,Nat.add_assoc,Nat.add_left_cancel_iff,Nat.reduceEqDiff,Nat.reduceAdd,Nat.left_eq_add,if_false,if_true]
 have cA:IQ G0 (nx+13) (nx+16) (nx+7) s [] [] []:=by
  refine⟨nx+13,nx+14,nx+15,0,0,0,0,0,0,?_,⟨?_,by simp,by simp⟩,⟨?_,by simp,by simp⟩,⟨?_,by simp,by simp⟩,by omega,by omega,by omega,by omega⟩<;>rw[hG0]<;>simp only[aA.set,Nat.add_assoc,Nat.add_left_cancel_iff,Nat.reduceEqDiff,Nat.reduceAdd,Nat.left_eq_add,if_false,if_true]<;>rfl
 have cfr: ∀id,id<nx→G0 id=H id:=fun id hid=>by
  rw[hG0];simp only[aA.set,Nat.add_assoc,show ¬id=nx by omega,show ¬id=nx+1 by omega,show ¬id=nx+7 by omega,show ¬id=nx+13 by omega,show ¬id=nx+(13+1) by omega,show ¬id=nx+(13+(1+1)) by omega,Nat.reduceAdd,show ¬id=nx+14 by omega,show ¬id=nx+15 by omega,if_false]
 clear hG0
 refine aM.gP (β:=Nat) (fun k=>en [(20,dI k),(19,dI 3),(18,dS (s.bM.map cD)),(3,.one (.c (.ptr 6 (nx+7) 0 0))),(2,.one (.c (.ptr 6 (nx+1) 0 0))),(1,.one (.c (.ptr 5 nx 0 0)))])
  (fun k H1 nx1=>k≤3∧IQ H1 (nx+13) nx1 (nx+7) s ((s.bM.take k).map (·.next)) ((List.range k).flatMap (jJ s)) []∧ ∀id,id<nx+13→id≠nx+7→H1 id=G0 id)
  (fun k=>3-k) 0 ⟨noF,_,by repeat' (first| (with_reducible first|exact C1|refine C2 ?_ ?_)| ((with_reducible refine C0 ?_);exact CE (by omega) rfl)| ((with_reducible refine D0 ?_);first|exact CA rfl|refine CJ ?_)|fail),aK,by omega,cA,fun _ _ _=>rfl⟩ ?_
 rintro k H1 nx1 hnx ⟨hk,hAt,hfr⟩ KL hKL
 have g0:H1 nx=some ⟨5,1,[eI s]⟩:=by rw[hfr _ (by omega) (by omega)];exact c0
 obtain⟨A,hAd⟩: ∃A,A=(s.bM.take k).map (·.next):=⟨_,rfl⟩
 obtain⟨W,hWd⟩: ∃W,W=(List.range k).flatMap (jJ s):=⟨_,rfl⟩
 have hAl:A.length=k:=by rw[hAd];simp;omega
 have hqs: ∀k,k<3→(jJ s k).length≤2:=fun k hk=>by have:=(hs.port k hk).ql;simpa [jJ] using this.1
 have hWl:W.length≤2*k:=by rw[hWd];exact QU k fun j hj=>hqs j (by omega)
 rw[←hAd,←hWd] at hAt
 obtain⟨ia,iw,id_,ca,cw,cd,ma,mw,md,az5,⟨az9,az2,aAD⟩,⟨aAE,aAA,aAF⟩,⟨aAC,aAB,aAG⟩,aa,ab,ac,ad⟩:=hAt
 have hA:bQ nx1 [nx,nx+1,nx+7,ia,iw,id_]:=AM.apart (by simp;omega) (by simp;omega)
 simp only[bQ,eZ] at hA
 by_cases hlt:k<3
 ·obtain⟨p,hpd⟩: ∃p,p=aF s k:=⟨_,rfl⟩
  have hpd':s.bM.getD k default=p:=hpd.symm
  have hpo:=hs.port k hlt
  rw[←hpd] at hpo
  have hql:=hpo.ql
  repeat' (first| (with_reducible first| (refine hK _ _ _ ?_;clear hK K)| (refine hA ?_;clear hA hB A B)|refine Z1 ?_|refine Z2 ?_|refine Z3 fun KB hKB=> ?_|refine Z4 (by omega) ?_|refine fun(cap:Nat) (hcap:_≤cap)=> ?_|refine fun(hcp:_≤cap)=> ?_)| (with_reducible first|refine Y2 fun K hK=> ?_|refine Y3 fun A B hA hB=> ?_)<;>(simp only[go_sem,Nat.add_assoc,Nat.left_eq_add,Nat.add_eq_left,hpd',az5,az9,aAE,aAC,hA,List.set])|refine⟨by omega,?_⟩|fail)
  (have hKY:=hKB;clear hKB)
  obtain⟨A',hA'd⟩: ∃A',A'=A++[p.next]:=⟨_,rfl⟩
  have hA'l:A'.length=A.length+1:=by rw[hA'd];simp
  refine aM.gP (β:=Nat) (fun i=>en [(35,dI i),(34,dI p.queue.length),(33,dS (p.queue.map aJ)),(20,dI k),(19,dI 3),(18,dS (s.bM.map cD)),(4,dI k),(3,.one (.c (.ptr 6 (nx+7) 0 0))),(2,.one (.c (.ptr 6 (nx+1) 0 0))),(1,.one (.c (.ptr 5 nx 0 0)))])
   (fun i H2 nx2=>i≤p.queue.length∧IQ H2 (nx+13) nx2 (nx+7) s A' (W++(jJ s k).take i) []∧ ∀id,id<nx+13→id≠nx+7→H2 id=G0 id)
   (fun i=>p.queue.length-i) 0 ⟨noF,_,by repeat' (first| (with_reducible first|exact C1|refine C2 ?_ ?_)| ((with_reducible refine C0 ?_);exact CE (by omega) rfl)| ((with_reducible refine D0 ?_);first|exact CA rfl|refine CJ ?_)|fail),aK,by omega,?_,fun id e0 e1=> ?_⟩ ?_
  ·rw[List.take_zero,List.append_nil]
   refine⟨nx1+12,iw,id_,cap,cw,cd,cap,mw,md,?_,⟨?_,by omega,Nat.le_refl _⟩,⟨?_,aAA,aAF⟩,⟨?_,aAB,aAG⟩,by omega,by omega,by omega,by omega⟩
   ·rw[hA'l,aA.bH];rfl
   ·rw[hA'd];simp only[aA.set,aA.del,hA,if_false,if_true]
   ·simp only[aA.set,aA.del,hA,if_false];exact aAE
   ·simp only[aA.set,aA.del,hA,if_false];exact aAC
  ·rw[aA.aC e1,aA.aC (by omega),aA.aC (by omega),aA.aC (by omega),aA.jG (by omega)]
   exact hfr id e0 e1
  clear az5 az9 aAE aAC aa ab ac ad hA
  rintro i H2 nx2 hnx2 ⟨hi,hAt,hfr2⟩ KM hKM
  obtain⟨W',hW'd⟩: ∃W',W'=W++(jJ s k).take i:=⟨_,rfl⟩
  have hW'l:W'.length≤2*k+2:=by have:=hqs k hlt;rw[hW'd,List.length_append,List.length_take];omega
  rw[←hW'd] at hAt
  obtain⟨ia,iw,id_,ca,cw,cd,ma,mw,md,az5,⟨az9,az2,aAD⟩,⟨aAE,aAA,aAF⟩,⟨aAC,aAB,aAG⟩,aa,ab,ac,ad⟩:=hAt
  have hA:bQ nx2 [nx,nx+1,nx+7,ia,iw,id_]:=AM.apart (by simp;omega) (by simp;omega)
  simp only[bQ,eZ] at hA
  by_cases hlt2:i<p.queue.length
  ·repeat' (first| (with_reducible first| (refine hK _ _ _ ?_;clear hK K)| (refine hA ?_;clear hA hB A B)|refine Z1 ?_|refine Z2 ?_|refine Z3 fun KB hKB=> ?_|refine Z4 (by omega) ?_|refine fun(cap:Nat) (hcap:_≤cap)=> ?_|refine fun(hcp:_≤cap)=> ?_)| (with_reducible first|refine Y2 fun K hK=> ?_|refine Y3 fun A B hA hB=> ?_)<;>(simp only[go_sem,Nat.add_assoc,Nat.left_eq_add,Nat.add_eq_left,az5,az9,aAE,aAC,hA,List.set];try simp (disch:=omega) only[Iw])| ((with_reducible refine Y0 ?_);simp only[AQ.then,AQ.blk])|refine⟨by omega,?_⟩| (with_reducible refine hKB _ _ _ ?_)|fail)
   refine af0 (K:=KM) fun G hG=> ?_
   obtain⟨H',q1,q2,q3⟩:=as2 (H2:=H2) (G:=G) (hi:=nx2) (lo:=nx+13) (t:=nx+7) (s:=s) (W:=W') (D:=[]) (x2:=nx2+10) (nx':=nx2+15) (k:=k) (n:=p.queue.getD i default) az9 ⟨az2,aAD⟩ aAC ⟨aAB,aAG⟩ aa ab ac ad (by omega) (by omega) hcap (by rw[hG];exact aA.bH) (by rw[hG,aA.aC (by omega)];exact aA.bH) (fun id e0 e1 e2=>by rw[hG,aA.aC e2,aA.aC (by omega),aA.aC (by omega),aA.jG e1])
   have q4: ∀id,id<nx+13→id≠nx+7→H' id=H2 id:=fun id e0 e1=>by rw[q3 id (by omega),hG,aA.aC e1,aA.aC (by omega),aA.aC (by omega),aA.jG (by omega)]
   have hWe:W++(jJ s k).take (i+1)=W'++[(⟨k,p.queue.getD i default,oW⟩:Job)]:=by
    rw[nK (by simpa [jJ,←hpd] using hlt2),←List.append_assoc,←hW'd]
    congr 2
    simp[jJ,←hpd,List.getD,hlt2]
   exact hKM _ _ _ (i+1) noF H' (by omega) (by omega) (by repeat' (first| (with_reducible first|exact C1|refine C2 ?_ ?_)| ((with_reducible refine C0 ?_);exact CE (by omega) rfl)| ((with_reducible refine D0 ?_);first|exact CA rfl|refine CJ ?_)|fail)) q1 ⟨by omega,by rw[hWe];exact q2,fun id e0 e1=>(q4 id e0 e1).trans (hfr2 id e0 e1)⟩
  ·repeat' (first| (with_reducible first| (refine hK _ _ _ ?_;clear hK K)| (refine hB ?_;clear hA hB A B)|refine Z1 ?_|refine Z5 (by omega) ?_|refine hKY _ _ _ ?_)| (with_reducible first|refine Y2 fun K hK=> ?_|refine Y3 fun A B hA hB=> ?_)<;>(simp only[go_sem];try simp (disch:=omega) only[Iw])| ((with_reducible refine Y9 ?_);try simp only[AQ.then,AQ.blk,reduceIte,Nat.reduceEqDiff])| ((with_reducible refine Y0 ?_);simp only[AQ.then,AQ.blk])| (with_reducible refine hKB _ _ _ ?_)|fail)
   have hi2:i=p.queue.length:=by omega
   have hWe:W'=(List.range (k+1)).flatMap (jJ s):=by
    rw[hW'd,CL,←hWd,List.take_of_length_le (by simp[jJ,←hpd];omega)]
   have hAe:A'=(s.bM.take (k+1)).map (·.next):=by
    rw[hA'd,nK (by omega),List.map_append,←hAd];rw[←hpd'];rfl
   exact hKL _ _ _ (k+1) noF _ (by omega) (by omega) (by repeat' (first| (with_reducible first|exact C1|refine C2 ?_ ?_)| ((with_reducible refine C0 ?_);exact CE (by omega) rfl)| ((with_reducible refine D0 ?_);first|exact CA rfl|refine CJ ?_)|fail)) aK ⟨by omega,by rw[←hWe,←hAe];exact⟨ia,iw,id_,ca,cw,cd,ma,mw,md,az5,⟨az9,az2,aAD⟩,⟨aAE,aAA,aAF⟩,⟨aAC,aAB,aAG⟩,by omega,ab,ac,ad⟩,hfr2⟩
 ·repeat' (first| (with_reducible first| (refine hK _ _ _ ?_;clear hK K)| (refine hB ?_;clear hA hB A B)|refine Z1 ?_|refine Z3 fun KB hKB=> ?_|refine Z5 (by omega) ?_|refine hKX _ _ _ ?_)| (with_reducible first|refine Y2 fun K hK=> ?_|refine Y3 fun A B hA hB=> ?_)<;>(simp only[go_sem,g0])| ((with_reducible refine Y9 ?_);try simp only[AQ.then,AQ.blk,reduceIte,Nat.reduceEqDiff])|fail)
  have hk3:k=3:=by omega
  subst hk3
  (have hKY:=hKB;clear hKB)
  have hvs: ∀k,k<4→(hJ s k).length≤2∧(aL s k).done.length≤2:=fun k hk=>⟨by have:=(hs.slv k hk).pl;simpa [hJ] using this,(hs.slv k hk).dl⟩
  refine aM.gP (β:=Nat) (fun k=>en [(52,dI k),(51,dI 4),(50,dS (s.dD.map gF)),(3,.one (.c (.ptr 6 (nx+7) 0 0))),(2,.one (.c (.ptr 6 (nx+1) 0 0)))])
   (fun k H1 nx1=>k≤4∧IQ H1 (nx+13) nx1 (nx+7) s A (W++(List.range k).flatMap (hJ s)) ((List.range k).flatMap fun k=>(aL s k).done)∧ ∀id,id<nx+13→id≠nx+7→H1 id=G0 id)
   (fun k=>4-k) 0 ⟨noF,_,by repeat' (first| (with_reducible first|exact C1|refine C2 ?_ ?_)| ((with_reducible refine C0 ?_);first|exact CE (by omega) rfl| (exact CG (by(congr 2;omega)) rfl))| ((with_reducible refine D0 ?_);first|exact CA rfl|refine CJ ?_)|fail),aK,by omega,?_,hfr⟩ ?_
  ·simp only[List.range_zero,List.flatMap_nil,List.append_nil]
   exact⟨ia,iw,id_,ca,cw,cd,ma,mw,md,az5,⟨az9,az2,aAD⟩,⟨aAE,aAA,aAF⟩,⟨aAC,aAB,aAG⟩,by omega,ab,ac,ad⟩
  clear az5 az9 aAE aAC aa ab ac ad hA hfr g0
  rintro k H2 nx2 hnx2 ⟨hk,hAt,hfr⟩ KM hKM
  obtain⟨W',hW'd⟩: ∃W',W'=W++(List.range k).flatMap (hJ s):=⟨_,rfl⟩
  obtain⟨D,hDd⟩: ∃D,D=(List.range k).flatMap fun k=>(aL s k).done:=⟨_,rfl⟩
  have hW'l:W'.length≤6+2*k:=by
   have:=QU (f:=hJ s) (m:=2) k fun j hj=>(hvs j (by omega)).1
   rw[hW'd,List.length_append];omega
  have hDl:D.length≤2*k:=by rw[hDd];exact QU k fun j hj=>(hvs j (by omega)).2
  rw[←hW'd,←hDd] at hAt
  obtain⟨ia,iw,id_,ca,cw,cd,ma,mw,md,az5,⟨az9,az2,aAD⟩,⟨aAE,aAA,aAF⟩,⟨aAC,aAB,aAG⟩,aa,ab,ac,ad⟩:=hAt
  by_cases hlt:k<4
  ·obtain⟨v,hvd⟩: ∃v,v=aL s k:=⟨_,rfl⟩
   have hvd':s.dD.getD k default=v:=hvd.symm
   obtain⟨hv1,hv2⟩:=hvs k hlt
   have hv1':v.pipe.length≤2:=by simpa [hJ,←hvd] using hv1
   rw[←hvd] at hv2
   repeat' (first| (with_reducible first| (refine hK _ _ _ ?_;clear hK K)| (refine hA ?_;clear hA hB A B)|refine Z1 ?_|refine Z2 ?_|refine Z3 fun KB hKB=> ?_|refine Z4 (by omega) ?_)| (with_reducible first|refine Y2 fun K hK=> ?_|refine Y3 fun A B hA hB=> ?_)<;>(simp only[go_sem,Nat.add_assoc,Nat.left_eq_add,Nat.add_eq_left,hvd',az5,List.set])|refine⟨by omega,?_⟩|fail)
   (have hKZ:=hKB;clear hKB)
   refine aM.gP (β:=Nat) (fun i=>en [(59,dI i),(58,dI v.pipe.length),(57,dS (v.pipe.map eCJ)),(52,dI k),(51,dI 4),(50,dS (s.dD.map gF)),(9,.one (.c (.ptr 3 (nx2+3) 0 0))),(3,.one (.c (.ptr 6 (nx+7) 0 0))),(2,.one (.c (.ptr 6 (nx+1) 0 0)))])
    (fun i H3 nx3=>i≤v.pipe.length∧IQ H3 (nx+13) nx3 (nx+7) s A (W'++(hJ s k).take i) D∧H3 (nx2+3)=some ⟨3,1,[gF v]⟩∧ ∀id,id<nx+13→id≠nx+7→H3 id=G0 id)
    (fun i=>v.pipe.length-i) 0 ⟨noF,_,by repeat' (first| (with_reducible first|exact C1|refine C2 ?_ ?_)| ((with_reducible refine C0 ?_);exact CE (by omega) rfl)| ((with_reducible refine D0 ?_);first|exact CA rfl|refine CJ ?_)|fail),aK,by omega,?_,aA.bH,fun id e0 e1=>by rw[aA.aC (by omega)];exact hfr id e0 e1⟩ ?_
   ·rw[List.take_zero,List.append_nil]
    refine IQ.frame (hi:=nx2) ⟨ia,iw,id_,ca,cw,cd,ma,mw,md,az5,⟨az9,az2,aAD⟩,⟨aAE,aAA,aAF⟩,⟨aAC,aAB,aAG⟩,aa,ab,ac,ad⟩ (by omega) (by omega) fun id e0 _=>aA.aC (by omega)
   clear az5 az9 aAE aAC aa ab ac ad hfr
   rintro i H3 nx3 hnx3 ⟨hi,hAt,g9,hfr⟩ KN hKN
   obtain⟨W3,hW3d⟩: ∃W3,W3=W'++(hJ s k).take i:=⟨_,rfl⟩
   have hW3l:W3.length≤8+2*k:=by rw[hW3d,List.length_append,List.length_take];omega
   rw[←hW3d] at hAt
   obtain⟨ia,iw,id_,ca,cw,cd,ma,mw,md,az5,⟨az9,az2,aAD⟩,⟨aAE,aAA,aAF⟩,⟨aAC,aAB,aAG⟩,aa,ab,ac,ad⟩:=hAt
   have n1:nx2+3≠ia:=fun he=>by rw[←he,g9] at az9;simp at az9
   have n2:nx2+3≠iw:=fun he=>by rw[←he,g9] at aAE;simp at aAE
   have n3:nx2+3≠id_:=fun he=>by rw[←he,g9] at aAC;simp at aAC
   have hA:bQ nx3 [nx,nx+1,nx+7,nx2+3,ia,iw,id_]:=AM.apart (by simp;omega) (by simp;omega)
   simp only[bQ,eZ] at hA
   by_cases hlt2:i<v.pipe.length
   ·repeat' (first| (with_reducible first| (refine hK _ _ _ ?_;clear hK K)| (refine hA ?_;clear hA hB A B)|refine Z1 ?_|refine Z2 ?_|refine Z3 fun KB hKB=> ?_|refine Z4 (by omega) ?_|refine fun(cap:Nat) (hcap:_≤cap)=> ?_|refine fun(hcp:_≤cap)=> ?_)| (with_reducible first|refine Y2 fun K hK=> ?_|refine Y3 fun A B hA hB=> ?_)<;>(simp only[go_sem,Nat.add_assoc,Nat.left_eq_add,Nat.add_eq_left,az5,az9,aAE,aAC,g9,hA,List.set];try simp (disch:=omega) only[Iw])| ((with_reducible refine Y0 ?_);simp only[AQ.then,AQ.blk])|refine⟨by omega,?_⟩| (with_reducible refine hKB _ _ _ ?_)|fail)
    refine af0 (K:=KN) fun G hG=> ?_
    obtain⟨H',q1,q2,q3⟩:=as2 (H2:=H3) (G:=G) (hi:=nx3) (lo:=nx+13) (t:=nx+7) (s:=s) (W:=W3) (D:=D) (x2:=nx3+13) (nx':=nx3+18) (k:=(v.pipe.getD i default).who) (n:=(v.pipe.getD i default).n) az9 ⟨az2,aAD⟩ aAC ⟨aAB,aAG⟩ aa ab ac ad (by omega) (by omega) hcap (by rw[hG];exact aA.bH) (by rw[hG,aA.aC (by omega)];exact aA.bH) (fun id e0 e1 e2=>by rw[hG,aA.aC e2,aA.aC (by omega),aA.aC (by omega),aA.aC (by omega),aA.jG e1])
    have q4: ∀id,id<nx+13→id≠nx+7→H' id=H3 id:=fun id e0 e1=>by rw[q3 id (by omega),hG,aA.aC e1,aA.aC (by omega),aA.aC (by omega),aA.aC (by omega),aA.jG (by omega)]
    have hWe:W'++(hJ s k).take (i+1)=W3++[(⟨(v.pipe.getD i default).who,(v.pipe.getD i default).n,oW⟩:Job)]:=by
     rw[nK (by simpa [hJ,←hvd] using hlt2),←List.append_assoc,←hW3d]
     congr 2
     simp[hJ,←hvd,List.getD,hlt2]
    exact hKN _ _ _ (i+1) noF H' (by omega) (by omega) (by repeat' (first| (with_reducible first|exact C1|refine C2 ?_ ?_)| ((with_reducible refine C0 ?_);exact CE (by omega) rfl)| ((with_reducible refine D0 ?_);first|exact CA rfl|refine CJ ?_)|fail)) q1 ⟨by omega,by rw[hWe];exact q2,by rw[q3 _ (by omega),hG,aA.aC (by omega),aA.aC (by omega),aA.aC (by omega),aA.aC (by omega),aA.jG n2];exact g9,fun id e0 e1=>(q4 id e0 e1).trans (hfr id e0 e1)⟩
   ·have hi2:i=v.pipe.length:=by omega
    have hWe:W3=W++(List.range (k+1)).flatMap (hJ s):=by
     rw[hW3d,CL,←List.append_assoc,←hW'd,List.take_of_length_le (by simp[hJ,←hvd];omega)]
    repeat' (first| (with_reducible first| (refine hK _ _ _ ?_;clear hK K)| (refine hB ?_;clear hA hB A B)|refine Z1 ?_|refine Z5 (by omega) ?_|refine fun(cap:Nat) (hcap:_≤cap)=> ?_|refine fun(hcp:_≤cap)=> ?_|refine hKZ _ _ _ ?_)| (with_reducible first|refine Y2 fun K hK=> ?_|refine Y3 fun A B hA hB=> ?_)<;>(simp only[go_sem,Nat.add_assoc,Nat.left_eq_add,Nat.add_eq_left,az5,az9,aAE,aAC,g9,hA,List.set];try simp (disch:=omega) only[Iw])| ((with_reducible refine Y9 ?_);try simp only[AQ.then,AQ.blk,reduceIte,Nat.reduceEqDiff])| ((with_reducible refine Y0 ?_);simp only[AQ.then,AQ.blk])|refine⟨by omega,?_⟩| (with_reducible refine hKB _ _ _ ?_)|fail)
    have hDe:D++v.done=(List.range (k+1)).flatMap fun k=>(aL s k).done:=by rw[CL,←hDd,hvd]
    have hcp:D.length+v.done.length≤cap:=by omega
    refine hKM _ _ _ (k+1) noF _ (by omega) (by omega) (by repeat' (first| (with_reducible first|exact C1|refine C2 ?_ ?_)| ((with_reducible refine C0 ?_);exact CE (by omega) rfl)| ((with_reducible refine D0 ?_);first|exact CA rfl|refine CJ ?_)|fail)) aK ⟨by omega,?_,fun id e0 e1=>by rw[aA.aC e1,aA.aC (by omega),aA.jG (by omega)];exact hfr id e0 e1⟩
    rw[←hWe,←hDe]
    refine⟨ia,iw,nx3+5,ca,cw,cap,ma,mw,cap,?_,⟨?_,az2,aAD⟩,⟨?_,aAA,aAF⟩,⟨?_,by simpa using hcp,Nat.le_refl _⟩,by omega,by omega,by omega,by omega⟩
    ·rw[aA.bH,List.length_append]
    ·rw[aA.aC (by omega),aA.aC (by omega),aA.jG ac];exact az9
    ·rw[aA.aC (by omega),aA.aC (by omega),aA.jG ad];exact aAE
    ·rw[aA.aC (by omega),aA.bH,List.map_append]
  ·repeat' (first| (with_reducible first| (refine hK _ _ _ ?_;clear hK K)| (refine hB ?_;clear hA hB A B)|refine Z1 ?_|refine Z5 (by omega) ?_|refine hKY _ _ _ ?_)| (with_reducible first|refine Y2 fun K hK=> ?_|refine Y3 fun A B hA hB=> ?_)<;>(simp only[go_sem,az5])| ((with_reducible refine Y9 ?_);try simp only[AQ.then,AQ.blk,reduceIte,Nat.reduceEqDiff])|fail)
   have hk4:k=4:=by omega
   subst hk4
   have hwt:W'=qU s:=by rw[hW'd,hWd];unfold qU;rw[hpl,hsl]
   have hdt:D=uQ s:=by rw[hDd];unfold uQ;rw[hsl]
   have hAt:A=s.bM.map (·.next):=by rw[hAd,List.take_of_length_le (by omega)]
   have hnw:(W'.map key).Nodup:=by rw[hwt];exact((fH _).map key).nodup_iff.1 (zG hs.st.NR)
   have hnd:(D.map key).Nodup:=by rw[hdt];exact((fH _).map key).nodup_iff.1 (zG hs.st.NW)
   refine vX (l:=W') (by omega) hnw (by omega) aAE fun H3 nx3 hx3 f4 ffr=> ?_
   have f0:=(ffr (nx+7) (by omega) (by omega)).trans az5
   have f1:=(ffr ia (by omega) ab).trans az9
   have f7:=(ffr id_ (by omega) ad.symm).trans aAC
   simp only[go_sem]
   repeat' (first| (with_reducible first| (refine hK _ _ _ ?_;clear hK K)|refine Z1 ?_)| (with_reducible refine Y2 fun K hK=> ?_)<;>(simp only[go_sem,f0])|fail)
   refine vX (l:=D) (by omega) hnd (by omega) f7 fun H4 nx4 hx4 e7 efr=> ?_
   have e0:=(efr (nx+7) (by omega) (by omega)).trans f0
   have e1:=(efr ia (by omega) ac).trans f1
   have e4:=(efr iw (by omega) ad).trans f4
   have ex:=((efr (nx+1) (by omega) (by omega)).trans ((ffr (nx+1) (by omega) (by omega)).trans ((hfr _ (by omega) (by omega)).trans c1)))
   have elo: ∀id,id<nx→H4 id=H id:=fun id hid=>(efr id (by omega) (by omega)).trans ((ffr id (by omega) (by omega)).trans ((hfr id (by omega) (by omega)).trans (cfr id hid)))
   simp only[go_sem]
   refine hK _ _ _ ?_
   have hlw:(jX W').length=W'.length:=(fH _).length_eq
   have hld:(jX D).length=D.length:=(fH _).length_eq
   have heS:eSt (cX s)=[.isl (s.words.map aJ),.isl (s.holds.map aJ),.isl (A.map aJ),.isl ((jX W').map aS),.isl ((jX D).map aS),.isl (s.told.map aS)]:=by rw[hAt,hwt,hdt];rfl
   obtain⟨H5,hH5⟩: ∃H5:aA,H5=fun j=>if j=ia∨j=iw∨j=id_ then none else if j=nx+7 then some ⟨6,1,[eSt (cX s)]⟩ else H4 j:=⟨_,rfl⟩
   have q5: ∀j,j≠ia→j≠iw→j≠id_→j≠nx+7→H5 j=H4 j:=fun j h1 h2 h3 h4=>by rw[hH5];simp only[h1,h2,h3,h4,or_self,if_false]
   have q7:H5 (nx+7)=some ⟨6,1,[eSt (cX s)]⟩:=by rw[hH5];simp only[show ¬nx+7=ia by omega,show ¬nx+7=iw by omega,show ¬nx+7=id_ by omega,or_self,if_false,if_true]
   refine aM.tW _ H5 (fun j=>j=ia∨j=iw∨j=id_) (fun t=>.inl rfl) (apO (t:=nx+7) (fun j hj=>by rw[hH5];simp only[hj,if_true]) q7 e0 (by omega) (aP ?_) fun j h1 h2=>q5 j (fun h=>h2 (.inl h)) (fun h=>h2 (.inr (.inl h))) (fun h=>h2 (.inr (.inr h))) h1) ?_
   ·rw[heS]
    exact aH (bB rfl) (aH (bB rfl) (aH (bW bF e1 rfl az2 (.inl rfl)) (aH (bW dZ e4 hlw.symm (by omega) (.inr (.inl rfl))) (aH (bW dZ e7 hld.symm (by omega) (.inr (.inr rfl))) (aH (bB rfl) eP)))))
   have qx:=(q5 (nx+1) (by omega) (by omega) (by omega) (by omega)).trans ex
   have qlo: ∀id,id<nx→H5 id=H id:=fun id hid=>(q5 id (by omega) (by omega) (by omega) (by omega)).trans (elo id hid)
   clear hK
   have hst:=hs.st
   have hz: ∀k,(nx=nx4+k)=False:=fun k=>eq_false (by omega)
   generalize hS:cX s=S at*
   repeat' (first| (with_reducible first| (refine hK _ _ _ ?_;clear hK K)|refine Z1 ?_)| (first| (with_reducible refine Y2 fun K hK=> ?_)| (refine CM (c:=c) (s:=S) hb hst (fun m0 m1 m2 m3 m4 m5 hm=> ?_)))<;>(simp only[go_sem,Nat.add_assoc,Nat.left_eq_add,q7,qx,hz,oIm])| ((with_reducible refine Y8 ?_);try simp only[AQ.then,AQ.blk,reduceIte,Nat.reduceEqDiff])|fail)
   refine hQ _ _ _ _ _ (.inr rfl) (fZ rfl aA.bH rfl) ⟨dA (eSt S),_,fun j=>nx4+3≤j∧j<nx4+3+6,lY (aH (bW bF (m:=m0) (by simp only[aA.set,Nat.add_left_cancel_iff,Nat.reduceEqDiff,show ¬nx4+3=nx+1 by omega,if_false,if_true]) rfl (Nat.le_refl _) (by omega)) (aH (bW bF (m:=m1) (by simp only[aA.set,Nat.add_left_cancel_iff,Nat.reduceEqDiff,show ¬nx4+4=nx+1 by omega,if_false,if_true]) rfl (Nat.le_refl _) (by omega)) (aH (bW bF (m:=m2) (by simp only[aA.set,Nat.add_left_cancel_iff,Nat.reduceEqDiff,show ¬nx4+5=nx+1 by omega,if_false,if_true]) rfl (Nat.le_refl _) (by omega)) (aH (bW dZ (m:=m3) (by simp only[aA.set,Nat.add_left_cancel_iff,Nat.reduceEqDiff,show ¬nx4+6=nx+1 by omega,if_false,if_true]) rfl (Nat.le_refl _) (by omega)) (aH (bW dZ (m:=m4) (by simp only[aA.set,Nat.add_left_cancel_iff,Nat.reduceEqDiff,show ¬nx4+7=nx+1 by omega,if_false,if_true]) rfl (Nat.le_refl _) (by omega)) (aH (bW dZ (m:=m5) (by simp only[aA.set,Nat.add_left_cancel_iff,Nat.reduceEqDiff,show ¬nx4+8=nx+1 by omega,if_false,if_true]) rfl (Nat.le_refl _) (by omega)) eP)))))),ZW,h _ _ (by omega) fun id hid=> ?_⟩
   rw[acA (by omega),aA.aC (by omega),aA.aC (by omega),aA.aC (by omega),aA.aC (by omega),aA.aC (by omega),aA.aC (by omega),aA.aC (by omega)]
   exact qlo id hid
end
end Go.Proofs.YtegiblhkjfiooaaGreat
end
section
namespace Go.AM
def jS (f:Nat→Int):Nat→Int
 |0=>0
 |n+1=>jS f n+f n
theorem KF {f:Nat→Int} {m:Int} (h0:0≤m): ∀n,(∀k,k<n→0≤f k∧f k≤m)→0≤jS f n∧jS f n≤m*n
 |0,_=>by simp[jS]
 |n+1,h=>by
  have h1:=KF h0 n fun k hk=>h k (by omega)
  have h2:=h n (by omega)
  have h3:m*((n+1:Nat):Int)=m*n+m:=by push_cast;rw[Int.mul_add,Int.mul_one]
  simp only[jS]
  omega
def vZ (i:CIn):Prop:=i.ready.length=3∧i.n9.length=4∧i.send.length=3
end Go.AM
namespace Go.Proofs.YtegiblhkjfiooaaGreat
open Go Go.AM
set_option maxRecDepth 100000
set_option maxHeartbeats 8000000
theorem VM:cJ Tryz.prog mW Tryz.f22 AN IC:=cJ.mk Tryz.func22 (by kernel_rfl) UM
section
variable {H : aA} {nx : Nat} {K : D → aA → Nat → Prop}
theorem XI (c:Cfg) (s:CSt) (hb:aQ c) (hcf:jO c) (hs:COk c s):aB Tryz.prog mW [dA (cU c),dA (eI s)] .nil 0 fun r _ _=>r.plain=true∧r=dB true:=by
 have hpl:=hs.pl
 have hsl:=hs.sl
 obtain⟨hwl,_,hhl,_⟩:=hs.atm
 have hat:=decide_eq_true (ZS hs.atm)
 have hbt:=decide_eq_true hb
 refine VM rfl fun Q hQ=> ?_
 unfold AN
 repeat' (first| (with_reducible first| (refine hK _ _ _ ?_;clear hK K)| (refine hB ?_;clear hA hB A B)|refine Z1 ?_|refine Z2 ?_|refine Z3 fun KB hKB=> ?_|refine Z5 (by omega) ?_)| (first| (with_reducible first|refine Y2 fun K hK=> ?_|refine Y3 fun A B hA hB=> ?_|refine Y5 (by omega) ?_)| (refine W6 hcf ?_)| (refine JZ (by omega) (by omega) (aE rfl) ?_))<;>(simp only[go_sem,eq_true hb,hat,hbt,hpl,hsl])|fail)
 (have hKX:=hKB;clear hKB)
 refine aM.abC fun G0 hG0=> ?_
 have c0:G0 0=some ⟨3,1,[cU c]⟩:=by rw[hG0];rfl
 have c1:G0 1=some ⟨5,1,[eI s]⟩:=by rw[hG0];rfl
 clear hG0
 obtain⟨fo,hfo⟩: ∃fo:Nat→Int,fo=fun k=>((aF s k).out.length:Int):=⟨_,rfl⟩
 obtain⟨fh,hfh⟩: ∃fh:Nat→Int,fh=fun k=>(((aL s k).pipe.length:Int)+(aL s k).done.length):=⟨_,rfl⟩
 refine aM.gP (β:=Nat) (fun k=>en [(35,dI k),(34,dI 3),(33,dS (s.bM.map cD)),(6,dI 0),(5,dI (jS fo k)),(3,.one (.c (.ptr 5 1 0 0))),(2,.one (.c (.ptr 3 0 0 0)))])
  (fun k H1 _=>k≤3∧ ∀id,id<30→H1 id=G0 id) (fun k=>3-k) 0 ⟨noF,_,by repeat' (first| (with_reducible first|exact C1|refine C2 ?_ ?_)| ((with_reducible refine C0 ?_);exact CE (by omega) rfl)| ((with_reducible refine D0 ?_);first|exact CA rfl|refine CJ ?_)|fail),aK,by omega,fun _ _=>rfl⟩ ?_
 rintro k H1 nx1 hnx ⟨hk,hfr⟩ KL hKL
 have g0:=(hfr 0 (by omega)).trans c0
 have g1:=(hfr 1 (by omega)).trans c1
 have hA:bQ nx1 [0,1]:=AM.apart (by simp) (by simp;omega)
 simp only[bQ,eZ] at hA
 have hs1:=KF (f:=fo) (m:=4) (by omega) k fun j hj=>by have:=(hs.port j (by omega)).ol;rw[hfo];dsimp only;omega
 by_cases hlt:k<3
 ·obtain⟨p,hpd⟩: ∃p,p=aF s k:=⟨_,rfl⟩
  have hpd':s.bM.getD k default=p:=hpd.symm
  have hpo:=hs.port k hlt
  rw[←hpd] at hpo
  have hol:=hpo.ol
  have hsum:jS fo (k+1)=jS fo k+p.out.length:=by rw[jS,hfo,hpd]
  have hKL1:=hKL
  repeat' (first| (with_reducible first| (refine hK _ _ _ ?_;clear hK K)| (refine hA ?_;clear hA hB A B)| (refine hB ?_;clear hA hB A B)|refine Z1 ?_|refine Z2 ?_|refine Z3 fun KB hKB=> ?_|refine Z4 (by omega) ?_)| (first| (with_reducible first|refine Y2 fun K hK=> ?_|refine Y3 fun A B hA hB=> ?_)| (refine FQ hb hlt hpo ?_))<;>(simp only[go_sem,Nat.add_assoc,Nat.left_eq_add,hpd',g0,g1,hA];try simp (disch:=omega) only[Iw])| ((with_reducible refine Y0 ?_);simp only[AQ.then,AQ.blk])|refine⟨by omega,?_⟩| (with_reducible refine hKB _ _ _ ?_)|fail)
  exact hKL _ _ _ (k+1) noF _ (by omega) (by omega) (by rw[hsum];repeat' (first| (with_reducible first|exact C1|refine C2 ?_ ?_)| ((with_reducible refine C0 ?_);exact CE (by omega) rfl)| ((with_reducible refine D0 ?_);first|exact CA rfl|refine CJ ?_)|fail)) aK ⟨by omega,fun id hid=>by rw[aA.aC (by omega)];exact hfr id hid⟩
 ·repeat' (first| (with_reducible first| (refine hK _ _ _ ?_;clear hK K)| (refine hB ?_;clear hA hB A B)|refine Z1 ?_|refine Z3 fun KB hKB=> ?_|refine Z5 (by omega) ?_|refine hKX _ _ _ ?_)| (with_reducible first|refine Y2 fun K hK=> ?_|refine Y3 fun A B hA hB=> ?_)<;>(simp only[go_sem,g0,g1,hsl])| ((with_reducible refine Y9 ?_);try simp only[AQ.then,AQ.blk,reduceIte,Nat.reduceEqDiff])|fail)
  have hk3:k=3:=by omega
  subst hk3
  (have hKY:=hKB;clear hKB)
  refine aM.gP (β:=Nat) (fun k=>en [(54,dI k),(53,dI 4),(52,dS (s.dD.map gF)),(6,dI (jS fh k)),(5,dI (jS fo 3)),(3,.one (.c (.ptr 5 1 0 0))),(2,.one (.c (.ptr 3 0 0 0)))])
   (fun k H1 _=>k≤4∧ ∀id,id<30→H1 id=G0 id) (fun k=>4-k) 0 ⟨noF,_,by repeat' (first| (with_reducible first|exact C1|refine C2 ?_ ?_)| ((with_reducible refine C0 ?_);exact CE (by omega) rfl)| ((with_reducible refine D0 ?_);first|exact CA rfl|refine CJ ?_)|fail),aK,by omega,hfr⟩ ?_
  clear hfr g0 g1 hA
  rintro k H2 nx2 hnx2 ⟨hk,hfr⟩ KM hKM
  have g0:=(hfr 0 (by omega)).trans c0
  have g1:=(hfr 1 (by omega)).trans c1
  have hA:bQ nx2 [0,1]:=AM.apart (by simp) (by simp;omega)
  simp only[bQ,eZ] at hA
  have hs2:=KF (f:=fh) (m:=4) (by omega) k fun j hj=>by have h1:=(hs.slv j (by omega)).pl;have h2:=(hs.slv j (by omega)).dl;rw[hfh];dsimp only;omega
  by_cases hlt:k<4
  ·obtain⟨v,hvd⟩: ∃v,v=aL s k:=⟨_,rfl⟩
   have hvd':s.dD.getD k default=v:=hvd.symm
   have hv1:=(hs.slv k hlt).pl
   have hv2:=(hs.slv k hlt).dl
   rw[←hvd] at hv1 hv2
   have hsum:jS fh (k+1)=jS fh k+(v.pipe.length+v.done.length):=by rw[jS,hfh,hvd]
   repeat' (first| (with_reducible first| (refine hK _ _ _ ?_;clear hK K)| (refine hA ?_;clear hA hB A B)| (refine hB ?_;clear hA hB A B)|refine Z1 ?_|refine Z2 ?_|refine Z3 fun KB hKB=> ?_|refine Z4 (by omega) ?_)| (first| (with_reducible first|refine Y2 fun K hK=> ?_|refine Y3 fun A B hA hB=> ?_)| (refine EL hb hs hlt ?_))<;>(simp only[go_sem,Nat.add_assoc,Nat.left_eq_add,hvd',g0,g1,hA];try simp (disch:=omega) only[Iw])| ((with_reducible refine Y0 ?_);simp only[AQ.then,AQ.blk])|refine⟨by omega,?_⟩| (with_reducible refine hKB _ _ _ ?_)|fail)
   exact hKM _ _ _ (k+1) noF _ (by omega) (by omega) (by rw[hsum];repeat' (first| (with_reducible first|exact C1|refine C2 ?_ ?_)| ((with_reducible refine C0 ?_);exact CE (by omega) rfl)| ((with_reducible refine D0 ?_);first|exact CA rfl|refine CJ ?_)|fail)) aK ⟨by omega,fun id hid=>by rw[aA.aC (by omega)];exact hfr id hid⟩
  ·have hk4:k=4:=by omega
   subst hk4
   have hct:jS fo 3=jS fh 4:=by
    have:=hs.count
    unfold hU at this
    rw[hfo,hfh]
    simp only[jS]
    omega
   have hct':(jS fo 3=jS fh 4)=True:=eq_true hct
   repeat' (first| (with_reducible first| (refine hK _ _ _ ?_;clear hK K)| (refine hB ?_;clear hA hB A B)|refine Z1 ?_|refine Z5 (by omega) ?_|refine hKY _ _ _ ?_)| (first| (with_reducible first|refine Y2 fun K hK=> ?_|refine Y3 fun A B hA hB=> ?_)| (refine T0 (c:=c) hb hs (fun H' nx' hx' ffr=> ?_)))<;>(simp only[go_sem,Nat.add_assoc,Nat.left_eq_add,g0,g1,hct',hA])| ((with_reducible refine Y9 ?_);try simp only[AQ.then,AQ.blk,reduceIte,Nat.reduceEqDiff])|fail)
   have e0:=(ffr 0 (by omega)).trans g0
   refine⟨fun _=>by rw[e0];rfl,?_⟩
   refine HQ hb hs.st ?_
   simp only[go_sem]
   repeat' (first| (with_reducible (refine hK _ _ _ ?_;clear hK K))| ((with_reducible refine Y8 ?_);try simp only[AQ.then,AQ.blk,reduceIte,Nat.reduceEqDiff])|fail)
   exact hQ _ _ _ _ _ (.inr rfl) rfl ⟨rfl,rfl⟩
theorem C5 {c:Cfg} {s:CSt} (hb:aQ c) (hcf:jO c) (hs:COk c s) (h:K (dB true) H nx):aB Tryz.prog mW [dA (cU c),dA (eI s)] H nx K:=
 (XI c s hb hcf hs).pure rfl (aI ⟨aE rfl,aE rfl,trivial⟩) fun r hr=>hr▸h
theorem YW (i:CIn) (hi:vZ i):aB Tryz.prog uJ [dA (eIn i)] .nil 0 fun rr _ _=>rr.plain=true∧rr=dB true:=by
 refine XL rfl fun Q hQ=> ?_
 unfold CT
 obtain⟨h1,h2,h3⟩:=hi
 have e1:((i.ready.length:Int)=3)=True:=eq_true (by omega)
 have e2:((i.n9.length:Int)=4)=True:=eq_true (by omega)
 have e3:((i.send.length:Int)=3)=True:=eq_true (by omega)
 have e4:decide ((i.send.length:Int)=3)=true:=by simp only[e3,decide_true]
 repeat' (first| (with_reducible first| (refine hK _ _ _ ?_;clear hK K)|refine Z1 ?_)| (with_reducible refine Y2 fun K hK=> ?_)<;>(simp only[go_sem,e1,e2,e3,e4])| ((with_reducible refine Y8 ?_);try simp only[AQ.then,AQ.blk,reduceIte,Nat.reduceEqDiff])|fail)
 all_goals first|with_reducible refine aZ hQ _ rfl rfl ?_|skip
 all_goals first|exact pD (by omega)|exact q9 (by omega)|exact j7 (by omega)|rfl
theorem NV {i:CIn} (hi:vZ i) (h:K (dB true) H nx):aB Tryz.prog uJ [dA (eIn i)] H nx K:=
 (YW i hi).pure rfl (aI ⟨aE rfl,trivial⟩) (fun r hr=>hr▸h)
theorem rY (l:List CIn) (f:FuncId) (caps:List D1) (p:CIn→Bool) (hl:l.length<2^40) (hc:caps.all D1.dQ=true) (hf: ∀x∈l,∀(H:aA) (nx:Nat) (K:D→aA→Nat→Prop),K (dB (p x)) H nx→aB Tryz.prog f (dA (eIn x)::caps.map fun d=>.one (.c d)) H nx K):
 aB Tryz.prog dK [dS (l.map eIn),.one (.c (.clo f caps))] .nil 0 fun r _ _=>r.plain=true∧r=dI (bK p l):=by
 refine q8 rfl fun Q hQ=> ?_
 unfold fI
 repeat' (first| (with_reducible first| (refine hK _ _ _ ?_;clear hK K)|refine Z1 ?_|refine Z3 fun KB hKB=> ?_)| (with_reducible refine Y2 fun K hK=> ?_)<;>(simp only[go_sem])|fail)
 (have hKX:=hKB;clear hKB);(refine aM.loop (α:={k:Nat//k≤l.length∧(∀i,i<k→p (l.getD i default)=false)}) (fun u=>en [(8,dI u.1),(7,dI l.length),(1,.one (.c (.clo f caps))),(0,dS (l.map eIn))]) (fun _=>.nil) _ (fun u=>l.length-u.1) ⟨0,by omega,(by intros;first|trivial|omega)⟩ (bU (Nat.le_refl _) (by repeat' (first| (with_reducible first|exact C1|refine C2 ?_ ?_)| ((with_reducible refine C0 ?_);exact CH (by assumption))| ((with_reducible refine D0 ?_);first|exact CA rfl|refine CJ ?_)|fail))) ?_);(rintro⟨k,hk,hinv⟩ KL hKL)
 by_cases hlt:k<l.length
 ·have hmem:l.getD k default∈l:=by simp[List.getD,hlt]
  repeat' (first| (with_reducible first| (refine hK _ _ _ ?_;clear hK K)| (refine hA ?_;clear hA hB A B)| (refine hB ?_;clear hA hB A B)|refine Z1 ?_|refine Z2 ?_|refine Z3 fun KB hKB=> ?_|refine Z4 (by omega) ?_)| (first| (with_reducible first|refine Y2 fun K hK=> ?_|refine Y3 fun A B hA hB=> ?_)| (with_reducible refine hf _ hmem _ _ _ ?_))<;>(simp only[go_sem];try simp (disch:=omega) only[Iw])| ((with_reducible refine Y8 ?_);try simp only[AQ.then,AQ.blk,reduceIte,Nat.reduceEqDiff])| ((with_reducible refine Y0 ?_);simp only[AQ.then,AQ.blk])| ((with_reducible refine Z8 (fun h=> ?_) (fun h=> ?_))<;>try subst h)|refine⟨by omega,?_⟩| (with_reducible refine hKB _ _ _ ?_)|fail)
  ·refine aZ hQ _ rfl rfl (qA (Eq.symm (CU (by omega) (by assumption) hinv)))
  · (refine hKL _ _ _ ⟨k+1,by omega,iS hinv (by assumption)⟩ (by omega) (by(try dsimp only);omega) (bU (Nat.le_refl _) (by repeat' (first| (with_reducible first|exact C1|refine C2 ?_ ?_)| ((with_reducible refine C0 ?_);exact CH (by assumption))| ((with_reducible refine D0 ?_);first|exact CA rfl|refine CJ ?_)|fail))))
 ·repeat' (first| (with_reducible first| (refine hK _ _ _ ?_;clear hK K)| (refine hB ?_;clear hA hB A B)|refine Z1 ?_|refine Z5 (by omega) ?_|refine hKX _ _ _ ?_)| (with_reducible first|refine Y2 fun K hK=> ?_|refine Y3 fun A B hA hB=> ?_)<;>(simp only[go_sem])| ((with_reducible first|refine Y8 ?_|refine Y9 ?_);try simp only[AQ.then,AQ.blk,reduceIte,Nat.reduceEqDiff])|fail)
  ·refine aZ hQ _ rfl rfl (qA (Eq.symm (tI fun i hi=>hinv i (by omega))))
theorem rX {l:List CIn} {f:FuncId} {caps caps0:List D1} {p:CIn→Bool} {d:D} (hl:l.length<2^40) (hc:caps.all D1.dQ=true) (hd:CvD H (fun _=>True) id 0 (dS (l.map eIn)) d) (hk:CvD H (fun _=>True) id 0 (.one (.c (.clo f caps))) (.one (.c (.clo f caps0)))) (hf: ∀x∈l,∀(H:aA) (nx:Nat) (K:D→aA→Nat→Prop),K (dB (p x)) H nx→aB Tryz.prog f (dA (eIn x)::caps.map fun d=>.one (.c d)) H nx K)
 (h:K (dI (bK p l)) H nx):aB Tryz.prog dK [d,.one (.c (.clo f caps0))] H nx K:=
 (rY l f caps p hl hc hf).pure rfl (aI ⟨hd,hk,trivial⟩) fun r hr=>hr▸h
theorem pC (l:List CIn) (f:FuncId) (caps:List D1) (p:CIn→Bool) (hl:l.length<2^40) (hc:caps.all D1.dQ=true) (hf: ∀x∈l,∀(H:aA) (nx:Nat) (K:D→aA→Nat→Prop),K (dB (p x)) H nx→aB Tryz.prog f (dA (eIn x)::caps.map fun d=>.one (.c d)) H nx K):
 aB Tryz.prog cW [dS (l.map eIn),.one (.c (.clo f caps))] .nil 0 fun r _ _=>r.plain=true∧r=dB (decide (0≤bK p l)):=by
 refine oM rfl fun Q hQ=> ?_
 unfold eM
 repeat' (first| (with_reducible first| (refine hK _ _ _ ?_;clear hK K)|refine Z1 ?_)| (first| (with_reducible refine Y2 fun K hK=> ?_)| (refine rX hl hc (aE rfl) (kC hc) hf ?_))<;>(simp only[go_sem])| ((with_reducible refine Y8 ?_);try simp only[AQ.then,AQ.blk,reduceIte,Nat.reduceEqDiff])|fail)
 all_goals exact aZ hQ _ rfl rfl rfl
theorem pP {l:List CIn} {f:FuncId} {caps caps0:List D1} {p:CIn→Bool} {d:D} (hl:l.length<2^40) (hc:caps.all D1.dQ=true) (hd:CvD H (fun _=>True) id 0 (dS (l.map eIn)) d) (hk:CvD H (fun _=>True) id 0 (.one (.c (.clo f caps))) (.one (.c (.clo f caps0)))) (hf: ∀x∈l,∀(H:aA) (nx:Nat) (K:D→aA→Nat→Prop),K (dB (p x)) H nx→aB Tryz.prog f (dA (eIn x)::caps.map fun d=>.one (.c d)) H nx K)
 (h:K (dB (decide (0≤bK p l))) H nx):aB Tryz.prog cW [d,.one (.c (.clo f caps0))] H nx K:=
 (pC l f caps p hl hc hf).pure rfl (aI ⟨hd,hk,trivial⟩) fun r hr=>hr▸h
theorem U6 (i:CIn) (hi:vZ i):aB Tryz.prog tQ [dA (eIn i)] .nil 0 fun rr _ _=>rr.plain=true∧rr=dB false:=by
 refine RR rfl fun Q hQ=> ?_
 unfold yG
 repeat' (first| (with_reducible first| (refine hK _ _ _ ?_;clear hK K)|refine Z1 ?_)| (first| (with_reducible refine Y2 fun K hK=> ?_)| (refine NV hi ?_))<;>(simp only[go_sem])| ((with_reducible refine Y8 ?_);try simp only[AQ.then,AQ.blk,reduceIte,Nat.reduceEqDiff])|fail)
 all_goals first|with_reducible refine aZ hQ _ rfl rfl ?_|skip
 all_goals first|exact pD (by omega)|exact q9 (by omega)|exact j7 (by omega)|rfl
theorem TR {i:CIn} (hi:vZ i) (h:K (dB false) H nx):aB Tryz.prog tQ [dA (eIn i)] H nx K:=
 (U6 i hi).pure rfl (aI ⟨aE rfl,trivial⟩) (fun r hr=>hr▸h)
theorem aaD (c:Cfg) (s:CSt) (l:List CIn) (hb:aQ c) (hcf:jO c) (hs:COk c s) (hl:l.length≤300) (hi: ∀i∈l,vZ i):aB Tryz.prog zH [dA (cU c),dA (eI s),dS (l.map eIn)] .nil 0 fun rr _ _=>rr.plain=true∧rr=dB true:=by
 refine XF rfl fun Q hQ=> ?_
 unfold B6
 have hlt:((l.length:Int)≤300)=True:=eq_true (by omega)
 have hno:(0≤bK (fun _=>false) l)=False:=eq_false fun h=>by
  obtain⟨x,_,hx⟩:=cH.1 h
  simp at hx
 have hnd:decide (0≤bK (fun _=>false) l)=false:=by simp only[hno,decide_false]
 repeat' (first| (with_reducible first| (refine hK _ _ _ ?_;clear hK K)|refine Z1 ?_)| (first| (with_reducible refine Y2 fun K hK=> ?_)| (refine C5 hb hcf hs ?_)| (refine pP (l:=l) (caps:=[]) (p:=fun _=>false) (by omega) rfl (aE rfl) (kC rfl) (fun x hx H nx K h=>TR (hi x hx) h) ?_))<;>(simp only[go_sem,hlt,hno,hnd])| ((with_reducible refine Y8 ?_);try simp only[AQ.then,AQ.blk,reduceIte,Nat.reduceEqDiff])|fail)
 all_goals first|with_reducible refine aZ hQ _ rfl rfl ?_|skip
 all_goals first|exact pD (by omega)|exact q9 (by omega)|exact j7 (by omega)|rfl
theorem YT {c:Cfg} {s:CSt} {l:List CIn} (hb:aQ c) (hcf:jO c) (hs:COk c s) (hl:l.length≤300) (hi: ∀i∈l,vZ i) (h:K (dB true) H nx):aB Tryz.prog zH [dA (cU c),dA (eI s),dS (l.map eIn)] H nx K:=
 (aaD c s l hb hcf hs hl hi).pure rfl (aI ⟨aE rfl,aE rfl,aE rfl,trivial⟩) (fun r hr=>hr▸h)
end
end Go.Proofs.YtegiblhkjfiooaaGreat
end
section
namespace Go.Proofs.YtegiblhkjfiooaaGreat
open Go Go.AM
set_option maxRecDepth 100000
end Go.Proofs.YtegiblhkjfiooaaGreat
end
section
namespace Go.Proofs.YtegiblhkjfiooaaGreat
open Go Go.AM
set_option maxRecDepth 100000
set_option maxHeartbeats 8000000
section
variable {H : aA} {nx : Nat} {K : D → aA → Nat → Prop}
def aaT (n b len cap:Nat):D:=if len=0 then .one (.c .nil) else dO n b len cap
def hpN (b len:Nat) (o:bA):aA:=if len=0 then .nil else hp [(b,o)]
end
end Go.Proofs.YtegiblhkjfiooaaGreat
end
section
namespace Go.Proofs.YtegiblhkjfiooaaGreat
open Go Go.AM
set_option maxRecDepth 100000
set_option maxHeartbeats 8000000
section
variable {H : aA} {nx : Nat} {K : D → aA → Nat → Prop}
theorem QL:aB Tryz.prog oC [] (hp []) 0
 fun r H' n'=>n'=1∧H'=hp [(0,⟨1,64,(List.replicate 64 (0:Int)).map aJ⟩)]∧r=dA [.osl 1 0 0 64 64]:=by
 refine RT rfl fun Q hQ=> ?_
 unfold xL
 repeat' (first| (with_reducible first| (refine hK _ _ _ ?_;clear hK K)|refine Z1 ?_)| (with_reducible refine Y2 fun K hK=> ?_)<;>(simp only[go_sem])| ((with_reducible refine Y8 ?_);try simp only[AQ.then,AQ.blk,reduceIte,Nat.reduceEqDiff])|fail)
 (refine hQ _ _ _ _ _ 1 (dA [.osl 1 0 0 64 64]) (hp [(0,⟨1,64,(List.replicate 64 (0:Int)).map aJ⟩)]) _ _ (.inr rfl) rfl (fU [1] (by omega) (by repeat' (first| ((with_reducible refine C0 ?_);exact CQ (by omega) rfl rfl (by rfl) rfl)| ((with_reducible refine D0 ?_);refine C9 ?_)|exact C3|refine C4 ?_ ?_|fail)) ⟨⟨by simp,by simp[sgL],_,rfl,bP (aG bF _) rfl rfl⟩,trivial⟩ (by simp[sgL])) ?_)
 exact⟨rfl,rfl,rfl⟩
theorem PY (h:K (dA [.osl 1 nx 0 64 64]) (H.set nx ⟨1,64,(List.replicate 64 (0:Int)).map aJ⟩) (nx+1)):aB Tryz.prog oC [] H nx K:=by
 refine QL.AF (l0:=[]) [] rfl trivial trivial (by simp) (by simp) (by simp) fun r H' n' _ ⟨q1,q2,q3⟩=> ?_
 subst q1;subst q2;subst q3
 have e1:back (tau 0 nx (nth [])) (hp [(0,⟨1,64,(List.replicate 64 (0:Int)).map aJ⟩)]) 1 H=H.set nx ⟨1,64,(List.replicate 64 (0:Int)).map aJ⟩:=by
  simp only[back,hp,aA.set,tau,Nat.not_lt_zero,if_true,if_false,Nat.sub_zero,Nat.add_zero,Option.map_some,uB,aA.eL]
 rw[←e1] at h
 exact h
theorem QT:aB Tryz.prog n8 [] (hp []) 0
 fun r H' n'=>n'=2∧H'=hp [(0,⟨1,64,(List.replicate 64 (0:Int)).map aJ⟩),(1,⟨1,6,(List.replicate 6 (-1:Int)).map aJ⟩)]∧r=dA [.osl 1 0 0 64 64,.osl 1 1 0 6 6]:=by
 refine SY rfl fun Q hQ=> ?_
 unfold xV
 generalize hw0:List.replicate 64 (0:Int)=w0 at*
 have hmn: ∀{H:aA} {nx:Nat} {K:D→aA→Nat→Prop},K (dA [.osl 1 nx 0 64 64]) (H.set nx ⟨1,64,w0.map aJ⟩) (nx+1)→aB Tryz.prog oC [] H nx K:=fun h=>by subst hw0;exact PY h
 generalize hw1:List.replicate 6 (-1:Int)=w1 at*
 have hl1:w1.length=6:=by subst hw1;rfl
 have hrp: ∀{H:aA} {nx i0:Nat} {K:D→aA→Nat→Prop},i0<nx→H i0=some ⟨1,1,[[cI (-1)]]⟩→K (dO 1 nx 6 6) ((H.del i0).set nx ⟨1,6,w1.map aJ⟩) (nx+1)→aB Tryz.prog eJ [dO 1 i0 1 1,dI 6] H nx K:=fun h0 o0 h=>by subst hw1;exact zT h0 o0 h
 repeat' (first| (with_reducible first| (refine hK _ _ _ ?_;clear hK K)|refine Z1 ?_)| (first| (with_reducible refine Y2 fun K hK=> ?_)| (refine hmn ?_)| (refine hrp (by omega) rfl ?_))<;>(simp only[go_sem])| ((with_reducible refine Y8 ?_);try simp only[AQ.then,AQ.blk,reduceIte,Nat.reduceEqDiff])|fail)
 (refine hQ _ _ _ _ _ 2 (dA [.osl 1 0 0 64 64,.osl 1 1 0 6 6]) (hp [(0,⟨1,64,w0.map aJ⟩),(1,⟨1,6,w1.map aJ⟩)]) _ _ (.inr rfl) rfl (fU [6,7] (by omega) (by repeat' (first| ((with_reducible refine C0 ?_);exact CQ (by omega) rfl rfl (by rfl) rfl)| ((with_reducible refine D0 ?_);refine C9 ?_)|exact C3|refine C4 ?_ ?_|fail)) ⟨⟨by simp,by simp[sgL],_,rfl,bP (aG bF _) rfl rfl⟩,⟨by simp,by simp[sgL],_,rfl,bP (aG bF _) rfl rfl⟩,trivial⟩ (by simp[sgL])) ?_)
 exact⟨rfl,rfl,rfl⟩
theorem QG (h:K (dA [.osl 1 nx 0 64 64,.osl 1 (nx+1) 0 6 6]) ((H.set nx ⟨1,64,(List.replicate 64 (0:Int)).map aJ⟩).set (nx+1) ⟨1,6,(List.replicate 6 (-1:Int)).map aJ⟩) (nx+2)):aB Tryz.prog n8 [] H nx K:=by
 refine QT.AF (l0:=[]) [] rfl trivial trivial (by simp) (by simp) (by simp) fun r H' n' _ ⟨q1,q2,q3⟩=> ?_
 subst q1;subst q2;subst q3
 generalize List.replicate 64 (0:Int)=w0 at*
 generalize List.replicate 6 (-1:Int)=w1 at*
 have e1:back (tau 0 nx (nth [])) (hp [(0,⟨1,64,w0.map aJ⟩),(1,⟨1,6,w1.map aJ⟩)]) 2 H=(H.set nx ⟨1,64,w0.map aJ⟩).set (nx+1) ⟨1,6,w1.map aJ⟩:=by
  simp only[asR,hp,aA.set,tau,Nat.not_lt_zero,if_true,if_false,Nat.sub_zero,Nat.add_zero,Option.map_some,uB,aA.eL,Nat.zero_ne_one,Nat.one_ne_zero]
 rw[←e1] at h
 exact h
end
end Go.Proofs.YtegiblhkjfiooaaGreat
end
section
namespace Go.AM
theorem abY.frame {H H':aA} {nm:Nat→Nat} {s:CSt} {cells:List D1} (h:abY H nm s cells) (hf: ∀k,k<19→H' (nm k)=H (nm k)):abY H' nm s cells:=by
 obtain⟨⟨wc,hc,pc,vc,tc,q1,q2,q3,q4,q5⟩,⟨m,rows,j1,j2,j3⟩,⟨m',rows',j4,j5,j6⟩⟩:=h
 refine⟨⟨wc,hc,pc,vc,tc,q1,q2.frame (hf _ (by omega)),q3.frame (hf _ (by omega)),q4.frame (hf _ (by omega)),q5⟩,⟨m,rows,by rw[hf 2 (by omega)];exact j1,j2,fun k hk=> ?_⟩,⟨m',rows',by rw[hf 3 (by omega)];exact j4,j5,fun k hk=> ?_⟩⟩
 ·obtain⟨r,k1,k2⟩:=j3 k hk
  exact⟨r,k1,k2.frame (hf _ (by omega)) (hf _ (by omega))⟩
 ·obtain⟨r,k1,k2⟩:=j6 k hk
  exact⟨r,k1,k2.frame (hf _ (by omega)) (hf _ (by omega))⟩
theorem agA {c:Cfg} {s:CSt} {l:List CIn} {k:Nat} (hk:k<l.length):sQ c s (l.take (k+1))=vF c (l.getD k default) (sQ c s (l.take k)):=by
 rw[nK hk,anC];rfl
theorem COk.sz {c:Cfg} {s:CSt} (hb:aQ c) (h:COk c s):CSz s:=by
 obtain⟨hwl,_,hhl,_⟩:=h.atm
 have htl:s.told.length≤36:=by have:=h.st.lens hb;simp only[cX] at this;omega
 have hd: ∀j∈s.told,j.rsp.data.length<2^20:=fun j hj=>by
  have:=(h.st.R8 j (List.mem_append_right _ hj)).1
  unfold pA at this;omega
 refine⟨h.pl,h.sl,by omega,by omega,⟨by omega,hd⟩,fun k hk=> ?_,fun k hk=> ?_⟩
 ·have h1:=(h.port k hk).ql;have h2:=(h.port k hk).ol;omega
 ·have h1:=(h.slv k hk).pl;have h2:=(h.slv k hk).dl
  refine⟨by omega,by omega,fun j hj=> ?_⟩
  have:=((h.slv k hk).rsp j hj).1
  unfold pA at this;omega
end Go.AM
namespace Go.Proofs.YtegiblhkjfiooaaGreat
open Go Go.AM
set_option maxRecDepth 100000
set_option maxHeartbeats 8000000
section
variable {H : aA} {nx : Nat} {K : D → aA → Nat → Prop}
end
end Go.Proofs.YtegiblhkjfiooaaGreat
end
section
namespace Go.AM
theorem aB.ao4 {P:Program} {f:FuncId} {args args':List D} {H:aA} {nx:Nat} {K:D→aA→Nat→Prop} (H':aA) (F:Nat→Prop) (hl:args.length=args'.length) (hA: ∀(i:Nat) (d0 d:D),args'[i]?=some d0→args[i]?=some d→CvD H F id nx d0 d) (hH:CvX F nx H H') (h:aB P f args' H' nx K):aB P f args H nx K:=by
 refine⟨h.1,fun c vs hs hN hlen hrel=> ?_⟩
 obtain⟨k1,k2⟩:=YO hs (Step.refl c H) hN hH
 refine(h.2 (c.conv nx nx id (c.frI H F)) vs k1 (fun i hi=> ?_) (by omega) fun i d v h1 h2=> ?_).mono ?_
 ·rcases hi with⟨_,hi⟩|⟨h1,h2,h3⟩
  ·exact hN i hi
  ·omega
 ·have hi:i<args.length:=by have:=(List.getElem?_eq_some_iff.1 h1).1;omega
  exact zD hs (fun b h=>.inl h) (fun id o h1 h2 h3=>.inr ⟨id,o,h1,h2,h3,rfl⟩) (fun _ _=>rfl) (hA i d _ h1 (List.getElem?_eq_getElem hi)) (hrel i _ v (List.getElem?_eq_getElem hi) h2)
 ·rintro x w' ⟨v,c2,r,H2,n2,rfl,rfl,p1,p2,p3,p4,p5,p6⟩
  refine⟨v,c2,r,H2,n2,rfl,rfl,p1,k2.trans p2,fun i hi=> ?_,p4,p5,p6⟩
  rcases p3 i hi with h|h
  ·rcases h with⟨_,hi⟩|⟨h1,h2,h3⟩
   ·exact .inl hi
   ·omega
  ·exact .inr h
open Classical in
noncomputable def without (F:Nat→Prop) (H:aA):aA:=fun j=>if F j then none else H j
theorem iI {F:Nat→Prop} {H:aA} {j:Nat} (h: ¬F j):without F H j=H j:=by unfold without;rw[if_neg h]
theorem kS {F:Nat→Prop} {H:aA} {nx:Nat}:CvX F nx H (without F H):=fun j x hj=>by
 by_cases h:F j
 ·unfold without at hj;rw[if_pos h] at hj;cases hj
 ·rw[iI h] at hj;exact⟨h,x,hj,.inl rfl⟩
end Go.AM
namespace Go.Proofs.YtegiblhkjfiooaaGreat
open Go Go.AM
set_option maxRecDepth 100000
set_option maxHeartbeats 8000000
theorem QC:cJ Tryz.prog tV Tryz.f30 xR F5:=cJ.mk Tryz.func30 (by kernel_rfl) PZ
theorem SZ:cJ Tryz.prog AA Tryz.f17 w7 E6:=cJ.mk Tryz.func17 (by kernel_rfl) R7
section
variable {H : aA} {nx : Nat} {K : D → aA → Nat → Prop}
theorem IA {c:Cfg} {s:CSt} {l:List CIn} (hb:aQ c) (hcf:jO c) (hs:COk c s) (hl:l.length≤300) (hi: ∀i∈l,vZ i)
 (h: ∀H' nx',nx≤nx'→(∀id,id<nx→H' id=H id)→K (dA (eI (sQ c s l))) H' nx'):aB Tryz.prog tV [dA (cU c),dA (eI s),dS (l.map eIn)] H nx K:=by
 refine aB.tW ?_
 refine QC rfl fun Q hQ=> ?_
 unfold xR
 repeat' (first| (with_reducible first| (refine hK _ _ _ ?_;clear hK K)| (refine hB ?_;clear hA hB A B)|refine Z1 ?_|refine Z2 ?_)| (first| (with_reducible first|refine Y2 fun K hK=> ?_|refine Y3 fun A B hA hB=> ?_)| (refine YT hb hcf hs hl hi ?_)| (refine fJ (hs.sz hb) (fun H' nx' nm cells hx hR hP ffr=> ?_)))<;>(simp only[go_sem,Nat.add_assoc,Nat.left_eq_add,Nat.add_eq_left])|fail)
 have hcl:cells.length=5:=by obtain⟨_,_,_,_,_,rfl,_⟩:=hR.ex;rfl
 have hrow:cells++List.drop cells.length [D1.osl 0 0 0 0 0,.osl 0 0 0 0 0,.osl 0 0 0 0 0,.osl 0 0 0 0 0,.osl 0 0 0 0 0]=cells:=by rw[hcl];simp
 refine⟨hcl,by omega,?_⟩
 rw[hrow]
 refine hK _ _ _ ?_
 clear hK K
 repeat' (first| (with_reducible first| (refine hK _ _ _ ?_;clear hK K)|refine Z1 ?_|refine Z3 fun KB hKB=> ?_)| (with_reducible refine Y2 fun K hK=> ?_)<;>(simp only[go_sem])|fail)
 (have hKX:=hKB;clear hKB)
 refine aM.TF fun G0 hG0=> ?_
 have gfr: ∀id,id<nx+3→G0 id=H' id:=fun id hid=>by
  rw[hG0,aA.aC (by omega)]
 have c0:G0 nx=some ⟨3,1,[cU c]⟩:=by rw[gfr _ (by omega),ffr _ (by omega)];simp only[aA.set,Nat.left_eq_add,Nat.reduceEqDiff,if_false,if_true,Nat.one_ne_zero,reduceIte]
 have c2:G0 (nx+2)=some ⟨5,1,[[.osl 0 0 0 0 0,.osl 0 0 0 0 0,.osl 0 0 0 0 0,.osl 0 0 0 0 0,.osl 0 0 0 0 0]]⟩:=by rw[gfr _ (by omega),ffr _ (by omega)];simp only[aA.set,Nat.add_left_cancel_iff,Nat.reduceEqDiff,Nat.add_eq_left,if_false,if_true,reduceIte]
 have glo: ∀id,id<nx→G0 id=H id:=fun id hid=>by
  rw[gfr _ (by omega),ffr _ (by omega)];simp only[aA.set,show ¬id=nx by omega,show ¬id=nx+1 by omega,show ¬id=nx+2 by omega,if_false]
 have gR:Rep (fun id=>id<nx+3) G0 nx' (nx+10) nm s:=by
  have hlo:=fun k hk=>hP.rng k hk
  refine⟨⟨cells,by rw[hG0];exact aA.bH,hR.frame fun k hk=>by have:=hlo k hk;rw[hG0,aA.aC (by omega)]⟩,⟨hP.inj,fun k hk=>by have:=hlo k hk;omega,fun k hk hn=>by have:=hlo k hk;omega⟩,fun k hk=>by have:=hlo k hk;omega,⟨by omega,by omega⟩,fun id hid=>by omega⟩
 clear hG0 hR hP ffr gfr
 refine aM.gP (β:=Nat×(Nat→Nat)) (fun u=>en [(20,dI u.1),(19,dI l.length),(18,dS (l.map eIn)),(7,.one (.c (.ptr 5 (nx+10) 0 0))),(6,.one (.c (.ptr 5 (nx+2) 0 0))),(3,.one (.c (.ptr 3 nx 0 0)))])
  (fun u H1 nx1=>u.1≤l.length∧Rep (fun id=>id<nx+3) H1 nx1 (nx+10) u.2 (sQ c s (l.take u.1))∧ ∀id,id<nx+3→H1 id=G0 id)
  (fun u=>l.length-u.1) (0,nm) ⟨noF,_,by repeat' (first| (with_reducible first|exact C1|refine C2 ?_ ?_)| ((with_reducible refine C0 ?_);exact CE (by omega) rfl)| ((with_reducible refine D0 ?_);first|exact CA rfl|refine CJ ?_)|fail),aK,by dsimp only;omega,gR.frame (by omega) rfl (fun _ _=>rfl) (fun id (hid:id<nx+3)=>⟨by omega,by omega,fun k hk he=>gR.names.av k hk (he▸hid)⟩),fun _ _=>rfl⟩ ?_
 rintro⟨k,nm1⟩ H1 nx1 hnx ⟨hk,hR,hfr⟩ KL hKL
 dsimp only at hk hR
 have g0:=(hfr nx (by omega)).trans c0
 have g2:=(hfr (nx+2) (by omega)).trans c2
 obtain⟨S,hSd⟩: ∃S,S=sQ c s (l.take k):=⟨_,rfl⟩
 have hS:COk c S:=by rw[hSd];exact(afM hb hs).1
 rw[←hSd] at hR
 have hi0:=hR.i0
 by_cases hlt:k<l.length
 ·obtain⟨i,hid⟩: ∃i,i=l.getD k default:=⟨_,rfl⟩
  have hii:vZ i:=by rw[hid];exact hi _ (cC hlt)
  have hA:bQ nx1 [nx]:=AM.apart (by simp) (by simp;omega)
  simp only[bQ,eZ] at hA
  repeat' (first| (with_reducible first| (refine hK _ _ _ ?_;clear hK K)| (refine hA ?_;clear hA hB A B)|refine Z1 ?_|refine Z2 ?_|refine Z3 fun KB hKB=> ?_|refine Z4 (by omega) ?_)| (with_reducible first|refine Y2 fun K hK=> ?_|refine Y3 fun A B hA hB=> ?_)<;>(simp only[go_sem,Nat.add_assoc,Nat.left_eq_add,hid.symm,g0,hA])|refine⟨by omega,?_⟩|fail)
  have hnm1:=hR.names.lt
  refine tX (X:=fun id=>id<nx+3) hb hS hii (hR.frame (by omega) (aA.aC (by omega)) (fun k hk=>aA.aC (by have:=hnm1 k hk;omega)) fun id hid2=>⟨by omega,by omega,fun k hk he=>hR.names.av k hk (he▸hid2)⟩) fun H2 nx2 nm2 a b d e hx2 hR2 hX2=> ?_
  have ffr: ∀id,id<nx+3→H2 id=G0 id:=fun id hid=>by rw[hX2 id hid,aA.aC (by omega)];exact hfr id hid
  have hSe:sQ c s (l.take (k+1))=vF c i S:=by rw[agA hlt,←hSd,←hid]
  simp only[go_sem]
  repeat' (first| (with_reducible (refine hK _ _ _ ?_;clear hK K))| (with_reducible refine Y2 fun K hK=> ?_)<;>(simp only[go_sem];try simp (disch:=omega) only[Iw])| ((with_reducible refine Y0 ?_);simp only[AQ.then,AQ.blk])| (with_reducible refine hKB _ _ _ ?_)|fail)
  exact hKL _ _ _ (k+1,nm2) noF _ (by omega) (by dsimp only;omega) (by repeat' (first| (with_reducible first|exact C1|refine C2 ?_ ?_)| ((with_reducible refine C0 ?_);exact CE (by omega) rfl)| ((with_reducible refine D0 ?_);first|exact CA rfl|refine CJ ?_)|fail)) aK ⟨by dsimp only;omega,by dsimp only;rw[hSe];exact hR2.frame (by omega) rfl (fun _ _=>rfl) (fun id hid=>⟨by omega,by omega,fun k hk he=>hR2.names.av k hk (he▸hid)⟩),ffr⟩
 ·have hSe:S=sQ c s l:=by rw[hSd,List.take_of_length_le (by omega)]
  obtain⟨cells2,hst,hRL⟩:=hR.st
  obtain⟨wc,hc,pc,vc,tc,hce,_⟩:=hRL.ex
  have hst2:=hst
  rw[hce] at hst2
  unfold U2 at hst2
  repeat' (first| (with_reducible first| (refine hK _ _ _ ?_;clear hK K)| (refine hB ?_;clear hA hB A B)|refine Z1 ?_|refine Z5 (by omega) ?_|refine hKX _ _ _ ?_)| (with_reducible first|refine Y2 fun K hK=> ?_|refine Y3 fun A B hA hB=> ?_)<;>(simp only[go_sem,hst2])| ((with_reducible refine Y9 ?_);try simp only[AQ.then,AQ.blk,reduceIte,Nat.reduceEqDiff])|fail)
  have hn1:=hR.names.lt
  refine aB.ao4 (args':=[dA (eI S)]) (without (fun j=>∃k,k<19∧j=nm1 k) H1) (fun j=>∃k,k<19∧j=nm1 k) rfl (fun i d0 d h1 h2=> ?_) kS ?_
  ·match i with
   |0=>
    simp only[List.getElem?_cons_zero,Option.some.injEq] at h1 h2
    subst h1;subst h2
    have:=A8 (σ:=id) (nh:=nx1+4) (hRL.VI (F:=fun j=>∃k,k<19∧j=nm1 k) (fun k hk=>⟨k,hk,rfl⟩) hS.pl hS.sl)
    rw[hce] at this
    exact lY this
   |i+1=>simp at h1
  refine fJ (hS.sz hb) fun H2 nx2 nm2 cells3 hx2 hR3 hP3 ffr3=> ?_
  have hcl3:cells3.length=5:=by obtain⟨_,_,_,_,_,rfl,_⟩:=hR3.ex;rfl
  have hrow3:cells3++List.drop cells3.length [D1.osl 0 0 0 0 0,.osl 0 0 0 0 0,.osl 0 0 0 0 0,.osl 0 0 0 0 0,.osl 0 0 0 0 0]=cells3:=by rw[hcl3];simp
  have e2:H2 (nx+2)=some ⟨5,1,[[.osl 0 0 0 0 0,.osl 0 0 0 0 0,.osl 0 0 0 0 0,.osl 0 0 0 0 0,.osl 0 0 0 0 0]]⟩:=by
   rw[ffr3 _ (by omega),iI (fun⟨k,hk,he⟩=>hR.names.av k hk (show nm1 k<nx+3 by omega))];exact g2
  simp only[go_sem,e2]
  refine⟨hcl3,by omega,?_⟩
  rw[hrow3]
  refine hK _ _ _ ?_
  clear hK K
  repeat' (first| ((with_reducible refine Y8 ?_);try simp only[AQ.then,AQ.blk,reduceIte,Nat.reduceEqDiff])|fail)
  refine hQ _ _ _ _ _ (.inr rfl) (fZ rfl aA.bH hcl3) ⟨dA (eI (sQ c s l)),_,fun j=>∃k,k<19∧j=nm2 k,?_,kS,h _ _ (by omega) fun id hid=> ?_⟩
  ·rw[←hSe]
   exact lY (A8 ((hR3.frame fun k hk=>aA.aC (by have:=hP3.rng k hk;omega)).VI (fun k hk=>⟨k,hk,rfl⟩) hS.pl hS.sl))
  ·rw[iI (fun⟨k,hk,he⟩=>by have:=hP3.rng k hk;omega),aA.aC (by omega),ffr3 _ (by omega),iI (fun⟨k,hk,he⟩=>hR.names.av k hk (show nm1 k<nx+3 by omega)),hfr id (by omega)]
   exact glo id hid
end
end Go.Proofs.YtegiblhkjfiooaaGreat
end
