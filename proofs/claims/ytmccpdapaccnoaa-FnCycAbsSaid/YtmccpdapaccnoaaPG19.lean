/- Texts laid together by a program: rules, contracts and the walk that leads to the law. -/
import Derived.Test.YtmccpdapaccnoaaPG18
import Derived.Test.YtmccpdapaccnoaaPG13
import Derived.Test.YtmccpdapaccnoaaPG11
set_option linter.unusedVariables false
set_option linter.unusedSimpArgs false
set_option linter.unusedSectionVars false
section
namespace Go.AM
theorem bjS {H:aA} {nh n m m':Nat} {R rows' rows:List (List D1)} {r' r:List D1} (e':rows'=R++[r']) (e:rows=R++[r]) (hR: ∀r∈R,∀x∈r,x.dQ=true∨ ∃n id,x= .osl n id 0 0 0) (hm:m'=m) (h:CvL H noF id nh r' r):CvO H noF id nh ⟨n,m',rows'⟩ ⟨n,m,rows⟩:=by
 subst e';subst e;subst hm
 refine⟨rfl,rfl,by simp,fun _ h=>by simp at h,fun i r1 h1=> ?_⟩
 simp only[List.getElem?_append] at h1 ⊢
 by_cases hi:i<R.length
 ·rw[if_pos hi] at h1 ⊢
  refine⟨r1,h1,rfl,fun j x y hx hy=> ?_⟩
  obtain rfl:x=y:=by rw[hx] at hy;exact Option.some.inj hy
  rcases hR r1 (List.mem_of_getElem? h1) x (List.mem_of_getElem? hx) with h2|⟨n,k,rfl⟩
  ·exact bB h2
  ·exact .VS ..
 ·rw[if_neg hi] at h1 ⊢
  rw[List.getElem?_singleton] at h1 ⊢
  split at h1
  ·rename_i h0;cases h1;exact⟨r,if_pos h0,h⟩
  ·cases h1
theorem bhO {H:aA} {n id:Nat} (h:H id=some ⟨n,0,[]⟩):tZ H n id 0 0 0 []:=⟨⟨0,[],h,rfl,by simp,rfl,by omega,by omega⟩⟩
def bhX (nx b iv:Nat):Nat→Nat:=fun a=>if a=0 then nx+22 else if a=1 then nx+23 else if a=2 then b else if a=3 then iv else if a=4 then nx+14 else if a<8 then nx+(a-5) else if a<11 then nx+3+(a-8) else if a<15 then nx+6+(a-11) else nx+10+(a-15)
theorem bjV {X:Nat→Prop} {nx b iv nx':Nat} (hX: ∀id,X id→id<nx) (hb:b=nx+15∨nx+25≤b∧b<nx') (hi:iv=nx+16∨nx+25≤iv∧iv<nx'∧iv≠b) (h:nx+25≤nx'):Names X nx' (bhX nx b iv):=by
 have key: ∀a,a<19→(a=0∧bhX nx b iv a=nx+22)∨(a=1∧bhX nx b iv a=nx+23)∨(a=2∧bhX nx b iv a=b)∨(a=3∧bhX nx b iv a=iv)∨(a=4∧bhX nx b iv a=nx+14)∨(5≤a∧bhX nx b iv a+5=nx+a∧a<15)∨(15≤a∧bhX nx b iv a+5=nx+a):=fun a ha=>by
  unfold bhX
  repeat' split
  all_goals omega
 refine⟨fun j k hj hk he=> ?_,fun k hk=> ?_,fun k hk h0=> ?_⟩
 ·have h1:=key j hj
  have h2:=key k hk
  omega
 ·have h1:=key k hk
  omega
 ·have h1:=key k hk
  have h2:=hX _ h0
  omega
end Go.AM
namespace Go.Proofs.Ytmccpdapaccnoaa
open Go Go.AM
set_option maxRecDepth 100000
set_option maxHeartbeats 8000000
section
variable {H : aA} {nx : Nat} {K : D → aA → Nat → Prop}
theorem bjF:cJ Try.prog bhA Try.f40 bgW bhP:=cJ.mk Try.func40 (by kernel_rfl) bi6
def biG (nx k:Nat):List (List D1):=(List.range k).map fun j=>[cI 0,.osl 1 (nx+j) 0 0 0,.osl 3 (nx+3+j) 0 0 0,cI 3]
def bi8 (nx k:Nat):List (List D1):=(List.range k).map fun j=>[.osl 3 (nx+6+j) 0 0 0,.osl 5 (nx+10+j) 0 0 0,cI 2]
theorem bjW {nx k:Nat}:(biG nx k).length=k:=by simp[biG]
theorem bjX {nx k:Nat}:(bi8 nx k).length=k:=by simp[bi8]
theorem bj5 {nx k:Nat}:biG nx (k+1)=biG nx k++[[cI 0,.osl 1 (nx+k) 0 0 0,.osl 3 (nx+3+k) 0 0 0,cI 3]]:=by simp[biG,List.range_succ]
theorem bj8 {nx k:Nat}:bi8 nx (k+1)=bi8 nx k++[[.osl 3 (nx+6+k) 0 0 0,.osl 5 (nx+10+k) 0 0 0,cI 2]]:=by simp[bi8,List.range_succ]
theorem bjL {X:Nat→Prop} (hX: ∀id,X id→id<nx)
 (h: ∀H' nx' nm cells,nx≤nx'→bgJ X H' nx' nm HY cells→(∀id,id<nx→H' id=H id)→K (dA cells) H' nx'):
 aB Try.prog bhA [] H nx K:=by
 refine bjF rfl fun Q hQ=> ?_
 unfold bgW
 refine aM.EJ 1 (aM.EJ 1 (aM.EJ 1 (aM.EJ 3 (aM.EJ 3 (aM.EJ 3 (aM.EJ 3 (aM.EJ 3 (aM.EJ 3 (aM.EJ 3 (aM.EJ 5 (aM.EJ 5 (aM.EJ 5 (aM.EJ 5 (aM.EJ 5 (aM.EJ 4 (aM.EJ 3 ?_))))))))))))))))
 refine aM.aTJ fun G0 hG0=> ?_
 have c1: ∀k,k<3→G0 (nx+k)=some ⟨1,0,[]⟩:=fun k hk=>by
  rw[hG0]
  obtain rfl|rfl|rfl:k=0∨k=1∨k=2:=by omega
  all_goals (simp (disch:=omega) only[aA.aC,aA.bH,Nat.add_assoc,Nat.reduceAdd,Nat.add_zero])
 have c3: ∀k,3≤k→k<10→G0 (nx+k)=some ⟨3,0,[]⟩:=fun k hk hk2=>by
  rw[hG0]
  obtain rfl|rfl|rfl|rfl|rfl|rfl|rfl:k=3∨k=4∨k=5∨k=6∨k=7∨k=8∨k=9:=by omega
  all_goals (simp (disch:=omega) only[aA.aC,aA.bH,Nat.add_assoc,Nat.reduceAdd,Nat.add_zero])
 have c5: ∀k,10≤k→k<15→G0 (nx+k)=some ⟨5,0,[]⟩:=fun k hk hk2=>by
  rw[hG0]
  obtain rfl|rfl|rfl|rfl|rfl:k=10∨k=11∨k=12∨k=13∨k=14:=by omega
  all_goals (simp (disch:=omega) only[aA.aC,aA.bH,Nat.add_assoc,Nat.reduceAdd,Nat.add_zero])
 have cp:G0 (nx+15)=some ⟨4,0,[]⟩:=by rw[hG0];simp (disch:=omega) only[aA.aC,aA.bH,Nat.add_assoc,Nat.reduceAdd,Nat.add_zero]
 have cv:G0 (nx+16)=some ⟨3,0,[]⟩:=by rw[hG0];simp (disch:=omega) only[aA.aC,aA.bH,Nat.add_assoc,Nat.reduceAdd,Nat.add_zero]
 have cf: ∀id,id<nx→G0 id=H id:=fun id hid=>by rw[hG0];simp (disch:=omega) only[aA.aC]
 clear hG0
 simp only[Nat.add_assoc,Nat.reduceAdd]
 repeat' (first| (with_reducible first| (refine hK _ _ _ ?_;clear hK K)| (refine hA ?_;clear hA hB A B)| (refine hB ?_;clear hA hB A B)|refine Z1 ?_|refine Z2 ?_|refine Z3 fun KB hKB=> ?_|refine Z4 (by omega) ?_|refine Z5 (by omega) ?_|refine Z6 (fun h=> ?_) fun h=> ?_|refine Z7 (fun h=> ?_) fun h=> ?_|refine fun(cap:Nat) (hcap:_≤cap)=> ?_|refine fun(hcp:_≤cap)=> ?_|refine fun(b:Bool)=> ?_|refine hKX _ _ _ ?_|refine hKY _ _ _ ?_|refine hKZ _ _ _ ?_)| (first| (with_reducible first|refine Y1 fun K hK=> ?_|refine Y2 fun K hK=> ?_|refine Y3 fun A B hA hB=> ?_|refine Y4 (by omega) ?_|refine Y5 (by omega) ?_|refine Y6 (fun h=> ?_) fun h=> ?_| (refine Y7 (fun h=> ?_) (fun h=> ?_)<;>try subst h))| (refine aR5 (fun hc0 hhc=> ?_)))<;>(simp only[go_sem,Nat.add_assoc,Nat.left_eq_add,Nat.add_eq_left];try simp (disch:=omega) only[Iw])| ((with_reducible first|refine Y8 ?_|refine Y9 ?_);try simp only[AQ.then,AQ.blk,reduceIte,Nat.reduceEqDiff])| ((with_reducible refine Y0 ?_);simp only[AQ.then,AQ.blk])| ((with_reducible refine Z8 (fun h=> ?_) (fun h=> ?_))<;>try subst h)|refine⟨by omega,?_⟩| (refine⟨by(rw[List.length_take];omega),?_⟩)| (with_reducible first|refine hKB _ _ _ ?_| (clear hKB KB;refine hKB _ _ _ ?_)| (clear hKB KB;clear hKB KB;refine hKB _ _ _ ?_))|fail)
 (have hKX:=hKB;clear hKB)
 have hnP: ∀k,∀r∈biG nx k,∀x∈r,x.dQ=true∨ ∃n id,x= .osl n id 0 0 0:=fun k r hr x hx=>by
  obtain⟨j,_,rfl⟩:=List.mem_map.1 hr
  simp only[List.mem_cons,List.not_mem_nil,or_false] at hx
  rcases hx with rfl|rfl|rfl|rfl
  ·exact .inl rfl
  ·exact .inr ⟨_,_,rfl⟩
  ·exact .inr ⟨_,_,rfl⟩
  ·exact .inl rfl
 have hnV: ∀k,∀r∈bi8 nx k,∀x∈r,x.dQ=true∨ ∃n id,x= .osl n id 0 0 0:=fun k r hr x hx=>by
  obtain⟨j,_,rfl⟩:=List.mem_map.1 hr
  simp only[List.mem_cons,List.not_mem_nil,or_false] at hx
  rcases hx with rfl|rfl|rfl
  ·exact .inr ⟨_,_,rfl⟩
  ·exact .inr ⟨_,_,rfl⟩
  ·exact .inl rfl
 refine aM.tW _ _ noF (fun t=>.inl rfl) (KO (i:=nx+20) (o':=⟨5,1,[[.osl 1 (nx+22) 0 64 64,.osl 1 (nx+23) 0 6 hc0,.osl 4 (nx+15) 0 0 0,.osl 3 (nx+16) 0 0 0,.osl 5 (nx+14) 0 0 0]]⟩) aA.bH (aP (aH (.osl _ _ _ _ _ (by omega)) (aH (.osl _ _ _ _ _ (by omega)) (aH (.VS ..) (aH (.VS ..) (aH (.VS ..) eP))))))) ?_
 refine aM.TF fun G hG=> ?_
 have d20:G (nx+20)=some ⟨5,1,[[.osl 1 (nx+22) 0 64 64,.osl 1 (nx+23) 0 6 hc0,.osl 4 (nx+15) 0 0 0,.osl 3 (nx+16) 0 0 0,.osl 5 (nx+14) 0 0 0]]⟩:=by rw[hG];exact aA.bH
 have d17:G (nx+17)=some ⟨5,1,[[D1.osl 0 0 0 0 0,D1.osl 0 0 0 0 0,D1.osl 0 0 0 0 0,D1.osl 0 0 0 0 0,D1.osl 0 0 0 0 0]]⟩:=by rw[hG];simp (disch:=omega) only[aA.aC,aA.bH]
 have d22:G (nx+22)=some ⟨1,64,(List.replicate 64 (0:Int)).map aJ⟩:=by rw[hG];simp (disch:=omega) only[aA.aC,aA.bH];rfl
 have d23:G (nx+23)=some ⟨1,hc0,(List.replicate 6 (-1:Int)).map aJ⟩:=by rw[hG];simp (disch:=omega) only[aA.aC,aA.bH];rfl
 have df: ∀id,id<nx+17→G id=G0 id:=fun id hid=>by rw[hG];simp (disch:=omega) only[aA.aC]
 clear hG
 refine aM.gP (β:=Nat×Nat×Nat) (fun u=>en [(2,dI u.1),(1,.one (.c (.ptr 5 (nx+20) 0 0))),(0,.one (.c (.ptr 5 (nx+17) 0 0)))])
  (fun u H1 n1=>u.1≤3∧H1 (nx+20)=some ⟨5,1,[[.osl 1 (nx+22) 0 64 64,.osl 1 (nx+23) 0 6 hc0,.osl 4 u.2.1 0 u.1 u.2.2,.osl 3 (nx+16) 0 0 0,.osl 5 (nx+14) 0 0 0]]⟩∧(∃m,H1 u.2.1=some ⟨4,m,biG nx u.1⟩∧u.1≤u.2.2∧u.2.2≤m)∧(u.2.1=nx+15∨nx+25≤u.2.1∧u.2.1<n1)∧ ∀id,id<nx+25→id≠nx+15→id≠nx+20→H1 id=G id) (fun u=>3-u.1) (0,nx+15,0)
  ⟨noF,_,by repeat' (first| (with_reducible first|exact C1|refine C2 ?_ ?_|exact C3|refine C4 ?_ ?_|refine aUP ?_ ?_|refine bfY ?_ ?_ ?_|refine aUQ ?_|refine aUR ?_)| ((with_reducible refine C0 ?_);first|exact CB rfl|exact CC| (exact CQ (by omega) rfl rfl (by first|rfl| (simp;done)|omega| (dsimp only;omega)) rfl)|exact CE (by omega) rfl|exact CR (by omega) rfl|exact CF|exact CH (by first|rfl|assumption)| (exact CG (by first|rfl| (simp;done)| (congr 2;omega)| ((try dsimp only);exact dbT (by omega))| ((try dsimp only);exact dbF (by omega))| ((try dsimp only);exact(dbT (by omega)).symm)| ((try dsimp only);exact(dbF (by omega)).symm)| ((try dsimp only);exact dbE (by omega))| ((try dsimp only);exact diE (by omega))) rfl))| ((with_reducible refine D0 ?_);first|exact CA rfl|exact CI rfl (by simp) rfl rfl rfl|refine C9 ?_|refine CJ ?_)|exact C3|refine C4 ?_ ?_|fail),aK,by dsimp only;omega,d20,⟨0,(df (nx+15) (by omega)).trans cp,Nat.le_refl _,Nat.le_refl _⟩,.inl rfl,fun _ _ _ _=>rfl⟩ ?_
 rintro⟨k,b,cp0⟩ H1 nx1 hnx1 ⟨hk,e20,⟨m,eb,eb1,eb2⟩,hbr,hfr⟩ KL hKL
 dsimp only at hk e20 eb eb1 eb2 hbr
 have hA:bQ nx1 [nx+17,nx+20,b]:=AM.apart (by simp;omega) (by simp;omega)
 simp only[bQ,eZ] at hA
 have hPl:=bjW (nx:=nx) (k:=k)
 have hPt:List.take k (biG nx k)=biG nx k:=List.take_of_length_le (by omega)
 by_cases hlt:k<3
 ·repeat' (first| (with_reducible first| (refine hK _ _ _ ?_;clear hK K)| (refine hA ?_;clear hA hB A B)| (refine hB ?_;clear hA hB A B)|refine Z1 ?_|refine Z2 ?_|refine Z3 fun KB hKB=> ?_|refine Z4 (by omega) ?_|refine Z5 (by omega) ?_|refine Z6 (fun h=> ?_) fun h=> ?_|refine Z7 (fun h=> ?_) fun h=> ?_|refine fun(cap:Nat) (hcap:_≤cap)=> ?_|refine fun(hcp:_≤cap)=> ?_|refine fun(b:Bool)=> ?_|refine hKX _ _ _ ?_|refine hKY _ _ _ ?_|refine hKZ _ _ _ ?_)| (with_reducible first|refine Y1 fun K hK=> ?_|refine Y2 fun K hK=> ?_|refine Y3 fun A B hA hB=> ?_|refine Y4 (by omega) ?_|refine Y5 (by omega) ?_|refine Y6 (fun h=> ?_) fun h=> ?_| (refine Y7 (fun h=> ?_) (fun h=> ?_)<;>try subst h))<;>(simp only[go_sem,Nat.add_assoc,Nat.left_eq_add,Nat.add_eq_left,e20,eb,hPl,hPt,hA];try simp (disch:=omega) only[Iw])| ((with_reducible first|refine Y8 ?_|refine Y9 ?_);try simp only[AQ.then,AQ.blk,reduceIte,Nat.reduceEqDiff])| ((with_reducible refine Y0 ?_);simp only[AQ.then,AQ.blk])| ((with_reducible refine Z8 (fun h=> ?_) (fun h=> ?_))<;>try subst h)|refine⟨by omega,?_⟩| (refine⟨by(rw[List.length_take];omega),?_⟩)| (with_reducible first|refine hKB _ _ _ ?_| (clear hKB KB;refine hKB _ _ _ ?_)| (clear hKB KB;clear hKB KB;refine hKB _ _ _ ?_))|fail)
  refine af0 (K:=KL) fun W aYL=> ?_
  refine hKL _ _ _ (k+1,nx1+6,cap) noF _ (by omega) (by dsimp only;omega) (by repeat' (first| (with_reducible first|exact C1|refine C2 ?_ ?_|exact C3|refine C4 ?_ ?_|refine aUP ?_ ?_|refine bfY ?_ ?_ ?_|refine aUQ ?_|refine aUR ?_)| ((with_reducible refine C0 ?_);first|exact CB rfl|exact CC| (exact CQ (by omega) rfl rfl (by first|rfl| (simp;done)|omega| (dsimp only;omega)) rfl)|exact CE (by omega) rfl|exact CR (by omega) rfl|exact CF|exact CH (by first|rfl|assumption)| (exact CG (by first|rfl| (simp;done)| (congr 2;omega)| ((try dsimp only);exact dbT (by omega))| ((try dsimp only);exact dbF (by omega))| ((try dsimp only);exact(dbT (by omega)).symm)| ((try dsimp only);exact(dbF (by omega)).symm)| ((try dsimp only);exact dbE (by omega))| ((try dsimp only);exact diE (by omega))) rfl))| ((with_reducible refine D0 ?_);first|exact CA rfl|exact CI rfl (by simp) rfl rfl rfl|refine C9 ?_|refine CJ ?_)|exact C3|refine C4 ?_ ?_|fail)) (KO (i:=nx1+6) (o':=⟨4,cap,biG nx (k+1)⟩) (by rw[aYL,aA.aC (by omega)];exact aA.bH) (bjS bj5 rfl (hnP k) rfl (aH (bB rfl) (aH (.VS ..) (aH (.VS ..) (aH (bB rfl) eP)))))) ⟨by dsimp only;omega,?_,⟨cap,aA.bH,by dsimp only;omega,Nat.le_refl _⟩,by dsimp only;omega,fun id bfZ f1 f2=> ?_⟩
  ·dsimp only
   rw[aA.aC (by omega),aYL,aA.bH]
  ·rw[aA.aC (by omega),aYL,aA.aC f2,aA.aC (by omega),aA.aC (by omega),aA.jG (by omega)]
   exact hfr id bfZ f1 f2
 ·repeat' (first| (with_reducible first| (refine hK _ _ _ ?_;clear hK K)| (refine hA ?_;clear hA hB A B)| (refine hB ?_;clear hA hB A B)|refine Z1 ?_|refine Z2 ?_|refine Z3 fun KB hKB=> ?_|refine Z4 (by omega) ?_|refine Z5 (by omega) ?_|refine Z6 (fun h=> ?_) fun h=> ?_|refine Z7 (fun h=> ?_) fun h=> ?_|refine fun(cap:Nat) (hcap:_≤cap)=> ?_|refine fun(hcp:_≤cap)=> ?_|refine fun(b:Bool)=> ?_|refine hKX _ _ _ ?_|refine hKY _ _ _ ?_|refine hKZ _ _ _ ?_)| (with_reducible first|refine Y1 fun K hK=> ?_|refine Y2 fun K hK=> ?_|refine Y3 fun A B hA hB=> ?_|refine Y4 (by omega) ?_|refine Y5 (by omega) ?_|refine Y6 (fun h=> ?_) fun h=> ?_| (refine Y7 (fun h=> ?_) (fun h=> ?_)<;>try subst h))<;>(simp only[go_sem];try simp (disch:=omega) only[Iw])| ((with_reducible first|refine Y8 ?_|refine Y9 ?_);try simp only[AQ.then,AQ.blk,reduceIte,Nat.reduceEqDiff])| ((with_reducible refine Y0 ?_);simp only[AQ.then,AQ.blk])| ((with_reducible refine Z8 (fun h=> ?_) (fun h=> ?_))<;>try subst h)|refine⟨by omega,?_⟩| (refine⟨by(rw[List.length_take];omega),?_⟩)| (with_reducible first|refine hKB _ _ _ ?_| (clear hKB KB;refine hKB _ _ _ ?_)| (clear hKB KB;clear hKB KB;refine hKB _ _ _ ?_))|fail)
  have hk3:k=3:=by omega
  subst hk3
  have b16:H1 (nx+16)=some ⟨3,0,[]⟩:=(hfr (nx+16) (by omega) (by omega) (by omega)).trans ((df (nx+16) (by omega)).trans cv)
  clear hA hPl hPt
  (have hKY:=hKB;clear hKB)
  refine aM.gP (β:=Nat×Nat×Nat) (fun u=>en [(3,dI u.1),(1,.one (.c (.ptr 5 (nx+20) 0 0))),(0,.one (.c (.ptr 5 (nx+17) 0 0)))])
   (fun u H2 n2=>u.1≤4∧H2 (nx+20)=some ⟨5,1,[[.osl 1 (nx+22) 0 64 64,.osl 1 (nx+23) 0 6 hc0,.osl 4 b 0 3 cp0,.osl 3 u.2.1 0 u.1 u.2.2,.osl 5 (nx+14) 0 0 0]]⟩∧(∃m,H2 u.2.1=some ⟨3,m,bi8 nx u.1⟩∧u.1≤u.2.2∧u.2.2≤m)∧(u.2.1=nx+16∨nx+25≤u.2.1∧u.2.1<n2∧u.2.1≠b)∧H2 b=some ⟨4,m,biG nx 3⟩∧ ∀id,id<nx+25→id≠nx+15→id≠nx+16→id≠nx+20→H2 id=G id) (fun u=>4-u.1) (0,nx+16,0)
   ⟨noF,_,by repeat' (first| (with_reducible first|exact C1|refine C2 ?_ ?_|exact C3|refine C4 ?_ ?_|refine aUP ?_ ?_|refine bfY ?_ ?_ ?_|refine aUQ ?_|refine aUR ?_)| ((with_reducible refine C0 ?_);first|exact CB rfl|exact CC| (exact CQ (by omega) rfl rfl (by first|rfl| (simp;done)|omega| (dsimp only;omega)) rfl)|exact CE (by omega) rfl|exact CR (by omega) rfl|exact CF|exact CH (by first|rfl|assumption)| (exact CG (by first|rfl| (simp;done)| (congr 2;omega)| ((try dsimp only);exact dbT (by omega))| ((try dsimp only);exact dbF (by omega))| ((try dsimp only);exact(dbT (by omega)).symm)| ((try dsimp only);exact(dbF (by omega)).symm)| ((try dsimp only);exact dbE (by omega))| ((try dsimp only);exact diE (by omega))) rfl))| ((with_reducible refine D0 ?_);first|exact CA rfl|exact CI rfl (by simp) rfl rfl rfl|refine C9 ?_|refine CJ ?_)|exact C3|refine C4 ?_ ?_|fail),aK,by dsimp only;omega,e20,⟨0,b16,Nat.le_refl _,Nat.le_refl _⟩,.inl rfl,eb,fun id bfZ f1 _ f2=>hfr id bfZ f1 f2⟩ ?_
  rintro⟨k,iv,cw⟩ H2 nx2 hnx2 ⟨hk,b20,⟨mv,bp,bp1,bp2⟩,hvr,bb,hfr2⟩ KM hKM
  dsimp only at hk b20 bp bp1 bp2 hvr
  have hA2:bQ nx2 [nx+17,nx+20,b,iv]:=AM.apart (by simp;omega) (by simp;omega)
  simp only[bQ,eZ] at hA2
  have hVl:=bjX (nx:=nx) (k:=k)
  have hVt:List.take k (bi8 nx k)=bi8 nx k:=List.take_of_length_le (by omega)
  by_cases hlt:k<4
  ·repeat' (first| (with_reducible first| (refine hK _ _ _ ?_;clear hK K)| (refine hA ?_;clear hA hB A B)| (refine hB ?_;clear hA hB A B)|refine Z1 ?_|refine Z2 ?_|refine Z3 fun KB hKB=> ?_|refine Z4 (by omega) ?_|refine Z5 (by omega) ?_|refine Z6 (fun h=> ?_) fun h=> ?_|refine Z7 (fun h=> ?_) fun h=> ?_|refine fun(cap:Nat) (hcap:_≤cap)=> ?_|refine fun(hcp:_≤cap)=> ?_|refine fun(b:Bool)=> ?_|refine hKX _ _ _ ?_|refine hKY _ _ _ ?_|refine hKZ _ _ _ ?_)| (with_reducible first|refine Y1 fun K hK=> ?_|refine Y2 fun K hK=> ?_|refine Y3 fun A B hA hB=> ?_|refine Y4 (by omega) ?_|refine Y5 (by omega) ?_|refine Y6 (fun h=> ?_) fun h=> ?_| (refine Y7 (fun h=> ?_) (fun h=> ?_)<;>try subst h))<;>(simp only[go_sem,Nat.add_assoc,Nat.left_eq_add,Nat.add_eq_left,b20,bp,hVl,hVt,hA2];try simp (disch:=omega) only[Iw])| ((with_reducible first|refine Y8 ?_|refine Y9 ?_);try simp only[AQ.then,AQ.blk,reduceIte,Nat.reduceEqDiff])| ((with_reducible refine Y0 ?_);simp only[AQ.then,AQ.blk])| ((with_reducible refine Z8 (fun h=> ?_) (fun h=> ?_))<;>try subst h)|refine⟨by omega,?_⟩| (refine⟨by(rw[List.length_take];omega),?_⟩)| (with_reducible first|refine hKB _ _ _ ?_| (clear hKB KB;refine hKB _ _ _ ?_)| (clear hKB KB;clear hKB KB;refine hKB _ _ _ ?_))|fail)
   refine af0 (K:=KM) fun W aYL=> ?_
   refine hKM _ _ _ (k+1,nx2+6,cap) noF _ (by omega) (by dsimp only;omega) (by repeat' (first| (with_reducible first|exact C1|refine C2 ?_ ?_|exact C3|refine C4 ?_ ?_|refine aUP ?_ ?_|refine bfY ?_ ?_ ?_|refine aUQ ?_|refine aUR ?_)| ((with_reducible refine C0 ?_);first|exact CB rfl|exact CC| (exact CQ (by omega) rfl rfl (by first|rfl| (simp;done)|omega| (dsimp only;omega)) rfl)|exact CE (by omega) rfl|exact CR (by omega) rfl|exact CF|exact CH (by first|rfl|assumption)| (exact CG (by first|rfl| (simp;done)| (congr 2;omega)| ((try dsimp only);exact dbT (by omega))| ((try dsimp only);exact dbF (by omega))| ((try dsimp only);exact(dbT (by omega)).symm)| ((try dsimp only);exact(dbF (by omega)).symm)| ((try dsimp only);exact dbE (by omega))| ((try dsimp only);exact diE (by omega))) rfl))| ((with_reducible refine D0 ?_);first|exact CA rfl|exact CI rfl (by simp) rfl rfl rfl|refine C9 ?_|refine CJ ?_)|exact C3|refine C4 ?_ ?_|fail)) (KO (i:=nx2+6) (o':=⟨3,cap,bi8 nx (k+1)⟩) (by rw[aYL,aA.aC (by omega)];exact aA.bH) (bjS bj8 rfl (hnV k) rfl (aH (.VS ..) (aH (.VS ..) (aH (bB rfl) eP))))) ⟨by dsimp only;omega,?_,⟨cap,aA.bH,by dsimp only;omega,Nat.le_refl _⟩,by dsimp only;omega,?_,fun id bfZ f1 f3 f2=> ?_⟩
   ·dsimp only
    rw[aA.aC (by omega),aYL,aA.bH]
   ·rw[aA.aC (by omega),aYL,aA.aC (by omega),aA.aC (by omega),aA.aC (by omega),aA.jG (by omega)]
    exact bb
   ·rw[aA.aC (by omega),aYL,aA.aC f2,aA.aC (by omega),aA.aC (by omega),aA.jG (by omega)]
    exact hfr2 id bfZ f1 f3 f2
  ·repeat' (first| (with_reducible first| (refine hK _ _ _ ?_;clear hK K)| (refine hA ?_;clear hA hB A B)| (refine hB ?_;clear hA hB A B)|refine Z1 ?_|refine Z2 ?_|refine Z3 fun KB hKB=> ?_|refine Z4 (by omega) ?_|refine Z5 (by omega) ?_|refine Z6 (fun h=> ?_) fun h=> ?_|refine Z7 (fun h=> ?_) fun h=> ?_|refine fun(cap:Nat) (hcap:_≤cap)=> ?_|refine fun(hcp:_≤cap)=> ?_|refine fun(b:Bool)=> ?_|refine hKX _ _ _ ?_|refine hKY _ _ _ ?_|refine hKZ _ _ _ ?_)| (with_reducible first|refine Y1 fun K hK=> ?_|refine Y2 fun K hK=> ?_|refine Y3 fun A B hA hB=> ?_|refine Y4 (by omega) ?_|refine Y5 (by omega) ?_|refine Y6 (fun h=> ?_) fun h=> ?_| (refine Y7 (fun h=> ?_) (fun h=> ?_)<;>try subst h))<;>(simp only[go_sem];try simp (disch:=omega) only[Iw])| ((with_reducible first|refine Y8 ?_|refine Y9 ?_);try simp only[AQ.then,AQ.blk,reduceIte,Nat.reduceEqDiff])| ((with_reducible refine Y0 ?_);simp only[AQ.then,AQ.blk])| ((with_reducible refine Z8 (fun h=> ?_) (fun h=> ?_))<;>try subst h)|refine⟨by omega,?_⟩| (refine⟨by(rw[List.length_take];omega),?_⟩)| (with_reducible first|refine hKB _ _ _ ?_| (clear hKB KB;refine hKB _ _ _ ?_)| (clear hKB KB;clear hKB KB;refine hKB _ _ _ ?_))|fail)
   have hk4:k=4:=by omega
   subst hk4
   have g17:=(hfr2 (nx+17) (by omega) (by omega) (by omega) (by omega)).trans d17
   have g22:=(hfr2 (nx+22) (by omega) (by omega) (by omega) (by omega)).trans d22
   have g23:=(hfr2 (nx+23) (by omega) (by omega) (by omega) (by omega)).trans d23
   have gf: ∀id,id<nx+15→H2 id=G0 id:=fun id hid=>(hfr2 id (by omega) (by omega) (by omega) (by omega)).trans (df id (by omega))
   (try simp only[go_sem,Nat.add_assoc,Nat.left_eq_add,Nat.add_eq_left,b20,g17,hA2,Nat.add_assoc,Nat.left_eq_add,Nat.add_eq_left]);repeat' (first| (with_reducible first| (refine hK _ _ _ ?_;clear hK K)| (refine hA ?_;clear hA hB A B)| (refine hB ?_;clear hA hB A B)|refine Z1 ?_|refine Z2 ?_|refine Z3 fun KB hKB=> ?_|refine Z4 (by omega) ?_|refine Z5 (by omega) ?_|refine Z6 (fun h=> ?_) fun h=> ?_|refine Z7 (fun h=> ?_) fun h=> ?_|refine fun(cap:Nat) (hcap:_≤cap)=> ?_|refine fun(hcp:_≤cap)=> ?_|refine fun(b:Bool)=> ?_|refine hKX _ _ _ ?_|refine hKY _ _ _ ?_|refine hKZ _ _ _ ?_)| (with_reducible first|refine Y1 fun K hK=> ?_|refine Y2 fun K hK=> ?_|refine Y3 fun A B hA hB=> ?_|refine Y4 (by omega) ?_|refine Y5 (by omega) ?_|refine Y6 (fun h=> ?_) fun h=> ?_| (refine Y7 (fun h=> ?_) (fun h=> ?_)<;>try subst h))<;>(simp only[go_sem,Nat.add_assoc,Nat.left_eq_add,Nat.add_eq_left,b20,g17,hA2,Nat.add_assoc,Nat.left_eq_add,Nat.add_eq_left];try simp (disch:=omega) only[Iw])| ((with_reducible first|refine Y8 ?_|refine Y9 ?_);try simp only[AQ.then,AQ.blk,reduceIte,Nat.reduceEqDiff])| ((with_reducible refine Y0 ?_);simp only[AQ.then,AQ.blk])| ((with_reducible refine Z8 (fun h=> ?_) (fun h=> ?_))<;>try subst h)|refine⟨by omega,?_⟩| (refine⟨by(rw[List.length_take];omega),?_⟩)| (with_reducible first|refine hKB _ _ _ ?_| (clear hKB KB;refine hKB _ _ _ ?_)| (clear hKB KB;clear hKB KB;refine hKB _ _ _ ?_))|fail)
   refine hQ _ _ _ _ _ (.inr rfl) (LL rfl aA.bH rfl) ?_
   refine h _ _ (bhX nx b iv) _ (by omega) ⟨⟨⟨64,hc0,cp0,cw,0,rfl,⟨⟨64,_,by rw[aA.aC (by show nx+22≠nx+17;omega)];exact g22,rfl,by simp[HY],by simp[HY],by simp[HY],by omega⟩⟩,⟨⟨hc0,_,by rw[aA.aC (by show nx+23≠nx+17;omega)];exact g23,rfl,by simp[HY],by simp[HY],by simpa [HY] using hhc,by omega⟩⟩,bhO (by rw[aA.aC (by show nx+14≠nx+17;omega),gf _ (by show nx+14<nx+15;omega)];exact c5 14 (by omega) (by omega)),by omega,by omega⟩,⟨m,biG nx 3,by rw[aA.aC (by show b≠nx+17;omega)];exact bb,bjW,fun k hk=> ?_⟩,⟨mv,bi8 nx 4,by rw[aA.aC (by show iv≠nx+17;omega)];exact bp,bjX,fun k hk=> ?_⟩⟩,bjV hX (by omega) (by omega) (by omega),fun id hid=>by have:=hX id hid;omega⟩ fun id hid=> ?_
   ·rw[MX hk]
    obtain rfl|rfl|rfl:k=0∨k=1∨k=2:=by omega
    all_goals
     refine⟨_,rfl,⟨⟨0,0,0,rfl,bhO ?_,bhO ?_⟩⟩⟩
    ·rw[aA.aC (by show nx+0≠nx+17;omega),gf _ (by show nx+0<nx+15;omega)];exact c1 0 (by omega)
    ·rw[aA.aC (by show nx+3+0≠nx+17;omega),gf _ (by show nx+3+0<nx+15;omega)];exact c3 3 (by omega) (by omega)
    ·rw[aA.aC (by show nx+1≠nx+17;omega),gf _ (by show nx+1<nx+15;omega)];exact c1 1 (by omega)
    ·rw[aA.aC (by show nx+3+1≠nx+17;omega),gf _ (by show nx+3+1<nx+15;omega)];exact c3 4 (by omega) (by omega)
    ·rw[aA.aC (by show nx+2≠nx+17;omega),gf _ (by show nx+2<nx+15;omega)];exact c1 2 (by omega)
    ·rw[aA.aC (by show nx+3+2≠nx+17;omega),gf _ (by show nx+3+2<nx+15;omega)];exact c3 5 (by omega) (by omega)
   ·rw[K4 hk]
    obtain rfl|rfl|rfl|rfl:k=0∨k=1∨k=2∨k=3:=by omega
    all_goals
     refine⟨_,rfl,⟨⟨0,0,0,0,rfl,bhO ?_,bhO ?_⟩⟩⟩
    ·rw[aA.aC (by show nx+6+0≠nx+17;omega),gf _ (by show nx+6+0<nx+15;omega)];exact c3 6 (by omega) (by omega)
    ·rw[aA.aC (by show nx+10+0≠nx+17;omega),gf _ (by show nx+10+0<nx+15;omega)];exact c5 10 (by omega) (by omega)
    ·rw[aA.aC (by show nx+6+1≠nx+17;omega),gf _ (by show nx+6+1<nx+15;omega)];exact c3 7 (by omega) (by omega)
    ·rw[aA.aC (by show nx+10+1≠nx+17;omega),gf _ (by show nx+10+1<nx+15;omega)];exact c5 11 (by omega) (by omega)
    ·rw[aA.aC (by show nx+6+2≠nx+17;omega),gf _ (by show nx+6+2<nx+15;omega)];exact c3 8 (by omega) (by omega)
    ·rw[aA.aC (by show nx+10+2≠nx+17;omega),gf _ (by show nx+10+2<nx+15;omega)];exact c5 12 (by omega) (by omega)
    ·rw[aA.aC (by show nx+6+3≠nx+17;omega),gf _ (by show nx+6+3<nx+15;omega)];exact c3 9 (by omega) (by omega)
    ·rw[aA.aC (by show nx+10+3≠nx+17;omega),gf _ (by show nx+10+3<nx+15;omega)];exact c5 13 (by omega) (by omega)
   ·rw[aA.aC (by omega),gf id (by omega)];exact cf id hid
end
end Go.Proofs.Ytmccpdapaccnoaa
end
section
namespace Go.Proofs.Ytmccpdapaccnoaa
open Go Go.AM
set_option maxRecDepth 100000
set_option maxHeartbeats 8000000
section
variable {H : aA} {nx : Nat} {K : D → aA → Nat → Prop}
theorem biZ {n:Nat} {l:List Int} {p i:Nat} (hn:0<n∧n≤90) (hl:kZ l) (hp50:p+2000<2^50) (hi:i<nx) (ho:H i=some (rdO l p))
 (h: ∀H' nx' p' (xs:List CIn),nx≤nx'→p'≤p+1000→xs.length≤90→(∀x∈xs,vZ x)→H' i=some (rdO l p')→(∀id,id<nx→id≠i→H' id=H id)→K (dS (xs.map eIn)) H' nx'):aB Try.prog AE [bkP 2 i,dI n] H nx K:=by
 refine aB.tW ?_
 refine RX rfl fun Q hQ=> ?_
 unfold yD
 have hA:bQ nx [i]:=AM.apart (by simp) (by simp;omega)
 simp only[bQ,eZ] at hA
 repeat' (first| (with_reducible first| (refine hK _ _ _ ?_;clear hK K)| (refine hA ?_;clear hA hB A B)| (refine hB ?_;clear hA hB A B)|refine Z1 ?_|refine Z2 ?_|refine Z3 fun KB hKB=> ?_|refine Z4 (by omega) ?_|refine Z5 (by omega) ?_|refine Z6 (fun h=> ?_) fun h=> ?_|refine Z7 (fun h=> ?_) fun h=> ?_|refine fun(cap:Nat) (hcap:_≤cap)=> ?_|refine fun(hcp:_≤cap)=> ?_|refine fun(b:Bool)=> ?_|refine hKX _ _ _ ?_|refine hKY _ _ _ ?_|refine hKZ _ _ _ ?_)| (with_reducible first|refine Y1 fun K hK=> ?_|refine Y2 fun K hK=> ?_|refine Y3 fun A B hA hB=> ?_|refine Y4 (by omega) ?_|refine Y5 (by omega) ?_|refine Y6 (fun h=> ?_) fun h=> ?_| (refine Y7 (fun h=> ?_) (fun h=> ?_)<;>try subst h))<;>(simp only[go_sem,Nat.add_assoc,Nat.left_eq_add,Nat.add_eq_left,hA];try simp (disch:=omega) only[Iw])| ((with_reducible first|refine Y8 ?_|refine Y9 ?_);try simp only[AQ.then,AQ.blk,reduceIte,Nat.reduceEqDiff])| ((with_reducible refine Y0 ?_);simp only[AQ.then,AQ.blk])| ((with_reducible refine Z8 (fun h=> ?_) (fun h=> ?_))<;>try subst h)|refine⟨by omega,?_⟩| (refine⟨by(rw[List.length_take];omega),?_⟩)| (with_reducible first|refine hKB _ _ _ ?_| (clear hKB KB;refine hKB _ _ _ ?_)| (clear hKB KB;clear hKB KB;refine hKB _ _ _ ?_))|fail)
 refine aX (p:=p) hl (by omega) (by omega) (by omega) (by simp only[aA.set,hA,if_false];exact ho) fun x h1 h2=> ?_
 obtain⟨slow,hs1,hs2⟩: ∃slow:Int,[[D1.v (Value.int IntKind.i64 2)],[D1.v (Value.int IntKind.i64 3)],[D1.v (Value.int IntKind.i64 5)],[D1.v (Value.int IntKind.i64 20)]][x.toNat]?=some [cI slow]∧0<slow∧slow<1000:=by
  have:x=0∨x=1∨x=2∨x=3:=by omega
  rcases this with rfl|rfl|rfl|rfl
  ·exact⟨2,rfl,by omega⟩
  ·exact⟨3,rfl,by omega⟩
  ·exact⟨5,rfl,by omega⟩
  ·exact⟨20,rfl,by omega⟩
 have hx0:(0≤x)=True:=eq_true h1
 have hx4:(x<4)=True:=eq_true (by omega)
 simp only[go_sem,Nat.add_assoc,Nat.left_eq_add,Nat.add_eq_left,Nat.reduceAdd,hA,hs1,hx0,hx4]
 refine⟨by omega,?_⟩
 refine hK _ _ _ ?_
 clear hK K
 repeat' (first| (with_reducible first| (refine hK _ _ _ ?_;clear hK K)| (refine hA ?_;clear hA hB A B)| (refine hB ?_;clear hA hB A B)|refine Z1 ?_|refine Z2 ?_|refine Z3 fun KB hKB=> ?_|refine Z4 (by omega) ?_|refine Z5 (by omega) ?_|refine Z6 (fun h=> ?_) fun h=> ?_|refine Z7 (fun h=> ?_) fun h=> ?_|refine fun(cap:Nat) (hcap:_≤cap)=> ?_|refine fun(hcp:_≤cap)=> ?_|refine fun(b:Bool)=> ?_|refine hKX _ _ _ ?_|refine hKY _ _ _ ?_|refine hKZ _ _ _ ?_)| (with_reducible first|refine Y1 fun K hK=> ?_|refine Y2 fun K hK=> ?_|refine Y3 fun A B hA hB=> ?_|refine Y4 (by omega) ?_|refine Y5 (by omega) ?_|refine Y6 (fun h=> ?_) fun h=> ?_| (refine Y7 (fun h=> ?_) (fun h=> ?_)<;>try subst h))<;>(simp only[go_sem];try simp (disch:=omega) only[Iw])| ((with_reducible first|refine Y8 ?_|refine Y9 ?_);try simp only[AQ.then,AQ.blk,reduceIte,Nat.reduceEqDiff])| ((with_reducible refine Y0 ?_);simp only[AQ.then,AQ.blk])| ((with_reducible refine Z8 (fun h=> ?_) (fun h=> ?_))<;>try subst h)|refine⟨by omega,?_⟩| (refine⟨by(rw[List.length_take];omega),?_⟩)| (with_reducible first|refine hKB _ _ _ ?_| (clear hKB KB;refine hKB _ _ _ ?_)| (clear hKB KB;clear hKB KB;refine hKB _ _ _ ?_))|fail)
 refine aX (p:=p+1) hl (by omega) (by omega) (by omega) aA.bH fun y hy1 hy2=> ?_
 simp only[go_sem]
 repeat' (first| (with_reducible first| (refine hK _ _ _ ?_;clear hK K)| (refine hA ?_;clear hA hB A B)| (refine hB ?_;clear hA hB A B)|refine Z1 ?_|refine Z2 ?_|refine Z3 fun KB hKB=> ?_|refine Z4 (by omega) ?_|refine Z5 (by omega) ?_|refine Z6 (fun h=> ?_) fun h=> ?_|refine Z7 (fun h=> ?_) fun h=> ?_|refine fun(cap:Nat) (hcap:_≤cap)=> ?_|refine fun(hcp:_≤cap)=> ?_|refine fun(b:Bool)=> ?_|refine hKX _ _ _ ?_|refine hKY _ _ _ ?_|refine hKZ _ _ _ ?_)| (with_reducible first|refine Y1 fun K hK=> ?_|refine Y2 fun K hK=> ?_|refine Y3 fun A B hA hB=> ?_|refine Y4 (by omega) ?_|refine Y5 (by omega) ?_|refine Y6 (fun h=> ?_) fun h=> ?_| (refine Y7 (fun h=> ?_) (fun h=> ?_)<;>try subst h))<;>(simp only[go_sem];try simp (disch:=omega) only[Iw])| ((with_reducible first|refine Y8 ?_|refine Y9 ?_);try simp only[AQ.then,AQ.blk,reduceIte,Nat.reduceEqDiff])| ((with_reducible refine Y0 ?_);simp only[AQ.then,AQ.blk])| ((with_reducible refine Z8 (fun h=> ?_) (fun h=> ?_))<;>try subst h)|refine⟨by omega,?_⟩| (refine⟨by(rw[List.length_take];omega),?_⟩)| (with_reducible first|refine hKB _ _ _ ?_| (clear hKB KB;refine hKB _ _ _ ?_)| (clear hKB KB;clear hKB KB;refine hKB _ _ _ ?_))|fail)
 (have hKX:=hKB;clear hKB)
 refine aM.TF fun G0 hG0=> ?_
 have ci:G0 i=some (rdO l (p+1+1)):=by rw[hG0];exact aA.bH
 have c1:G0 (nx+1)=some ⟨3,0,[]⟩:=by rw[hG0];simp only[aA.set,show ¬nx+1=i by omega,Nat.add_left_cancel_iff,Nat.reduceEqDiff,if_false,if_true]
 have cfr: ∀id,id<nx→id≠i→G0 id=H id:=fun id d1 d2=>by rw[hG0];simp only[aA.set,d2,show ¬id=nx+1 by omega,show ¬id=nx+3 by omega,if_false]
 clear hG0
 refine aM.gP (β:=Nat×Nat×List CIn×Nat×Nat) (fun u=>en [(7,dI u.1),(6,dI slow),(5,.one (.c (.osl 3 u.2.2.2.1 0 u.2.2.1.length u.2.2.2.2))),(0,bkP 2 i)])
  (fun u H1 nx1=>u.1+u.2.2.1.length≤90∧u.2.1+10*u.1≤p+2+10*y.toNat∧(∀x∈u.2.2.1,vZ x)∧H1 i=some (rdO l u.2.1)∧(∃m,H1 u.2.2.2.1=some ⟨3,m,u.2.2.1.map eIn⟩∧u.2.2.1.length≤u.2.2.2.2∧u.2.2.2.2≤m)∧nx≤u.2.2.2.1∧u.2.2.2.1<nx1∧ ∀id,id<nx→id≠i→H1 id=H id)
  (fun u=>u.1) (y.toNat,p+1+1,[],nx+1,0) ⟨noF,_,by repeat' (first| (with_reducible first|exact C1|refine C2 ?_ ?_|exact C3|refine C4 ?_ ?_|refine aUP ?_ ?_|refine bfY ?_ ?_ ?_|refine aUQ ?_|refine aUR ?_)| ((with_reducible refine C0 ?_);first|exact CB rfl|exact CC| (exact CQ (by omega) rfl rfl (by first|rfl| (simp;done)|omega| (dsimp only;omega)) rfl)|exact CE (by omega) rfl|exact CR (by omega) rfl|exact CF|exact CH (by first|rfl|assumption)| (exact CG (by first|rfl| (simp;done)| (congr 2;omega)| ((try dsimp only);exact dbT (by omega))| ((try dsimp only);exact dbF (by omega))| ((try dsimp only);exact(dbT (by omega)).symm)| ((try dsimp only);exact(dbF (by omega)).symm)| ((try dsimp only);exact dbE (by omega))| ((try dsimp only);exact diE (by omega))) rfl))| ((with_reducible refine D0 ?_);first|exact CA rfl|exact CI rfl (by simp) rfl rfl rfl|refine C9 ?_|refine CJ ?_)|exact C3|refine C4 ?_ ?_|fail),aK,by dsimp only[List.length_nil];omega,by dsimp only;omega,fun x hx=>by simp at hx,ci,⟨0,c1,Nat.le_refl _,Nat.le_refl _⟩,by dsimp only;omega,by dsimp only;omega,cfr⟩ ?_
 rintro⟨j,q,xs,io,cap⟩ H1 nx1 hnx ⟨hj,hq,hxs,gi,⟨m,g1,g2,g3⟩,hio1,hio2,hfr⟩ KL hKL
 dsimp only at hj hq hxs gi g1 g2 g3 hio1 hio2
 have hA1:bQ nx1 [i,io]:=AM.apart (by simp;omega) (by simp;omega)
 simp only[bQ,eZ] at hA1
 by_cases hj0:0<j
 ·repeat' (first| (with_reducible first| (refine hK _ _ _ ?_;clear hK K)| (refine hA ?_;clear hA hB A B)| (refine hB ?_;clear hA hB A B)|refine Z1 ?_|refine Z2 ?_|refine Z3 fun KB hKB=> ?_|refine Z4 (by omega) ?_|refine Z5 (by omega) ?_|refine Z6 (fun h=> ?_) fun h=> ?_|refine Z7 (fun h=> ?_) fun h=> ?_|refine fun(cap:Nat) (hcap:_≤cap)=> ?_|refine fun(hcp:_≤cap)=> ?_|refine fun(b:Bool)=> ?_|refine hKX _ _ _ ?_|refine hKY _ _ _ ?_|refine hKZ _ _ _ ?_)| (with_reducible first|refine Y1 fun K hK=> ?_|refine Y2 fun K hK=> ?_|refine Y3 fun A B hA hB=> ?_|refine Y4 (by omega) ?_|refine Y5 (by omega) ?_|refine Y6 (fun h=> ?_) fun h=> ?_| (refine Y7 (fun h=> ?_) (fun h=> ?_)<;>try subst h))<;>(simp only[go_sem];try simp (disch:=omega) only[Iw])| ((with_reducible first|refine Y8 ?_|refine Y9 ?_);try simp only[AQ.then,AQ.blk,reduceIte,Nat.reduceEqDiff])| ((with_reducible refine Y0 ?_);simp only[AQ.then,AQ.blk])| ((with_reducible refine Z8 (fun h=> ?_) (fun h=> ?_))<;>try subst h)|refine⟨by omega,?_⟩| (refine⟨by(rw[List.length_take];omega),?_⟩)| (with_reducible first|refine hKB _ _ _ ?_| (clear hKB KB;refine hKB _ _ _ ?_)| (clear hKB KB;clear hKB KB;refine hKB _ _ _ ?_))|fail)
  refine YJ hl (by omega) hs2 (by omega) gi fun H2 nx2 q2 x hx2 hq2 hxo fi ffr=> ?_
  have f1:=(ffr io (by omega) (by omega)).trans g1
  have hA2:bQ nx2 [i,io]:=AM.apart (by simp;omega) (by simp;omega)
  simp only[bQ,eZ] at hA2
  simp only[go_sem,Nat.add_assoc,f1,hA1,hA2]
  refine⟨g3,by omega,fun cap1 hcap hcp=> ?_⟩
  refine hK _ _ _ ?_
  clear hK K
  repeat' (first| (with_reducible first| (refine hK _ _ _ ?_;clear hK K)| (refine hA ?_;clear hA hB A B)| (refine hB ?_;clear hA hB A B)|refine Z1 ?_|refine Z2 ?_|refine Z3 fun KB hKB=> ?_|refine Z4 (by omega) ?_|refine Z5 (by omega) ?_|refine Z6 (fun h=> ?_) fun h=> ?_|refine Z7 (fun h=> ?_) fun h=> ?_|refine fun(cap:Nat) (hcap:_≤cap)=> ?_|refine fun(hcp:_≤cap)=> ?_|refine fun(b:Bool)=> ?_|refine hKX _ _ _ ?_|refine hKY _ _ _ ?_|refine hKZ _ _ _ ?_)| (with_reducible first|refine Y1 fun K hK=> ?_|refine Y2 fun K hK=> ?_|refine Y3 fun A B hA hB=> ?_|refine Y4 (by omega) ?_|refine Y5 (by omega) ?_|refine Y6 (fun h=> ?_) fun h=> ?_| (refine Y7 (fun h=> ?_) (fun h=> ?_)<;>try subst h))<;>(simp only[go_sem];try simp (disch:=omega) only[Iw])| ((with_reducible first|refine Y8 ?_|refine Y9 ?_);try simp only[AQ.then,AQ.blk,reduceIte,Nat.reduceEqDiff])| ((with_reducible refine Y0 ?_);simp only[AQ.then,AQ.blk])| ((with_reducible refine Z8 (fun h=> ?_) (fun h=> ?_))<;>try subst h)|refine⟨by omega,?_⟩| (refine⟨by(rw[List.length_take];omega),?_⟩)| (with_reducible first|refine hKB _ _ _ ?_| (clear hKB KB;refine hKB _ _ _ ?_)| (clear hKB KB;clear hKB KB;refine hKB _ _ _ ?_))|fail)
  refine hKL _ _ _ (j-1,q2,xs++[x],nx1+7,cap1) noF _ (by omega) (by dsimp only;omega) (by dsimp only;rw[List.length_append,List.length_singleton];repeat' (first| (with_reducible first|exact C1|refine C2 ?_ ?_|exact C3|refine C4 ?_ ?_|refine aUP ?_ ?_|refine bfY ?_ ?_ ?_|refine aUQ ?_|refine aUR ?_)| ((with_reducible refine C0 ?_);first|exact CB rfl|exact CC| (exact CQ (by omega) rfl rfl (by first|rfl| (simp;done)|omega| (dsimp only;omega)) rfl)|exact CE (by omega) rfl|exact CR (by omega) rfl|exact CF|exact CH (by first|rfl|assumption)| (exact CG (by first|rfl| (simp;done)| (congr 2;omega)| ((try dsimp only);exact dbT (by omega))| ((try dsimp only);exact dbF (by omega))| ((try dsimp only);exact(dbT (by omega)).symm)| ((try dsimp only);exact(dbF (by omega)).symm)| ((try dsimp only);exact dbE (by omega))| ((try dsimp only);exact diE (by omega))) rfl))| ((with_reducible refine D0 ?_);first|exact CA rfl|exact CI rfl (by simp) rfl rfl rfl|refine C9 ?_|refine CJ ?_)|exact C3|refine C4 ?_ ?_|fail)) aK ⟨by simp;omega,by dsimp only;omega,fun z hz=> ?_,?_,⟨cap1,aA.bH,by simpa using hcap,Nat.le_refl _⟩,by dsimp only;omega,by dsimp only;omega,fun id d1 d2=> ?_⟩
  ·rcases List.mem_append.1 hz with hz|hz
   ·exact hxs z hz
   ·simp at hz;subst hz;exact hxo
  ·rw[aA.aC (by omega),aA.aC (by omega),aA.jG (by omega)];exact fi
  ·rw[aA.aC (by omega),aA.aC (by omega),aA.jG (by omega),ffr id (by omega) d2];exact hfr id d1 d2
 ·repeat' (first| (with_reducible first| (refine hK _ _ _ ?_;clear hK K)| (refine hA ?_;clear hA hB A B)| (refine hB ?_;clear hA hB A B)|refine Z1 ?_|refine Z2 ?_|refine Z3 fun KB hKB=> ?_|refine Z4 (by omega) ?_|refine Z5 (by omega) ?_|refine Z6 (fun h=> ?_) fun h=> ?_|refine Z7 (fun h=> ?_) fun h=> ?_|refine fun(cap:Nat) (hcap:_≤cap)=> ?_|refine fun(hcp:_≤cap)=> ?_|refine fun(b:Bool)=> ?_|refine hKX _ _ _ ?_|refine hKY _ _ _ ?_|refine hKZ _ _ _ ?_)| (with_reducible first|refine Y1 fun K hK=> ?_|refine Y2 fun K hK=> ?_|refine Y3 fun A B hA hB=> ?_|refine Y4 (by omega) ?_|refine Y5 (by omega) ?_|refine Y6 (fun h=> ?_) fun h=> ?_| (refine Y7 (fun h=> ?_) (fun h=> ?_)<;>try subst h))<;>(simp only[go_sem];try simp (disch:=omega) only[Iw])| ((with_reducible first|refine Y8 ?_|refine Y9 ?_);try simp only[AQ.then,AQ.blk,reduceIte,Nat.reduceEqDiff])| ((with_reducible refine Y0 ?_);simp only[AQ.then,AQ.blk])| ((with_reducible refine Z8 (fun h=> ?_) (fun h=> ?_))<;>try subst h)|refine⟨by omega,?_⟩| (refine⟨by(rw[List.length_take];omega),?_⟩)| (with_reducible first|refine hKB _ _ _ ?_| (clear hKB KB;refine hKB _ _ _ ?_)| (clear hKB KB;clear hKB KB;refine hKB _ _ _ ?_))|fail)
  refine hQ _ _ _ _ _ (.inr rfl) rfl ⟨dS (xs.map eIn),_,fun j=>j=io,yP QX g1 rfl g2 rfl,PU,h _ _ q xs (by omega) (by omega) (by omega) hxs ?_ fun id d1 d2=> ?_⟩
  ·rw[aA.jG (by omega)];exact gi
  ·rw[aA.jG (by omega)];exact hfr id d1 d2
end
end Go.Proofs.Ytmccpdapaccnoaa
end
