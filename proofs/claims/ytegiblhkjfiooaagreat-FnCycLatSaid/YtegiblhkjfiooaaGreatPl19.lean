/- Texts laid together by a program: rules, contracts and the walk that leads to the law. -/
import Derived.Test.YtegiblhkjfiooaaGreatPl8
import Derived.Test.YtegiblhkjfiooaaGreatPl18
import Derived.Test.YtegiblhkjfiooaaGreatPl3
set_option linter.unusedVariables false
set_option linter.unusedSimpArgs false
set_option linter.unusedSectionVars false
section
namespace Go.Proofs.YtegiblhkjfiooaaGreat
open Go Go.AM
set_option maxRecDepth 100000
set_option maxHeartbeats 8000000
theorem TZ:cJ Tryz.prog DB Tryz.f24 AV IY:=cJ.mk Tryz.func24 (by kernel_rfl) UH
theorem OX:cJ Tryz.prog xN Tryz.f16 u0 DP:=cJ.mk Tryz.func16 (by kernel_rfl) N3
section
variable {H : aA} {nx : Nat} {K : D → aA → Nat → Prop}
theorem GG:aB Tryz.prog eF [dW 1,dW 3] .nil 0 fun rr _ _=>rr.plain=true∧rr= .tup [.c (.v (.int .u64 0)),.c (.v (.int .u64 3))]:=by
 refine pB rfl fun Q hQ=> ?_
 unfold iN
 repeat' (first| (with_reducible first| (refine hK _ _ _ ?_;clear hK K)|refine Z1 ?_)| (with_reducible refine Y2 fun K hK=> ?_)<;>(simp only[go_sem])| ((with_reducible refine Y8 ?_);try simp only[AQ.then,AQ.blk,reduceIte,Nat.reduceEqDiff])|fail)
 exact aZ hQ (.tup [.c (.v (.int .u64 0)),.c (.v (.int .u64 3))]) (by rfl) rfl rfl
theorem FF (h:K (.tup [.c (.v (.int .u64 0)),.c (.v (.int .u64 3))]) H nx):aB Tryz.prog eF [dW 1,dW 3] H nx K:=
 (GG).pure rfl (aI ⟨aE rfl,aE rfl,trivial⟩) (fun r hr=>hr▸h)
theorem JT:aB Tryz.prog cE [dW 1,dW 3] .nil 0 fun rr _ _=>rr.plain=true∧rr= .tup [.c (.v (.int .u64 0)),.c (.v (.int .u64 3))]:=by
 refine tM rfl fun Q hQ=> ?_
 unfold kO
 repeat' (first| (with_reducible first| (refine hK _ _ _ ?_;clear hK K)| (refine hB ?_;clear hA hB A B)|refine Z1 ?_|refine Z2 ?_)| (first| (with_reducible first|refine Y2 fun K hK=> ?_|refine Y3 fun A B hA hB=> ?_)| (with_reducible refine FF ?_))<;>(simp only[go_sem])| ((with_reducible refine Y8 ?_);try simp only[AQ.then,AQ.blk,reduceIte,Nat.reduceEqDiff])|fail)
 all_goals first|with_reducible refine aZ hQ _ rfl rfl ?_|skip
 all_goals rfl
theorem JQ (h:K (.tup [.c (.v (.int .u64 0)),.c (.v (.int .u64 3))]) H nx):aB Tryz.prog cE [dW 1,dW 3] H nx K:=
 (JT).pure rfl (aI ⟨aE rfl,aE rfl,trivial⟩) (fun r hr=>hr▸h)
theorem FM:aB Tryz.prog eF [dW 1,dW 300] .nil 0 fun rr _ _=>rr.plain=true∧rr= .tup [.c (.v (.int .u64 0)),.c (.v (.int .u64 300))]:=by
 refine pB rfl fun Q hQ=> ?_
 unfold iN
 repeat' (first| (with_reducible first| (refine hK _ _ _ ?_;clear hK K)|refine Z1 ?_)| (with_reducible refine Y2 fun K hK=> ?_)<;>(simp only[go_sem])| ((with_reducible refine Y8 ?_);try simp only[AQ.then,AQ.blk,reduceIte,Nat.reduceEqDiff])|fail)
 exact aZ hQ (.tup [.c (.v (.int .u64 0)),.c (.v (.int .u64 300))]) (by rfl) rfl rfl
theorem E0 (h:K (.tup [.c (.v (.int .u64 0)),.c (.v (.int .u64 300))]) H nx):aB Tryz.prog eF [dW 1,dW 300] H nx K:=
 (FM).pure rfl (aI ⟨aE rfl,aE rfl,trivial⟩) (fun r hr=>hr▸h)
theorem JF:aB Tryz.prog cE [dW 1,dW 300] .nil 0 fun rr _ _=>rr.plain=true∧rr= .tup [.c (.v (.int .u64 0)),.c (.v (.int .u64 300))]:=by
 refine tM rfl fun Q hQ=> ?_
 unfold kO
 repeat' (first| (with_reducible first| (refine hK _ _ _ ?_;clear hK K)| (refine hB ?_;clear hA hB A B)|refine Z1 ?_|refine Z2 ?_)| (first| (with_reducible first|refine Y2 fun K hK=> ?_|refine Y3 fun A B hA hB=> ?_)| (with_reducible refine E0 ?_))<;>(simp only[go_sem])| ((with_reducible refine Y8 ?_);try simp only[AQ.then,AQ.blk,reduceIte,Nat.reduceEqDiff])|fail)
 all_goals first|with_reducible refine aZ hQ _ rfl rfl ?_|skip
 all_goals rfl
theorem JP (h:K (.tup [.c (.v (.int .u64 0)),.c (.v (.int .u64 300))]) H nx):aB Tryz.prog cE [dW 1,dW 300] H nx K:=
 (JF).pure rfl (aI ⟨aE rfl,aE rfl,trivial⟩) (fun r hr=>hr▸h)
theorem xE:aB Tryz.prog dN [dO 1 0 1 1,dI 3] (hp [(0,⟨1,1,[true].map eH⟩)]) 1
 fun r H' n'=>n'=2∧H'=hp [(1,⟨1,3,(List.replicate 3 true).map eH⟩)]∧r=dO 1 1 3 3:=by
 refine wL rfl fun Q hQ=> ?_
 unfold iE
 have w1:IntKind.u64.wrap 1=1:=by decide
 have w3:IntKind.u64.wrap 3=3:=by decide
 have m13:min 1 3=1:=rfl
 have h11:((1:Nat):Int)=1:=rfl
 generalize hl0:[true]=l0 at*
 have hlen:l0.length=1:=by subst hl0;rfl
 repeat' (first| (with_reducible first| (refine hK _ _ _ ?_;clear hK K)| (refine hB ?_;clear hA hB A B)|refine Z1 ?_|refine Z2 ?_|refine Z3 fun KB hKB=> ?_)| (first| (with_reducible first|refine Y2 fun K hK=> ?_|refine Y3 fun A B hA hB=> ?_)| (with_reducible refine JQ ?_))<;>(simp only[go_sem,hlen,w1,w3,h11,m13];try simp (disch:=omega) only[Iw])|refine⟨by omega,?_⟩|fail)
 (have hKX:=hKB;clear hKB)
 obtain⟨R,hR⟩: ∃R:Nat→List Bool,R=fun n=>List.replicate n true++List.replicate (3-n) false:=⟨_,rfl⟩
 refine aM.sG 1 (β:=Nat) (fun b n=>en [(8,dI n),(7,dO 1 b 3 3)]) (fun b n=>hp [(b,⟨1,3,(R n).map eH⟩)]) (fun n=>n=1∨n=2∨n=3) (fun n=>3-n) 1
  (by(refine cR [23] (by omega) (by repeat' (first| (with_reducible first|exact C1|refine C2 ?_ ?_)| ((with_reducible refine C0 ?_);exact CQ (by omega) rfl rfl (by rfl) rfl)| ((with_reducible refine D0 ?_);first|exact CA rfl|refine CJ ?_)|fail)) ⟨⟨by simp,by simp[sgL],_,rfl,bP (aG mK _) (by subst hR;subst hl0;rfl) rfl⟩,trivial⟩ (by simp[sgL]))) (.inl rfl) ?_
 intro n hn KL hKL
 have m12:min 1 2=1:=rfl
 have m21:min 2 1=1:=rfl
 have hRl: ∀n,n≤3→(R n).length=3:=fun n hn=>by subst hR;simp;omega
 have r1:=hRl 1 (by decide)
 have r2:=hRl 2 (by decide)
 rcases hn with rfl|rfl|rfl
 ·repeat' (first| (with_reducible first| (refine hK _ _ _ ?_;clear hK K)| (refine hA ?_;clear hA hB A B)|refine Z1 ?_|refine Z2 ?_|refine Z3 fun KB hKB=> ?_|refine Z4 (by omega) ?_)| (with_reducible first|refine Y2 fun K hK=> ?_|refine Y3 fun A B hA hB=> ?_)<;>(simp only[go_sem,r1,m12];try simp (disch:=omega) only[Iw])| ((with_reducible refine Y0 ?_);simp only[AQ.then,AQ.blk])|refine⟨by omega,?_⟩| (with_reducible refine hKB _ _ _ ?_)|fail)
  exact hKL _ _ _ 2 (by omega) (by(refine cR [29] (by omega) (by repeat' (first| (with_reducible first|exact C1|refine C2 ?_ ?_)| ((with_reducible refine C0 ?_);exact CQ (by omega) rfl rfl (by rfl) rfl)| ((with_reducible refine D0 ?_);first|exact CA rfl|refine CJ ?_)|fail)) ⟨⟨by simp,by simp[sgL],_,rfl,bP (aG mK _) (by subst hR;rfl) rfl⟩,trivial⟩ (by simp[sgL]))) (by omega) (by omega)
 ·repeat' (first| (with_reducible first| (refine hK _ _ _ ?_;clear hK K)| (refine hA ?_;clear hA hB A B)|refine Z1 ?_|refine Z2 ?_|refine Z3 fun KB hKB=> ?_|refine Z4 (by omega) ?_)| (with_reducible first|refine Y2 fun K hK=> ?_|refine Y3 fun A B hA hB=> ?_)<;>(simp only[go_sem,r2,m21];try simp (disch:=omega) only[Iw])| ((with_reducible refine Y0 ?_);simp only[AQ.then,AQ.blk])|refine⟨by omega,?_⟩| (with_reducible refine hKB _ _ _ ?_)|fail)
  exact hKL _ _ _ 3 (by omega) (by(refine cR [29] (by omega) (by repeat' (first| (with_reducible first|exact C1|refine C2 ?_ ?_)| ((with_reducible refine C0 ?_);exact CQ (by omega) rfl rfl (by rfl) rfl)| ((with_reducible refine D0 ?_);first|exact CA rfl|refine CJ ?_)|fail)) ⟨⟨by simp,by simp[sgL],_,rfl,bP (aG mK _) (by subst hR;rfl) rfl⟩,trivial⟩ (by simp[sgL]))) (by omega) (by omega)
 ·repeat' (first| (with_reducible first| (refine hK _ _ _ ?_;clear hK K)| (refine hB ?_;clear hA hB A B)|refine Z1 ?_|refine Z5 (by omega) ?_|refine hKX _ _ _ ?_)| (with_reducible first|refine Y2 fun K hK=> ?_|refine Y3 fun A B hA hB=> ?_)<;>(simp only[go_sem])| ((with_reducible first|refine Y8 ?_|refine Y9 ?_);try simp only[AQ.then,AQ.blk,reduceIte,Nat.reduceEqDiff])|fail)
  (refine hQ _ _ _ _ _ 2 (dO 1 1 3 3) (hp [(1,⟨1,3,(List.replicate 3 true).map eH⟩)]) _ _ (.inr rfl) rfl (fU [29] (by omega) (by repeat' (first| ((with_reducible refine C0 ?_);exact CQ (by omega) rfl rfl (by rfl) rfl)| ((with_reducible refine D0 ?_);refine CJ ?_)|fail)) ⟨⟨by simp,by simp[sgL],_,rfl,bP (aG mK _) (by subst hR;rfl) rfl⟩,trivial⟩ (by simp[sgL])) ?_)
  exact⟨rfl,rfl,rfl⟩
theorem aiQ {τ:Nat→Nat} {m:Nat} {l:List Bool}:bA.rn τ ⟨1,m,l.map eH⟩=⟨1,m,l.map eH⟩:=by
 refine rF fun r hr x hx=> ?_
 obtain⟨y,_,rfl⟩:=List.mem_map.1 hr
 simp only[eH,List.mem_singleton] at hx;subst hx;rfl
theorem xD {i0:Nat} (h0:i0<nx) (o0:H i0=some ⟨1,1,[[cB true]]⟩) (h:K (dO 1 nx 3 3) ((H.del i0).set nx ⟨1,3,(List.replicate 3 true).map eH⟩) (nx+1)):aB Tryz.prog dN [dO 1 i0 1 1,dI 3] H nx K:=by
 refine xE.AF [i0] rfl ⟨qS (by simp) rfl rfl rfl rfl,aE rfl,trivial⟩ ⟨⟨by simp,id,_,o0,bP (aG mK _) rfl rfl⟩,trivial⟩ (by simp) (by simp;omega) (by simp) fun r H' n' _ ⟨q1,q2,q3⟩=> ?_
 subst q1;subst q2;subst q3
 generalize List.replicate 3 true=w0 at*
 have e1:back (tau 1 nx (nth [i0])) (hp [(1,⟨1,3,w0.map eH⟩)]) 2 H=(H.del i0).set nx ⟨1,3,w0.map eH⟩:=by
  simp[back,hp,aA.set,aA.nil,tau,nth,aiQ,aA.eL,aA.yI]
 rw[←e1] at h
 exact h
theorem XE (h: ∀H' nx',nx≤nx'→(∀id,id<nx→H' id=H id)→K (dA (eIn pU)) H' nx'):aB Tryz.prog DB [] H nx K:=by
 refine aB.tW ?_
 refine TZ rfl fun Q hQ=> ?_
 unfold AV
 repeat' (first| (with_reducible first| (refine hK _ _ _ ?_;clear hK K)|refine Z1 ?_)| (first| (with_reducible refine Y2 fun K hK=> ?_)| (refine xD (by omega) (by simp only[aA.set,aA.del,msk,dT];simp;try rfl) ?_))<;>(simp only[go_sem,Nat.add_assoc,Nat.left_eq_add,Nat.add_eq_left])| ((with_reducible refine Y8 ?_);try simp only[AQ.then,AQ.blk,reduceIte,Nat.reduceEqDiff])|fail)
 refine(fun(h: ∀G,G=_→Q _ _ G _)=>h _ rfl) fun G hG=> ?_
 have f0:G nx=some ⟨3,1,[[.osl 1 (nx+8) 0 3 3,.osl 1 (nx+3) 0 4 4,.osl 1 (nx+9) 0 3 3]]⟩:=by rw[hG];simp[aA.set]
 have f8:G (nx+8)=some ⟨1,3,[true,true,true].map eH⟩:=by rw[hG];simp[aA.set]
 have f9:G (nx+9)=some ⟨1,3,[true,true,true].map eH⟩:=by rw[hG];simp[aA.set]
 have f3:G (nx+3)=some ⟨1,4,[false,false,false,false].map eH⟩:=by rw[hG];simp[aA.set,aA.del,msk,dT];rfl
 have ff: ∀id,id<nx→G id=H id:=fun id hid=>by
  rw[hG]
  simp[aA.set,aA.del,msk,dT,show ¬id=nx by omega,show ¬id=nx+1 by omega,show ¬id=nx+3 by omega,show ¬id=nx+4 by omega,show ¬id=nx+8 by omega,show ¬id=nx+9 by omega]
 clear hG
 refine hQ _ _ _ _ _ (.inr rfl) (fZ (m:=1) rfl f0 rfl) ⟨dA (eIn pU),without (fun j=>j=nx+3∨j=nx+8∨j=nx+9) G,fun j=>j=nx+3∨j=nx+8∨j=nx+9,?_,kS,h _ _ (by omega) fun id hid=> ?_⟩
 ·exact lY (aH (bW mK f8 rfl (by decide) (.inr (.inl rfl))) (aH (bW mK f3 rfl (by decide) (.inl rfl)) (aH (bW mK f9 rfl (by decide) (.inr (.inr rfl))) eP)))
 ·rw[iI (by omega)];exact ff id hid
theorem ap8 {F:Nat→Prop} {σ:Nat→Nat} {nh n m m':Nat} {rows rows':List (List D1)} (hi: ∀r∈rows',∀y∈r,y.dQ=true∨y= .osl 0 0 0 0 0) (h:rows'=rows) (hm:m'=m):CvO H F σ nh ⟨n,m',rows'⟩ ⟨n,m,rows⟩:=by
 subst h;subst hm
 refine⟨rfl,rfl,Nat.le_refl _,fun _ h=>h,fun i r hr=>⟨r,hr,rfl,fun j a b ha hb=> ?_⟩⟩
 rw[ha] at hb;cases hb
 rcases hi r (List.mem_of_getElem? hr) a (List.mem_of_getElem? ha) with h|h
 ·exact bB h
 ·subst h;exact afQ
theorem u1 (x:CIn) (N:Nat) (h1:1≤N) (h300:N≤300) (hmul: ∀{H:aA} {nx:Nat} {K:D→aA→Nat→Prop},K (.tup [.c (.v (.int .u64 0)),.c (.v (.int .u64 N))]) H nx→aB Tryz.prog cE [dW 1,dW N] H nx K):aB Tryz.prog eT [dO 3 0 1 1,dI N] (hp [(0,⟨3,1,[x].map eIn⟩)]) 1
 fun r H' n'=>n'=2∧H'=hp [(1,⟨3,N,(List.replicate N x).map eIn⟩)]∧r=dO 3 1 N N:=by
 refine uM rfl fun Q hQ=> ?_
 unfold gJ
 have w1:IntKind.u64.wrap 1=1:=by decide
 have w3:IntKind.u64.wrap N=N:=by rw[IntKind.wrap_u64];omega
 have m13:min 1 N=1:=by omega
 have h11:((1:Nat):Int)=1:=rfl
 generalize hl0:[x]=l0 at*
 have hlen:l0.length=1:=by subst hl0;rfl
 repeat' (first| (with_reducible first| (refine hK _ _ _ ?_;clear hK K)| (refine hB ?_;clear hA hB A B)|refine Z1 ?_|refine Z2 ?_|refine Z3 fun KB hKB=> ?_|refine Z5 (by omega) ?_)| (first| (with_reducible first|refine Y2 fun K hK=> ?_|refine Y3 fun A B hA hB=> ?_)| (refine hmul ?_))<;>(simp only[go_sem,hlen,w1,w3,h11,m13];try simp (disch:=omega) only[Iw])|refine⟨by omega,?_⟩|fail)
 (have hKX:=hKB;clear hKB)
 obtain⟨Z,aAQ⟩: ∃Z:List D1,Z=[.osl 0 0 0 0 0,.osl 0 0 0 0 0,.osl 0 0 0 0 0]:=⟨_,rfl⟩
 obtain⟨R,hR⟩: ∃R:Nat→List (List D1),R=fun n=>List.replicate n (eIn x)++List.replicate (N-n) Z:=⟨_,rfl⟩
 have hRi: ∀n,∀r∈R n,∀y∈r,y.dQ=true∨y= .osl 0 0 0 0 0:=fun n r hr y hy=>by
  rw[hR] at hr
  rcases List.mem_append.1 hr with hr|hr
  ·rw[(List.mem_replicate.1 hr).2] at hy;exact .inl (List.all_eq_true.1 (QX x).2 y hy)
  ·rw[(List.mem_replicate.1 hr).2,aAQ] at hy;simp at hy;exact .inr hy
 have hRl: ∀n,n≤N→(R n).length=N:=fun n hn=>by rw[hR];simp;omega
 refine aM.sG 1 (β:=Nat) (fun b n=>en [(8,dI n),(7,dO 3 b N N)]) (fun b n=>hp [(b,⟨3,N,R n⟩)]) (fun n=>1≤n∧n≤N) (fun n=>N-n) 1
  (by(refine cR [23] (by omega) (by repeat' (first| (with_reducible first|exact C1|refine C2 ?_ ?_)| ((with_reducible refine C0 ?_);exact CQ (by omega) rfl rfl (by rfl) rfl)| ((with_reducible refine D0 ?_);first|exact CA rfl|refine CJ ?_)|fail)) ⟨⟨by simp,by simp[sgL],_,rfl,ap8 (hRi 1) (by rw[hR,←aAQ];subst hl0;unfold wr;simp) rfl⟩,trivial⟩ (by simp[sgL]))) ⟨by omega,by omega⟩ ?_
 rintro n ⟨hn1,hn2⟩ KL hKL
 have r1:=hRl n hn2
 by_cases hlt:n<N
 ·have k1:(min n (N-n)≤N)=True:=eq_true (by omega)
  have k2:(0<N-n∧0<N∧n≤N∧n+min n (N-n)≤N)=True:=eq_true ⟨by omega,by omega,by omega,by omega⟩
  have hW:R (n+min n (N-n))=wr (R n) n (List.take (min n (N-n)) (R n)):=by
   obtain⟨k,hk⟩: ∃k,k=min n (N-n):=⟨_,rfl⟩
   rw[←hk]
   have e1:List.take k (R n)=List.replicate k (eIn x):=by rw[hR,List.take_append_of_le_length (by simp;omega),List.take_replicate,Nat.min_eq_left (by omega)]
   have e2:List.take n (R n)=List.replicate n (eIn x):=by rw[hR];simp
   have e3:List.drop (n+k) (R n)=List.replicate (N-(n+k)) Z:=by rw[hR];simp only[List.drop_append,List.length_replicate,List.drop_replicate];rw[show n-(n+k)=0 by omega,List.replicate_zero,List.nil_append];congr 1;omega
   unfold wr
   rw[e1,e2,List.length_replicate,e3,hR]
   dsimp only
   rw[←List.replicate_append_replicate]
  repeat' (first| (with_reducible first| (refine hK _ _ _ ?_;clear hK K)| (refine hA ?_;clear hA hB A B)|refine Z1 ?_|refine Z2 ?_|refine Z3 fun KB hKB=> ?_|refine Z4 (by omega) ?_)| (with_reducible first|refine Y2 fun K hK=> ?_|refine Y3 fun A B hA hB=> ?_)<;>(simp only[go_sem,r1,k1,k2];try simp (disch:=omega) only[Iw])| ((with_reducible refine Y0 ?_);simp only[AQ.then,AQ.blk])|refine⟨by omega,?_⟩| (with_reducible refine hKB _ _ _ ?_)|fail)
  exact hKL _ _ _ (n+min n (N-n)) (by omega) (by(refine cR [29] (by omega) (by repeat' (first| (with_reducible first|exact C1|refine C2 ?_ ?_)| ((with_reducible refine C0 ?_);exact CQ (by omega) rfl rfl (by rfl) rfl)| ((with_reducible refine D0 ?_);first|exact CA rfl|refine CJ ?_)|fail)) ⟨⟨by simp,by simp[sgL],_,rfl,ap8 (hRi _) hW rfl⟩,trivial⟩ (by simp[sgL]))) ⟨by omega,by omega⟩ (by omega)
 ·repeat' (first| (with_reducible first| (refine hK _ _ _ ?_;clear hK K)| (refine hB ?_;clear hA hB A B)|refine Z1 ?_|refine Z5 (by omega) ?_|refine hKX _ _ _ ?_)| (with_reducible first|refine Y2 fun K hK=> ?_|refine Y3 fun A B hA hB=> ?_)<;>(simp only[go_sem])| ((with_reducible first|refine Y8 ?_|refine Y9 ?_);try simp only[AQ.then,AQ.blk,reduceIte,Nat.reduceEqDiff])|fail)
  have hnN:n=N:=by omega
  (refine hQ _ _ _ _ _ 2 (dO 3 1 N N) (hp [(1,⟨3,N,(List.replicate N x).map eIn⟩)]) _ _ (.inr rfl) rfl (fU [29] (by omega) (by repeat' (first| ((with_reducible refine C0 ?_);exact CQ (by omega) rfl rfl (by rfl) rfl)| ((with_reducible refine D0 ?_);refine CJ ?_)|fail)) ⟨⟨by simp,by simp[sgL],_,rfl,bP (aG QX _) (by rw[hR,hnN];simp) rfl⟩,trivial⟩ (by simp[sgL])) ?_)
  exact⟨rfl,rfl,rfl⟩
theorem anN {τ:Nat→Nat} {m:Nat} {l:List CIn}:bA.rn τ ⟨3,m,l.map eIn⟩=⟨3,m,l.map eIn⟩:=by
 refine rF fun r hr x hx=> ?_
 obtain⟨y,_,rfl⟩:=List.mem_map.1 hr
 simp only[eIn,List.mem_cons,List.not_mem_nil,or_false] at hx
 rcases hx with rfl|rfl|rfl<;>rfl
theorem u2 {x:CIn} {N:Nat} (h1:1≤N) (h300:N≤300) (hmul: ∀{H:aA} {nx:Nat} {K:D→aA→Nat→Prop},K (.tup [.c (.v (.int .u64 0)),.c (.v (.int .u64 N))]) H nx→aB Tryz.prog cE [dW 1,dW N] H nx K)
 {i0:Nat} (h0:i0<nx) (o0:H i0=some ⟨3,1,[eIn x]⟩) (h:K (dO 3 nx N N) ((H.del i0).set nx ⟨3,N,(List.replicate N x).map eIn⟩) (nx+1)):aB Tryz.prog eT [dO 3 i0 1 1,dI N] H nx K:=by
 refine(u1 x N h1 h300 hmul).AF [i0] rfl ⟨qS (by simp) rfl rfl rfl rfl,aE rfl,trivial⟩ ⟨⟨by simp,id,_,o0,bP (aG QX _) rfl rfl⟩,trivial⟩ (by simp) (by simp;omega) (by simp) fun r H' n' _ ⟨q1,q2,q3⟩=> ?_
 subst q1;subst q2;subst q3
 generalize List.replicate N x=w0 at*
 have e1:back (tau 1 nx (nth [i0])) (hp [(1,⟨3,N,w0.map eIn⟩)]) 2 H=(H.del i0).set nx ⟨3,N,w0.map eIn⟩:=by
  simp[back,hp,aA.set,aA.nil,tau,nth,anN,aA.eL,aA.yI]
 rw[←e1] at h
 exact h
theorem O5 {c:Cfg} {s:CSt} {N:Nat} (h1:1≤N) (h300:N≤300) (hmul: ∀{H:aA} {nx:Nat} {K:D→aA→Nat→Prop},K (.tup [.c (.v (.int .u64 0)),.c (.v (.int .u64 N))]) H nx→aB Tryz.prog cE [dW 1,dW N] H nx K)
 (hb:aQ c) (hcf:jO c) (hs:COk c s)
 (h: ∀H' nx',nx≤nx'→(∀id,id<nx→H' id=H id)→K (dA (eI (sQ c s (List.replicate N pU)))) H' nx'):aB Tryz.prog xN [dA (cU c),dA (eI s),dI N] H nx K:=by
 refine aB.tW ?_
 refine OX rfl fun Q hQ=> ?_
 unfold u0
 have hN0:(0<(N:Int))=True:=eq_true (by omega)
 repeat' (first| (with_reducible first| (refine hK _ _ _ ?_;clear hK K)| (refine hB ?_;clear hA hB A B)|refine Z1 ?_|refine Z2 ?_|refine Z5 (by omega) ?_)| (first| (with_reducible first|refine Y2 fun K hK=> ?_|refine Y3 fun A B hA hB=> ?_)| (refine XE (fun H1 nx1 hx1 ffr1=> ?_)))<;>(simp only[go_sem,Nat.add_assoc,Nat.left_eq_add,Nat.add_eq_left,hN0])|fail)
 have e0:H1 nx=some ⟨3,1,[cU c]⟩:=by rw[ffr1 _ (by omega)];simp[aA.set,msk]
 have e1:H1 (nx+1)=some ⟨5,1,[eI s]⟩:=by rw[ffr1 _ (by omega)];simp[aA.set,msk]
 have e2:H1 (nx+2)=some ⟨5,1,[[.osl 0 0 0 0 0,.osl 0 0 0 0 0,.osl 0 0 0 0 0,.osl 0 0 0 0 0,.osl 0 0 0 0 0]]⟩:=by rw[ffr1 _ (by omega)];simp[aA.set,msk]
 have ef: ∀id,id<nx→H1 id=H id:=fun id hid=>by
  rw[ffr1 _ (by omega)];simp[aA.set,msk,show ¬id=nx by omega,show ¬id=nx+1 by omega,show ¬id=nx+2 by omega]
 have m0: ∀G:aA,msk (nx+5) [3] G nx=G nx:=fun G=>by unfold msk;rw[if_neg (by simp;omega)]
 have m1: ∀G:aA,msk (nx+5) [3] G (nx+1)=G (nx+1):=fun G=>by unfold msk;rw[if_neg (by simp)]
 refine⟨⟨fun _=>by rw[m1,e1];rfl,fun _=>by rw[m0,e0];rfl⟩,?_⟩
 refine u2 (i0:=nx+8) h1 h300 hmul (by omega) aA.bH ?_
 obtain⟨l,hl⟩: ∃l,l=List.replicate N pU:=⟨_,rfl⟩
 have hll:l.length=N:=by rw[hl];simp
 have hlo: ∀i∈l,vZ i:=fun i hi=>by rw[hl] at hi;rw[(List.mem_replicate.1 hi).2];exact⟨rfl,rfl,rfl⟩
 rw[←hl] at h ⊢
 clear hl ffr1
 refine(fun(h: ∀G,G=_→DQ _ _ _ _ _ _ _ _ _ _ _ _ G _)=>h _ rfl) fun G hG=> ?_
 have g0:G nx=some ⟨3,1,[cU c]⟩:=by rw[hG,aA.aC (by omega),aA.jG (by omega),aA.aC (by omega)];exact e0
 have g1:G (nx+1)=some ⟨5,1,[eI s]⟩:=by rw[hG,aA.aC (by omega),aA.jG (by omega),aA.aC (by omega)];exact e1
 have g2:G (nx+2)=some ⟨5,1,[[.osl 0 0 0 0 0,.osl 0 0 0 0 0,.osl 0 0 0 0 0,.osl 0 0 0 0 0,.osl 0 0 0 0 0]]⟩:=by rw[hG,aA.aC (by omega),aA.jG (by omega),aA.aC (by omega)];exact e2
 have gf: ∀id,id<nx→G id=H id:=fun id hid=>by rw[hG,aA.aC (by omega),aA.jG (by omega),aA.aC (by omega)];exact ef id hid
 have gl:G nx1=some ⟨3,N,l.map eIn⟩:=by rw[hG];exact aA.bH
 clear hG e0 e1 e2 ef
 simp only[go_sem]
 refine⟨⟨fun _=>by rw[m1,g1];rfl,fun _=>by rw[m0,g0];rfl⟩,?_⟩
 refine aB.ao4 (args':=[dA (cU c),dA (eI s),dS (l.map eIn)]) (without (fun j=>j=nx1) G) (fun j=>j=nx1) rfl (fun i d0 d h1 h2=> ?_) kS ?_
 ·match i with
  |0=>
   simp only[List.getElem?_cons_zero,Option.some.injEq] at h1 h2
   subst h1;subst h2
   exact aE rfl
  |1=>
   simp only[List.getElem?_cons_succ,List.getElem?_cons_zero,Option.some.injEq] at h1 h2
   subst h1;subst h2
   exact aE rfl
  |2=>
   simp only[List.getElem?_cons_succ,List.getElem?_cons_zero,Option.some.injEq] at h1 h2
   subst h1;subst h2
   exact yP QX gl (by omega) (by omega) rfl
  |i+3=>simp at h1
 refine IA hb hcf hs (by omega) hlo fun H2 nx2 hx2 ffr2=> ?_
 have f2:=(ffr2 (nx+2) (by omega)).trans ((iI (by omega)).trans g2)
 simp only[go_sem,f2]
 refine hK _ _ _ ?_
 clear hK K
 repeat' (first| ((with_reducible refine Y8 ?_);try simp only[AQ.then,AQ.blk,reduceIte,Nat.reduceEqDiff])|fail)
 refine hQ _ _ _ _ _ (.inr rfl) (fZ rfl aA.bH rfl) ⟨dA (eI (sQ c s l)),_,noF,aE rfl,aK,h _ _ (by omega) fun id hid=> ?_⟩
 rw[aA.aC (by omega),ffr2 _ (by omega),iI (by omega)];exact gf id hid
theorem afT {c:Cfg} {s:CSt} (hb:aQ c) (hcf:jO c) (hs:COk c s)
 (h: ∀H' nx',nx≤nx'→(∀id,id<nx→H' id=H id)→K (dA (eI (sQ c s (List.replicate 300 pU)))) H' nx'):aB Tryz.prog xN [dA (cU c),dA (eI s),dI 300] H nx K:=
 O5 (N:=300) (by omega) (by omega) (fun h=>JP h) hb hcf hs h
end
end Go.Proofs.YtegiblhkjfiooaaGreat
end
section
namespace Go.Proofs.YtegiblhkjfiooaaGreat
open Go Go.AM
theorem asX {c:Cfg} {s:CSt} (h:COk c s):(s.told.length:Int)=jS (GA c) 3↔Fin c s:=by
 have hst:=h.st
 have hcnt:=hst.count
 have hA:=fun k (hk:k<3)=>R6 (s:=s) (k:=k) (by have:=h.pl;omega)
 have hN:=fun k (hk:k<3)=>(h.port k hk).next
 have n0:=hN 0 (by omega)
 have n1:=hN 1 (by omega)
 have n2:=hN 2 (by omega)
 rw[hA 0 (by omega),hA 1 (by omega),hA 2 (by omega)] at hcnt
 have ht:(cX s).told=s.told:=rfl
 rw[ht] at hcnt
 have hs:jS (GA c) 3=((c.cP.getD 0 default).length:Int)+(c.cP.getD 1 default).length+(c.cP.getD 2 default).length:=by
  simp only[jS,GA];omega
 rw[hs]
 constructor
 ·intro he
  have hw:qU s=[]:=by
   have e1:(cX s).wait.length=(qU s).length:=(fH _).length_eq
   exact List.eq_nil_of_length_eq_zero (by omega)
  have hd:uQ s=[]:=by
   have e1:(cX s).done.length=(uQ s).length:=(fH _).length_eq
   exact List.eq_nil_of_length_eq_zero (by omega)
  have hq: ∀k,k<3→(aF s k).queue=[]:=fun k hk=>List.eq_nil_iff_forall_not_mem.2 fun m hm=>by
   have:(⟨k,m,oW⟩:Job)∈qU s:=wU.2 (.inl ⟨k,by have:=h.pl;omega,m,hm,rfl⟩)
   rw[hw] at this;cases this
  have hp: ∀k,k<4→(aL s k).pipe=[]:=fun k hk=>List.eq_nil_iff_forall_not_mem.2 fun x hx=>by
   have:(⟨x.who,x.n,oW⟩:Job)∈qU s:=wU.2 (.inr ⟨k,by have:=h.sl;omega,x,hx,rfl⟩)
   rw[hw] at this;cases this
  have hdn: ∀k,k<4→(aL s k).done=[]:=fun k hk=>List.eq_nil_iff_forall_not_mem.2 fun x hx=>by
   have:x∈uQ s:=BU.2 ⟨k,by have:=h.sl;omega,hx⟩
   rw[hd] at this;cases this
  have hc:=h.count
  have hh: ∀k,k<4→hU s k=0:=fun k hk=>by unfold hU;rw[hp k hk,hdn k hk];rfl
  rw[hh 0 (by omega),hh 1 (by omega),hh 2 (by omega),hh 3 (by omega)] at hc
  intro k hk
  have:k=0∨k=1∨k=2:=by omega
  rcases this with rfl|rfl|rfl
  ·exact⟨by omega,hq _ hk,List.eq_nil_of_length_eq_zero (by omega)⟩
  ·exact⟨by omega,hq _ hk,List.eq_nil_of_length_eq_zero (by omega)⟩
  ·exact⟨by omega,hq _ hk,List.eq_nil_of_length_eq_zero (by omega)⟩
 ·intro hf
  obtain⟨h1,h2⟩:=afO h hf
  rw[h1,h2] at hcnt
  have f0:=(hf 0 (by omega)).1
  have f1:=(hf 1 (by omega)).1
  have f2:=(hf 2 (by omega)).1
  simp only[List.length_nil] at hcnt
  omega
end Go.Proofs.YtegiblhkjfiooaaGreat
end
section
namespace Go.Proofs.YtegiblhkjfiooaaGreat
open Go Go.AM
set_option maxRecDepth 100000
def aFY:AC:=
 (.seq (.region [rq 0 2 (.box true (.tm 0)),
 rq 1 4 (.alloc [OZ,OZ,OZ])] 2 [1,2,4])
 (.seq (.seq (.region [rq 0 7 (.load 3 true (.tm 2)),
 rq 1 8 (.call wF [(.tm 7)]),
 rq 2 9 (.un .not (.tm 8)),
 RM 3 10 9,
 GQ 4 11 (.move (.tm 1)) 10 false,
 GQ 5 12 (.call jA [(.tm 11)]) 10 false,
 GQ 6 13 (.un .not (.tm 12)) 10 false,
 rq 7 14 (.pick (.tm 10) (.kv (.bool true)) (.tm 13))] 8 [1,2,4,14])
 (.cond (.tm 14)
 (.seq (.region [rq 0 15 (.build [OZ,OZ,OZ] []),
 rn 1 (.store 3 true (.tm 4) (.tm 15))] 2 [4])
 .ret)
 .skip))
 (.seq (.region [rq 0 16 (.load 3 true (.tm 2)),
 rq 1 17 (.call aFG [(.tm 16)]),
 rq 2 5 (.alloc [OZ,OZ,OZ]),
 rn 3 (.store 3 true (.tm 5) (.tm 17))] 4 [1,4,5])
 (.seq (.seq (.region [RF 0 18 2 5,
 RL 1 19 18,
 rq 2 20 (.len false (.tm 19)),
 rq 3 21 (.move (ki 0))] 4 [1,4,5,20,21])
 (.block 0
 (.loop
 (.seq (.region [rq 0 22 (.bin .lss (.tm 21) (.tm 20))] 1 [1,4,5,20,21,22])
 (.seq (.cond (.tm 22)
 .skip
 (.exit 0))
 (.seq (.block 1
 (.seq (.region [RM 0 23 21,
 RM 1 6 23] 2 [1,4,5,6,20,21])
 (.seq (.region [RM 0 24 6,
 RM 1 25 1,
 rq 2 26 (.bin .neq (.tm 24) (.tm 25))] 3 [1,4,5,6,20,21,26])
 (.cond (.tm 26)
 (.region [RF 0 27 2 5,
 RL 1 28 27,
 RM 2 29 6,
 rq 3 30 (.idx 1 (.tm 28) (.tm 29)),
 rn 4 (.store 1 false (.tm 30) (.kv (.slice none 0 0)))] 5 [1,4,5,20,21])
 .skip))))
 (.region [rq 0 31 (.bin .add (.tm 21) (ki 1)),
 RM 1 21 31] 2 [1,4,5,20,21])))))))
 (.seq (.region [rq 0 32 (.load 3 true (.tm 5)),
 rn 1 (.store 3 true (.tm 4) (.tm 32))] 2 [4])
 .ret)))))
def aGZ:List Cert:=[⟨[],[1,2,4]⟩,⟨[],[1,2,4,14]⟩,⟨[],[4]⟩,⟨[],[1,4,5]⟩,⟨[],[1,4,5,20,21]⟩,⟨[],[1,4,5,20,21,22]⟩,⟨[],[1,4,5,6,20,21]⟩,⟨[],[1,4,5,6,20,21,26]⟩,⟨[],[1,4,5,20,21]⟩,⟨[],[1,4,5,20,21]⟩,⟨[],[4]⟩]
def aGL:List aW:=[.cell 4 3 true]
theorem aGY:aO Tryz.prog Tryz.f15 aGZ=some (aFY,aGL):=by kernel_rfl
end Go.Proofs.YtegiblhkjfiooaaGreat
end
section
namespace Go.Proofs.YtegiblhkjfiooaaGreat
open Go Go.AM
set_option maxRecDepth 100000
def aFC:AC:=
 (.seq (.region [rq 0 1 (.box true (.tm 0)),
 rq 1 2 (.alloc [OZ,OZ,OZ])] 2 [1,2])
 (.seq (.region [RF 0 8 0 1,
 ⟨1,(some 9),.load 1 false (.tm 8),none,[9,11],[],false⟩,
 RF 3 11 1 1,
 ⟨4,(some 12),.load 1 false (.tm 11),none,[9,11],[],true⟩,
 RF 6 14 2 1,
 ⟨7,(some 15),.load 1 false (.tm 14),none,[9,11],[],true⟩,
 rq 8 16 (.len false (.tm 15)),
 rq 9 17 (.kY 1 [OZ] (.tm 16) (.tm 16)),
 rq 11 3 (.alloc [OZ,OZ,OZ]),
 ⟨2,(some 10),.call aE1 [(.tm 9)],none,[9,11],[4,7],false⟩,
 ⟨5,(some 13),.call eX [(.tm 12)],none,[9,11],[7],false⟩,
 rq 10 18 (.build [OZ,OZ,OZ] [(0,1,(.tm 10)),(1,1,(.tm 13)),(2,1,(.tm 17))]),
 rn 12 (.store 3 true (.tm 3) (.tm 18))] 13 [1,2,3])
 (.seq (.seq (.region [RF 0 19 2 1,
 RL 1 20 19,
 rq 2 21 (.len false (.tm 20)),
 rq 3 22 (.move (ki 0))] 4 [2,3,20,21,22])
 (.block 0
 (.loop
 (.seq (.region [rq 0 23 (.bin .lss (.tm 22) (.tm 21))] 1 [2,3,20,21,22,23])
 (.seq (.cond (.tm 23)
 .skip
 (.exit 0))
 (.seq (.block 1
 (.seq (.region [RM 0 24 22,
 rq 1 25 (.idx 1 (.tm 20) (.tm 22)),
 RL 2 26 25,
 RM 3 4 24,
 RM 4 5 26] 5 [2,3,4,5,20,21,22])
 (.seq (.region [RF 0 27 2 3,
 ⟨1,(some 28),.load 1 false (.tm 27),none,[],[],true⟩,
 RM 2 29 4,
 RM 3 30 5,
 ⟨4,(some 31),.call aE3 [(.tm 30)],none,[],[1],false⟩,
 rq 5 32 (.idx 1 (.tm 28) (.tm 29)),
 rn 6 (.store 1 false (.tm 32) (.tm 31))] 7 [2,3,4,5,20,21,22])
 (.seq (.region [RM 0 33 5,
 rq 1 34 (.len false (.tm 33)),
 rq 2 35 (.move (ki 0))] 3 [2,3,4,20,21,22,33,34,35])
 (.block 2
 (.loop
 (.seq (.region [rq 0 36 (.bin .lss (.tm 35) (.tm 34))] 1 [2,3,4,20,21,22,33,34,35,36])
 (.seq (.cond (.tm 36)
 .skip
 (.exit 2))
 (.seq (.block 3
 (.seq (.region [RM 0 37 35,
 rq 1 38 (.idx 7 (.tm 33) (.tm 35)),
 rq 2 39 (.load 7 true (.tm 38)),
 rq 3 7 (.alloc [VZ,VZ,VZ,VZ,(.v (.bool false)),OZ,OZ]),
 RM 4 6 37,
 rn 5 (.store 7 true (.tm 7) (.tm 39))] 6 [2,3,4,6,7,20,21,22,33,34,35])
 (.region [RF 0 40 2 3,
 ⟨1,(some 41),.load 1 false (.tm 40),none,[],[],true⟩,
 RM 2 42 4,
 rq 3 43 (.idx 1 (.tm 41) (.tm 42)),
 ⟨4,(some 44),.load 1 false (.tm 43),none,[],[],true⟩,
 RM 5 45 6,
 rq 6 46 (.load 7 true (.tm 7)),
 ⟨7,(some 47),.call aFF [(.tm 46)],none,[],[1,4],false⟩,
 rq 8 48 (.idx 7 (.tm 44) (.tm 45)),
 rn 9 (.store 7 true (.tm 48) (.tm 47))] 10 [2,3,4,20,21,22,33,34,35])))
 (.region [rq 0 49 (.bin .add (.tm 35) (ki 1)),
 RM 1 35 49] 2 [2,3,4,20,21,22,33,34,35]))))))))))
 (.region [rq 0 50 (.bin .add (.tm 22) (ki 1)),
 RM 1 22 50] 2 [2,3,20,21,22])))))))
 (.seq (.region [rq 0 51 (.load 3 true (.tm 3)),
 rn 1 (.store 3 true (.tm 2) (.tm 51))] 2 [2])
 .ret))))
def aGP:List Cert:=[⟨[],[1,2]⟩,⟨[cz 0,(1,[9,11],[],false),cz 3,(4,[9,11],[],true),cz 6,(7,[9,11],[],true),cz 8,cz 9,cz 11,(2,[9,11],[4,7],false),(5,[9,11],[7],false),cz 10,cz 12],[1,2,3]⟩,⟨[],[2,3,20,21,22]⟩,⟨[],[2,3,20,21,22,23]⟩,⟨[],[2,3,4,5,20,21,22]⟩,⟨[cz 0,(1,[],[],true),cz 2,cz 3,(4,[],[1],false),cz 5,cz 6],[2,3,4,5,20,21,22]⟩,⟨[],[2,3,4,20,21,22,33,34,35]⟩,⟨[],[2,3,4,20,21,22,33,34,35,36]⟩,⟨[],[2,3,4,6,7,20,21,22,33,34,35]⟩,⟨[cz 0,(1,[],[],true),cz 2,cz 3,(4,[],[],true),cz 5,cz 6,(7,[],[1,4],false),cz 8,cz 9],[2,3,4,20,21,22,33,34,35]⟩,⟨[],[2,3,4,20,21,22,33,34,35]⟩,⟨[],[2,3,20,21,22]⟩,⟨[],[2]⟩]
def aFV:List aW:=[.cell 2 3 true]
theorem aGN:aO Tryz.prog Tryz.f60 aGP=some (aFC,aFV):=by kernel_rfl
def aE6:AC:=
 (.seq (.region [rq 0 2 (.move (.kv (.slice none 0 0)))] 1 [0])
 (.seq (.region [RM 0 3 0,
 rq 1 4 (.call aEV [(.tm 3)]),
 rq 2 5 (.call aEW [(.tm 4)]),
 RM 3 2 5] 4 [2])
 .ret))
def aF9:List Cert:=[⟨[],[0]⟩,⟨[],[2]⟩]
def aFE:List aW:=[.tm 2]
theorem aF8:aO Tryz.prog Tryz.f118 aF9=some (aE6,aFE):=by kernel_rfl
theorem aF7:aN Tryz.prog aE1 Tryz.f118 aE6 aFE:=
 aN.mk Tryz.func118 (by kernel_rfl) aF8
def aE9:AC:=
 (.seq (.region [rq 0 2 (.move (.kv (.slice none 0 0)))] 1 [0])
 (.seq (.region [RM 0 3 0,
 rq 1 4 (.call aEX [(.tm 3)]),
 rq 2 5 (.call aEY [(.tm 4)]),
 RM 3 2 5] 4 [2])
 .ret))
def aGF:List Cert:=[⟨[],[0]⟩,⟨[],[2]⟩]
def aFH:List aW:=[.tm 2]
theorem aGG:aO Tryz.prog Tryz.f120 aGF=some (aE9,aFH):=by kernel_rfl
theorem aGH:aN Tryz.prog aE3 Tryz.f120 aE9 aFH:=
 aN.mk Tryz.func120 (by kernel_rfl) aGG
def aFD:AC:=
 (.seq (.region [rq 0 1 (.box true (.tm 0)),
 rq 1 2 (.alloc [VZ,VZ,VZ,VZ,(.v (.bool false)),OZ,OZ])] 2 [1,2])
 (.seq (.region [RF 0 3 5 1,
 RL 1 4 3,
 RF 3 6 6 1,
 ⟨4,(some 7),.load 1 false (.tm 6),none,[],[],true⟩,
 ⟨2,(some 5),.call eX [(.tm 4)],none,[],[4],false⟩,
 RF 6 9 5 1,
 rq 5 8 (.call eX [(.tm 7)]),
 rn 7 (.store 1 false (.tm 9) (.tm 5)),
 RF 8 10 6 1,
 rn 9 (.store 1 false (.tm 10) (.tm 8))] 10 [1,2])
 (.seq (.region [rq 0 11 (.load 7 true (.tm 1)),
 rn 1 (.store 7 true (.tm 2) (.tm 11))] 2 [2])
 .ret)))
def aGO:List Cert:=[⟨[],[1,2]⟩,⟨[cz 0,cz 1,cz 3,(4,[],[],true),(2,[],[4],false),cz 6,cz 5,cz 7,cz 8,cz 9],[1,2]⟩,⟨[],[2]⟩]
def aFU:List aW:=[.cell 2 7 true]
theorem aGQ:aO Tryz.prog Tryz.f121 aGO=some (aFD,aFU):=by kernel_rfl
def aE0:AC:=
 (.seq (.region [rq 0 2 (.move (.kv (.slice none 0 0)))] 1 [0])
 (.seq (.region [RM 0 3 0,
 RM 1 4 0,
 rq 2 5 (.len false (.tm 4)),
 RM 3 6 0,
 rq 4 7 (.len false (.tm 6)),
 rq 5 8 (.slc 4 (.tm 3) none (some (.tm 5)) (some (.tm 7))),
 RM 6 2 8] 7 [2])
 .ret))
def aFO:List Cert:=[⟨[],[0]⟩,⟨[],[2]⟩]
def aE8:List aW:=[.tm 2]
theorem aFR:aO Tryz.prog Tryz.f185 aFO=some (aE0,aE8):=by kernel_rfl
theorem aFQ:aN Tryz.prog aEW Tryz.f185 aE0 aE8:=
 aN.mk Tryz.func185 (by kernel_rfl) aFR
def aEZ:AC:=
 (.seq (.region [rq 0 2 (.move (.kv (.slice none 0 0)))] 1 [0])
 (.seq (.seq (.region [RM 0 3 0,
 rq 1 4 (.xop (.qJ false) [(.tm 3)])] 2 [0,4])
 (.cond (.tm 4)
 (.seq (.region [rq 0 2 (.move (.kv (.slice none 0 0)))] 1 [2])
 .ret)
 .skip))
 (.seq (.region [rq 0 5 (.bC 4 0 [VZ,VZ,VZ,(.v (.bool false))] []),
 RM 1 6 0,
 rq 2 7 (.append 4 (.tm 5) (.tm 6)),
 RM 3 2 7] 4 [2])
 .ret)))
def aFJ:List Cert:=[⟨[],[0]⟩,⟨[],[0,4]⟩,⟨[],[2]⟩,⟨[],[2]⟩]
def aE7:List aW:=[.tm 2]
theorem aFL:aO Tryz.prog Tryz.f186 aFJ=some (aEZ,aE7):=by kernel_rfl
theorem aFM:aN Tryz.prog aEV Tryz.f186 aEZ aE7:=
 aN.mk Tryz.func186 (by kernel_rfl) aFL
def aE4:AC:=
 (.seq (.region [rq 0 2 (.move (.kv (.slice none 0 0)))] 1 [0])
 (.seq (.region [RM 0 3 0,
 RM 1 4 0,
 rq 2 5 (.len false (.tm 4)),
 RM 3 6 0,
 rq 4 7 (.len false (.tm 6)),
 rq 5 8 (.slc 7 (.tm 3) none (some (.tm 5)) (some (.tm 7))),
 RM 6 2 8] 7 [2])
 .ret))
def aF4:List Cert:=[⟨[],[0]⟩,⟨[],[2]⟩]
def aFB:List aW:=[.tm 2]
theorem aF0:aO Tryz.prog Tryz.f189 aF4=some (aE4,aFB):=by kernel_rfl
theorem aF1:aN Tryz.prog aEY Tryz.f189 aE4 aFB:=
 aN.mk Tryz.func189 (by kernel_rfl) aF0
def aE2:AC:=
 (.seq (.region [rq 0 2 (.move (.kv (.slice none 0 0)))] 1 [0])
 (.seq (.seq (.region [RM 0 3 0,
 rq 1 4 (.xop (.qJ false) [(.tm 3)])] 2 [0,4])
 (.cond (.tm 4)
 (.seq (.region [rq 0 2 (.move (.kv (.slice none 0 0)))] 1 [2])
 .ret)
 .skip))
 (.seq (.region [rq 0 5 (.bC 7 0 [VZ,VZ,VZ,VZ,(.v (.bool false)),OZ,OZ] []),
 RM 1 6 0,
 rq 2 7 (.append 7 (.tm 5) (.tm 6)),
 RM 3 2 7] 4 [2])
 .ret)))
def aFX:List Cert:=[⟨[],[0]⟩,⟨[],[0,4]⟩,⟨[],[2]⟩,⟨[],[2]⟩]
def aFA:List aW:=[.tm 2]
theorem aFZ:aO Tryz.prog Tryz.f190 aFX=some (aE2,aFA):=by kernel_rfl
theorem aFW:aN Tryz.prog aEX Tryz.f190 aE2 aFA:=
 aN.mk Tryz.func190 (by kernel_rfl) aFZ
end Go.Proofs.YtegiblhkjfiooaaGreat
end
section
namespace Go.Proofs.YtegiblhkjfiooaaGreat
open Go Go.AM
set_option maxRecDepth 100000
set_option maxHeartbeats 8000000
section
variable {H : aA} {nx : Nat} {K : D → aA → Nat → Prop}
theorem aG4 {τ:Nat→Nat} {n m:Nat} {l:List Rng}:bA.rn τ ⟨n,m,l.map eN⟩=⟨n,m,l.map eN⟩:=by
 refine rF fun r hr x hx=> ?_
 obtain⟨y,_,rfl⟩:=List.mem_map.1 hr
 exact List.all_eq_true.1 (K3 y).2 x hx
theorem aFN (l:List Rng) (hl:l.length<2^20):aB Tryz.prog aEV [dS (l.map eN)] (hp []) 0
 fun r H' n'=>∃cap,l.length≤cap∧n'=1∧H'=hp [(0,⟨4,cap,l.map eN⟩)]∧r=dO 4 0 l.length cap:=by
 refine aFM rfl fun Q hQ=> ?_
 unfold aEZ
 refine aM.seq (aM.EJ 4 ?_)
 repeat' (first| (with_reducible first| (refine hK _ _ _ ?_;clear hK K)| (refine hA ?_;clear hA hB A B)| (refine hB ?_;clear hA hB A B)|refine Z1 ?_|refine Z2 ?_|refine Z7 (fun h=> ?_) fun h=> ?_|refine fun(cap:Nat) (hcap:_≤cap)=> ?_|refine fun(hcp:_≤cap)=> ?_|refine fun(b:Bool)=> ?_)| (with_reducible first|refine Y2 fun K hK=> ?_|refine Y3 fun A B hA hB=> ?_)<;>(simp only[go_sem])| ((with_reducible refine Y8 ?_);try simp only[AQ.then,AQ.blk,reduceIte,Nat.reduceEqDiff])| ((with_reducible refine Z8 (fun h=> ?_) (fun h=> ?_))<;>try subst h)|refine⟨by omega,?_⟩|fail)
 all_goals first
  | (have hcap':=Nat.le_refl cap
     (refine hQ _ _ _ _ _ 1 (dO 4 0 l.length cap) (hp [(0,⟨4,cap,l.map eN⟩)]) _ _ (.inr rfl) rfl (fU [6] (by omega) (by repeat' (first| ((with_reducible refine C0 ?_);exact CQ (by omega) rfl rfl (by rfl) rfl)| ((with_reducible refine D0 ?_);refine CJ ?_)|fail)) ⟨⟨by simp,by simp[sgL],_,rfl,bP (aG K3 _) rfl rfl⟩,trivial⟩ (by simp[sgL])) ?_)
     exact⟨cap,by omega,rfl,rfl,rfl⟩)
  | (have h0:l=[]:=List.eq_nil_of_length_eq_zero (by omega)
     subst h0
     (refine hQ _ _ _ _ _ 1 (dO 4 0 0 0) (hp [(0,⟨4,0,([]:List Rng).map eN⟩)]) _ _ (.inr rfl) rfl (fU [0] (by omega) (by repeat' (first| ((with_reducible refine C0 ?_);exact CC)| ((with_reducible refine D0 ?_);refine CJ ?_)|fail)) ⟨⟨by simp,by simp[sgL],_,rfl,bP (aG K3 _) rfl rfl⟩,trivial⟩ (by simp[sgL])) ?_)
     exact⟨0,Nat.le_refl _,rfl,rfl,rfl⟩)
theorem aFP {l:List Rng} (hl:l.length<2^20) (h: ∀cap,l.length≤cap→K (dO 4 nx l.length cap) (H.set nx ⟨4,cap,l.map eN⟩) (nx+1)):aB Tryz.prog aEV [dS (l.map eN)] H nx K:=by
 refine(aFN l hl).AF (l0:=[]) [] rfl ⟨aE rfl,trivial⟩ trivial (by simp) (by simp) (by simp) fun r H' n' _ ⟨cap,q0,q1,q2,q3⟩=> ?_
 have h:=h cap q0
 subst q1;subst q2;subst q3
 have e1:back (tau 0 nx (nth [])) (hp [(0,⟨4,cap,l.map eN⟩)]) 1 H=H.set nx ⟨4,cap,l.map eN⟩:=by
  simp only[back,hp,aA.set,tau,Nat.not_lt_zero,if_true,if_false,Nat.sub_zero,Nat.add_zero,Option.map_some,aG4,aA.eL]
 rw[←e1] at h
 exact h
theorem aFT (l:List Rng) (cap m:Nat) (hl:l.length<2^20) (hc:l.length≤cap):aB Tryz.prog aEW [dO 4 0 l.length cap] (hp [(0,⟨4,m,l.map eN⟩)]) 1
 fun r H' n'=>n'=1∧ ∃o',H'=hp [(0,o')]∧C7 o'∧o'=⟨4,m,l.map eN⟩∧r=dO 4 0 l.length l.length:=by
 refine aFQ rfl fun Q hQ=> ?_
 unfold aE0
 repeat' (first| (with_reducible first| (refine hK _ _ _ ?_;clear hK K)|refine Z1 ?_)| (with_reducible refine Y2 fun K hK=> ?_)<;>(simp only[go_sem])| ((with_reducible refine Y8 ?_);try simp only[AQ.then,AQ.blk,reduceIte,Nat.reduceEqDiff])|refine⟨by omega,?_⟩|fail)
 exact lA hQ (dO 4 0 l.length l.length) _ _ rfl (by repeat' (first| ((with_reducible refine C0 ?_);exact CQ (by omega) rfl rfl (by rfl) rfl)| ((with_reducible refine D0 ?_);refine CJ ?_)|fail)) rfl (oB K3 _) ⟨rfl,rfl⟩
theorem aFS {l:List Rng} {cap m i:Nat} (hl:l.length<2^20) (hc:l.length≤cap) (hi:i<nx) (ho:H i=some ⟨4,m,l.map eN⟩) (h:K (dO 4 i l.length l.length) (H.set i ⟨4,m,l.map eN⟩) nx):
 aB Tryz.prog aEW [dO 4 i l.length cap] H nx K:=
 (aFT l cap m hl hc).OU i rfl (gW ⟨qS (by omega) rfl rfl rfl rfl,trivial⟩) hi ho (oB K3 _) fun r o' ⟨h1,h2⟩=>by
  subst h1;subst h2;exact h
theorem aGA (l:List Rng) (hl:l.length<2^20):aB Tryz.prog aE1 [dS (l.map eN)] (hp []) 0
 fun r H' n'=>∃cap,l.length≤cap∧n'=1∧H'=hp [(0,⟨4,cap,l.map eN⟩)]∧r=dO 4 0 l.length l.length:=by
 refine aF7 rfl fun Q hQ=> ?_
 unfold aE6
 repeat' (first| (with_reducible first| (refine hK _ _ _ ?_;clear hK K)|refine Z1 ?_)| (first| (with_reducible refine Y2 fun K hK=> ?_)| (refine aFP hl (fun cap hcap=> ?_))| (refine aFS hl hcap (by omega) rfl ?_))<;>(simp only[go_sem])| ((with_reducible refine Y8 ?_);try simp only[AQ.then,AQ.blk,reduceIte,Nat.reduceEqDiff])|fail)
 (refine hQ _ _ _ _ _ 1 (dO 4 0 l.length l.length) (hp [(0,⟨4,cap,l.map eN⟩)]) _ _ (.inr rfl) rfl (fU [5] (by omega) (by repeat' (first| ((with_reducible refine C0 ?_);exact CQ (by omega) rfl rfl (by rfl) rfl)| ((with_reducible refine D0 ?_);refine CJ ?_)|fail)) ⟨⟨by simp,by simp[sgL],_,rfl,bP (aG K3 _) rfl rfl⟩,trivial⟩ (by simp[sgL])) ?_)
 exact⟨cap,hcap,rfl,rfl,rfl⟩
theorem aGD {l:List Rng} (hl:l.length<2^20) (h: ∀m,l.length≤m→K (dO 4 nx l.length l.length) (H.set nx ⟨4,m,l.map eN⟩) (nx+1)):aB Tryz.prog aE1 [dS (l.map eN)] H nx K:=by
 refine(aGA l hl).AF (l0:=[]) [] rfl ⟨aE rfl,trivial⟩ trivial (by simp) (by simp) (by simp) fun r H' n' _ ⟨cap,q0,q1,q2,q3⟩=> ?_
 have h:=h cap q0
 subst q1;subst q2;subst q3
 have e1:back (tau 0 nx (nth [])) (hp [(0,⟨4,cap,l.map eN⟩)]) 1 H=H.set nx ⟨4,cap,l.map eN⟩:=by
  simp only[back,hp,aA.set,tau,Nat.not_lt_zero,if_true,if_false,Nat.sub_zero,Nat.add_zero,Option.map_some,aG4,aA.eL]
 rw[←e1] at h
 exact h
theorem aG5 {τ:Nat→Nat} {n m:Nat} {l:List Req}:bA.rn τ ⟨n,m,l.map eB⟩=⟨n,m,l.map eB⟩:=by
 refine rF fun r hr x hx=> ?_
 obtain⟨y,_,rfl⟩:=List.mem_map.1 hr
 exact List.all_eq_true.1 (rL y).2 x hx
theorem aF2 (l:List Req) (hl:l.length<2^20):aB Tryz.prog aEX [dS (l.map eB)] (hp []) 0
 fun r H' n'=>∃cap,l.length≤cap∧n'=1∧H'=hp [(0,⟨7,cap,l.map eB⟩)]∧r=dO 7 0 l.length cap:=by
 refine aFW rfl fun Q hQ=> ?_
 unfold aE2
 refine aM.seq (aM.EJ 7 ?_)
 repeat' (first| (with_reducible first| (refine hK _ _ _ ?_;clear hK K)| (refine hA ?_;clear hA hB A B)| (refine hB ?_;clear hA hB A B)|refine Z1 ?_|refine Z2 ?_|refine Z7 (fun h=> ?_) fun h=> ?_|refine fun(cap:Nat) (hcap:_≤cap)=> ?_|refine fun(hcp:_≤cap)=> ?_|refine fun(b:Bool)=> ?_)| (with_reducible first|refine Y2 fun K hK=> ?_|refine Y3 fun A B hA hB=> ?_)<;>(simp only[go_sem])| ((with_reducible refine Y8 ?_);try simp only[AQ.then,AQ.blk,reduceIte,Nat.reduceEqDiff])| ((with_reducible refine Z8 (fun h=> ?_) (fun h=> ?_))<;>try subst h)|refine⟨by omega,?_⟩|fail)
 all_goals first
  | (have hcap':=Nat.le_refl cap
     (refine hQ _ _ _ _ _ 1 (dO 7 0 l.length cap) (hp [(0,⟨7,cap,l.map eB⟩)]) _ _ (.inr rfl) rfl (fU [6] (by omega) (by repeat' (first| ((with_reducible refine C0 ?_);exact CQ (by omega) rfl rfl (by rfl) rfl)| ((with_reducible refine D0 ?_);refine CJ ?_)|fail)) ⟨⟨by simp,by simp[sgL],_,rfl,bP (aG rL _) rfl rfl⟩,trivial⟩ (by simp[sgL])) ?_)
     exact⟨cap,by omega,rfl,rfl,rfl⟩)
  | (have h0:l=[]:=List.eq_nil_of_length_eq_zero (by omega)
     subst h0
     (refine hQ _ _ _ _ _ 1 (dO 7 0 0 0) (hp [(0,⟨7,0,([]:List Req).map eB⟩)]) _ _ (.inr rfl) rfl (fU [0] (by omega) (by repeat' (first| ((with_reducible refine C0 ?_);exact CC)| ((with_reducible refine D0 ?_);refine CJ ?_)|fail)) ⟨⟨by simp,by simp[sgL],_,rfl,bP (aG rL _) rfl rfl⟩,trivial⟩ (by simp[sgL])) ?_)
     exact⟨0,Nat.le_refl _,rfl,rfl,rfl⟩)
theorem aF3 {l:List Req} (hl:l.length<2^20) (h: ∀cap,l.length≤cap→K (dO 7 nx l.length cap) (H.set nx ⟨7,cap,l.map eB⟩) (nx+1)):aB Tryz.prog aEX [dS (l.map eB)] H nx K:=by
 refine(aF2 l hl).AF (l0:=[]) [] rfl ⟨aE rfl,trivial⟩ trivial (by simp) (by simp) (by simp) fun r H' n' _ ⟨cap,q0,q1,q2,q3⟩=> ?_
 have h:=h cap q0
 subst q1;subst q2;subst q3
 have e1:back (tau 0 nx (nth [])) (hp [(0,⟨7,cap,l.map eB⟩)]) 1 H=H.set nx ⟨7,cap,l.map eB⟩:=by
  simp only[back,hp,aA.set,tau,Nat.not_lt_zero,if_true,if_false,Nat.sub_zero,Nat.add_zero,Option.map_some,aG5,aA.eL]
 rw[←e1] at h
 exact h
theorem aF5 (l:List Req) (cap m:Nat) (hl:l.length<2^20) (hc:l.length≤cap):aB Tryz.prog aEY [dO 7 0 l.length cap] (hp [(0,⟨7,m,l.map eB⟩)]) 1
 fun r H' n'=>n'=1∧ ∃o',H'=hp [(0,o')]∧C7 o'∧o'=⟨7,m,l.map eB⟩∧r=dO 7 0 l.length l.length:=by
 refine aF1 rfl fun Q hQ=> ?_
 unfold aE4
 repeat' (first| (with_reducible first| (refine hK _ _ _ ?_;clear hK K)|refine Z1 ?_)| (with_reducible refine Y2 fun K hK=> ?_)<;>(simp only[go_sem])| ((with_reducible refine Y8 ?_);try simp only[AQ.then,AQ.blk,reduceIte,Nat.reduceEqDiff])|refine⟨by omega,?_⟩|fail)
 exact lA hQ (dO 7 0 l.length l.length) _ _ rfl (by repeat' (first| ((with_reducible refine C0 ?_);exact CQ (by omega) rfl rfl (by rfl) rfl)| ((with_reducible refine D0 ?_);refine CJ ?_)|fail)) rfl (oB rL _) ⟨rfl,rfl⟩
theorem aF6 {l:List Req} {cap m i:Nat} (hl:l.length<2^20) (hc:l.length≤cap) (hi:i<nx) (ho:H i=some ⟨7,m,l.map eB⟩) (h:K (dO 7 i l.length l.length) (H.set i ⟨7,m,l.map eB⟩) nx):
 aB Tryz.prog aEY [dO 7 i l.length cap] H nx K:=
 (aF5 l cap m hl hc).OU i rfl (gW ⟨qS (by omega) rfl rfl rfl rfl,trivial⟩) hi ho (oB rL _) fun r o' ⟨h1,h2⟩=>by
  subst h1;subst h2;exact h
theorem aGK (l:List Req) (hl:l.length<2^20):aB Tryz.prog aE3 [dS (l.map eB)] (hp []) 0
 fun r H' n'=>∃cap,l.length≤cap∧n'=1∧H'=hp [(0,⟨7,cap,l.map eB⟩)]∧r=dO 7 0 l.length l.length:=by
 refine aGH rfl fun Q hQ=> ?_
 unfold aE9
 repeat' (first| (with_reducible first| (refine hK _ _ _ ?_;clear hK K)|refine Z1 ?_)| (first| (with_reducible refine Y2 fun K hK=> ?_)| (refine aF3 hl (fun cap hcap=> ?_))| (refine aF6 hl hcap (by omega) rfl ?_))<;>(simp only[go_sem])| ((with_reducible refine Y8 ?_);try simp only[AQ.then,AQ.blk,reduceIte,Nat.reduceEqDiff])|fail)
 (refine hQ _ _ _ _ _ 1 (dO 7 0 l.length l.length) (hp [(0,⟨7,cap,l.map eB⟩)]) _ _ (.inr rfl) rfl (fU [5] (by omega) (by repeat' (first| ((with_reducible refine C0 ?_);exact CQ (by omega) rfl rfl (by rfl) rfl)| ((with_reducible refine D0 ?_);refine CJ ?_)|fail)) ⟨⟨by simp,by simp[sgL],_,rfl,bP (aG rL _) rfl rfl⟩,trivial⟩ (by simp[sgL])) ?_)
 exact⟨cap,hcap,rfl,rfl,rfl⟩
theorem aGJ {l:List Req} (hl:l.length<2^20) (h: ∀m,l.length≤m→K (dO 7 nx l.length l.length) (H.set nx ⟨7,m,l.map eB⟩) (nx+1)):aB Tryz.prog aE3 [dS (l.map eB)] H nx K:=by
 refine(aGK l hl).AF (l0:=[]) [] rfl ⟨aE rfl,trivial⟩ trivial (by simp) (by simp) (by simp) fun r H' n' _ ⟨cap,q0,q1,q2,q3⟩=> ?_
 have h:=h cap q0
 subst q1;subst q2;subst q3
 have e1:back (tau 0 nx (nth [])) (hp [(0,⟨7,cap,l.map eB⟩)]) 1 H=H.set nx ⟨7,cap,l.map eB⟩:=by
  simp only[back,hp,aA.set,tau,Nat.not_lt_zero,if_true,if_false,Nat.sub_zero,Nat.add_zero,Option.map_some,aG5,aA.eL]
 rw[←e1] at h
 exact h
end
end Go.Proofs.YtegiblhkjfiooaaGreat
end
section
namespace Go.Proofs.YtegiblhkjfiooaaGreat
open Go Go.AM
set_option maxRecDepth 100000
end Go.Proofs.YtegiblhkjfiooaaGreat
end
section
namespace Go.Proofs.YtegiblhkjfiooaaGreat
open Go Go.AM
set_option maxRecDepth 100000
set_option maxHeartbeats 8000000
theorem umM {b:Nat} {l:List Nat} {H:aA}:dT b l H (msk b l H)=H:=by
 funext j;simp only[dT,msk];split<;>rfl
theorem muM {b:Nat} {l:List Nat} {H G:aA}:msk b l (dT b l H G)=msk b l G:=by
 funext j;simp only[dT,msk];split<;>rfl
section
variable {H : aA} {nx : Nat} {K : D → aA → Nat → Prop}
end
end Go.Proofs.YtegiblhkjfiooaaGreat
end
section
namespace Go.Proofs.YtegiblhkjfiooaaGreat
open Go Go.AM
set_option maxRecDepth 100000
set_option maxHeartbeats 8000000
theorem aGR:cJ Tryz.prog aFF Tryz.f121 aFD aFU:=cJ.mk Tryz.func121 (by kernel_rfl) aGQ
theorem aGM:cJ Tryz.prog aFG Tryz.f60 aFC aFV:=cJ.mk Tryz.func60 (by kernel_rfl) aGN
section
variable {H : aA} {nx : Nat} {K : D → aA → Nat → Prop}
theorem aGS {q:Req} (hd:q.data.length<2^20) (hl:q.lanes.length<2^20) (h: ∀H' nx',nx≤nx'→(∀id,id<nx→H' id=H id)→K (dA (eB q)) H' nx'):aB Tryz.prog aFF [dA (eB q)] H nx K:=by
 refine aB.tW ?_
 refine aGR rfl fun Q hQ=> ?_
 unfold aFD
 repeat' (first| (with_reducible first| (refine hK _ _ _ ?_;clear hK K)|refine Z1 ?_)| (first| (with_reducible refine Y2 fun K hK=> ?_)| (refine kH hd (fun m1 hm1=> ?_))| (refine kH hl (fun m2 hm2=> ?_)))<;>(simp only[go_sem,Nat.add_assoc,Nat.left_eq_add,Nat.add_eq_left])| ((with_reducible refine Y8 ?_);try simp only[AQ.then,AQ.blk,reduceIte,Nat.reduceEqDiff])|fail)
 refine(fun(h: ∀G,G=_→Q _ _ G _)=>h _ rfl) fun G hG=> ?_
 have f1:G (nx+1)=some ⟨7,1,[[cI q.id,cI q.kind,cI q.addr,cI q.many,cB q.wrap,.osl 1 (nx+12) 0 q.data.length q.data.length,.osl 1 (nx+13) 0 q.lanes.length q.lanes.length]]⟩:=by rw[hG];simp[aA.set]
 have f2:G (nx+12)=some ⟨1,m1,q.data.map aJ⟩:=by rw[hG];simp[aA.set]
 have f3:G (nx+13)=some ⟨1,m2,q.lanes.map aJ⟩:=by rw[hG];simp[aA.set]
 have ff: ∀id,id<nx→G id=H id:=fun id hid=>by rw[hG];simp[aA.set,show ¬id=nx by omega,show ¬id=nx+1 by omega,show ¬id=nx+12 by omega,show ¬id=nx+13 by omega]
 clear hG
 refine hQ _ _ _ _ _ (.inr rfl) (fZ rfl f1 rfl) ⟨dA (eB q),without (fun j=>j=nx+12∨j=nx+13) G,fun j=>j=nx+12∨j=nx+13,?_,kS,h _ _ (by omega) fun id hid=> ?_⟩
 ·exact lY (aH (bB rfl) (aH (bB rfl) (aH (bB rfl) (aH (bB rfl) (aH (bB rfl) (aH (bW bF f2 rfl (Nat.le_refl _) (.inl rfl)) (aH (bW bF f3 rfl (Nat.le_refl _) (.inr rfl)) eP)))))))
 ·rw[iI (by omega)];exact ff id hid
theorem aHB {F:Nat→Prop} {σ:Nat→Nat} {nh n m m':Nat} {R rows' rows:List (List D1)} {r' r:List D1} {i:Nat} (e':rows'=R) (e:rows=R.set i r) (hi:R[i]?=some r') (hR: ∀r∈R,∀x∈r,x.dQ=true∨x= .osl 0 0 0 0 0) (hm:m'=m) (h:CvL H F σ nh r' r):CvO H F σ nh ⟨n,m',rows'⟩ ⟨n,m,rows⟩:=by
 subst e';subst e;subst hm
 refine⟨rfl,rfl,by simp,fun _ h=>by dsimp only at h ⊢;rw[h];rfl,fun j r1 h1=> ?_⟩
 simp only[List.getElem?_set]
 by_cases hj:i=j
 ·subst hj
  rw[hi] at h1;cases h1
  have hlt:i<rows'.length:=(List.getElem?_eq_some_iff.1 hi).1
  exact⟨r,by simp[hlt],h⟩
 ·refine⟨r1,by simp[hj];exact h1,rfl,fun k a b ha hb=> ?_⟩
  rw[ha] at hb;cases hb
  rcases hR r1 (List.mem_of_getElem? h1) a (List.mem_of_getElem? ha) with h|h
  ·exact bB h
  ·subst h;exact afQ
theorem aGU {c:Cfg} (hb:aQ c) (hcf:jO c) (h: ∀H' nx' b,nx≤nx'→nx≤b→b<nx'→H' b=some ⟨1,3,c.cP.map jR⟩→(∀id,id<nx→H' id=H id)→K (.one (.agg [.isl (c.map.map eN),.isl (c.lat.map aJ),.osl 1 b 0 3 3])) H' nx'):aB Tryz.prog aFG [dA (cU c)] H nx K:=by
 have hp3:=(hC hb).1
 have hml:=hb.1.1
 have hll:=hb.2.1
 refine aB.tW ?_
 refine aGM rfl fun Q hQ=> ?_
 unfold aFC
 repeat' (first| (with_reducible first| (refine hK _ _ _ ?_;clear hK K)|refine Z1 ?_|refine Z3 fun KB hKB=> ?_)| (first| (with_reducible refine Y2 fun K hK=> ?_)| (refine aGD (l:=c.map) (by omega) (fun m1 hm1=> ?_))| (refine kH (l:=c.lat) (by omega) (fun m2 hm2=> ?_)))<;>(simp only[go_sem,Nat.add_assoc,Nat.left_eq_add,Nat.add_eq_left,hp3,umB,umS,umM,muM])|refine⟨by omega,?_⟩|fail)
 (have hKX:=hKB;clear hKB)
 refine aM.TF fun G0 hG0=> ?_
 have c1:G0 (nx+1)=some ⟨3,1,[[.osl 0 0 0 0 0,.osl 0 0 0 0 0,.osl 0 0 0 0 0]]⟩:=by rw[hG0];simp[aA.set]
 have c13:G0 (nx+13)=some ⟨3,1,[[.osl 4 (nx+15) 0 c.map.length c.map.length,.osl 1 (nx+16) 0 c.lat.length c.lat.length,.osl 1 (nx+11) 0 3 3]]⟩:=by rw[hG0];simp[aA.set]
 have c11:G0 (nx+11)=some ⟨1,3,[[.osl 0 0 0 0 0],[.osl 0 0 0 0 0],[.osl 0 0 0 0 0]]⟩:=by rw[hG0];simp[aA.set]
 have c15:G0 (nx+15)=some ⟨4,m1,c.map.map eN⟩:=by rw[hG0];simp[aA.set]
 have c16:G0 (nx+16)=some ⟨1,m2,c.lat.map aJ⟩:=by rw[hG0];simp[aA.set]
 have cfr: ∀id,id<nx→G0 id=H id:=fun id hid=>by rw[hG0];simp[aA.set,show ¬id=nx by omega,show ¬id=nx+1 by omega,show ¬id=nx+11 by omega,show ¬id=nx+13 by omega,show ¬id=nx+15 by omega,show ¬id=nx+16 by omega]
 clear hG0
 obtain⟨R,hR⟩: ∃R:Nat→List (List D1),R=fun k=>(c.cP.take k).map jR++List.replicate (3-k) [.osl 0 0 0 0 0]:=⟨_,rfl⟩
 have hRl: ∀k,k≤3→(R k).length=3:=fun k hk=>by rw[hR];simp;omega
 have hRi: ∀k,∀r∈R k,∀y∈r,y.dQ=true∨y= .osl 0 0 0 0 0:=fun k r hr y hy=>by
  rw[hR] at hr
  rcases List.mem_append.1 hr with hr|hr
  ·exact .inl ((aG iR _ r hr).2 y hy)
  ·rw[(List.mem_replicate.1 hr).2] at hy;simp at hy;exact .inr hy
 have hRs: ∀k,k<3→R (k+1)=(R k).set k (jR (c.cP.getD k default)):=fun k hk=>by
  have:k=0∨k=1∨k=2:=by omega
  obtain⟨a,b,d,hP⟩: ∃a b d,c.cP=[a,b,d]:=by
   match hc:c.cP,hp3 with
   | [a,b,d],_=>exact⟨a,b,d,rfl⟩
  rw[hR,hP]
  rcases this with rfl|rfl|rfl<;>rfl
 have hw: ∀j,¬(j=nx+15∨j=nx+16)→without (fun j=>j=nx+15∨j=nx+16) G0 j=G0 j:=fun j hj=>iI (F:=fun j=>j=nx+15∨j=nx+16) hj
 refine aM.gP (β:=Nat) (fun k=>en [(22,dI k),(21,dI 3),(20,dS (c.cP.map jR)),(3,.one (.c (.ptr 3 (nx+13) 0 0))),(2,.one (.c (.ptr 3 (nx+1) 0 0)))])
  (fun k H1 _=>k≤3∧H1 (nx+1)=some ⟨3,1,[[.osl 0 0 0 0 0,.osl 0 0 0 0 0,.osl 0 0 0 0 0]]⟩∧H1 (nx+13)=some ⟨3,1,[[.isl (c.map.map eN),.isl (c.lat.map aJ),.osl 1 (nx+11) 0 3 3]]⟩∧H1 (nx+11)=some ⟨1,3,R k⟩∧ ∀id,id<nx→H1 id=H id) (fun k=>3-k) 0
  ⟨fun j=>j=nx+15∨j=nx+16,(without (fun j=>j=nx+15∨j=nx+16) G0).set (nx+13) ⟨3,1,[[.isl (c.map.map eN),.isl (c.lat.map aJ),.osl 1 (nx+11) 0 3 3]]⟩,by repeat' (first| (with_reducible first|exact C1|refine C2 ?_ ?_)| ((with_reducible refine C0 ?_);exact CE (by omega) rfl)| ((with_reducible refine D0 ?_);first|exact CA rfl|refine CJ ?_)|fail),?_,by omega,by rw[aA.aC (by omega),hw _ (by omega)];exact c1,aA.bH,by rw[aA.aC (by omega),hw _ (by omega),c11,hR];rfl,fun id hid=>by rw[aA.aC (by omega),hw _ (by omega)];exact cfr id hid⟩ ?_
 ·refine apO (t:=nx+13) (o':=⟨3,1,[[.isl (c.map.map eN),.isl (c.lat.map aJ),.osl 1 (nx+11) 0 3 3]]⟩) (fun j hj=> ?_) aA.bH c13 (by omega) (aP (aH (bW K3 c15 rfl (Nat.le_refl _) (.inl rfl)) (aH (bW bF c16 rfl (Nat.le_refl _) (.inr rfl)) (aH (.osl _ _ _ _ _ (by omega)) eP)))) fun j hj1 hj2=> ?_
  ·have:j≠nx+13:=by rcases hj with rfl|rfl<;>omega
   rw[aA.aC this];exact if_pos hj
  ·rw[aA.aC hj1,hw _ hj2]
 clear c1 c13 c11 c15 c16 cfr hw
 rintro k H1 nx1 hnx1 ⟨hk,g1,g13,g11,hfr⟩ KL hKL
 have hA:bQ nx1 [nx+1,nx+13,nx+11]:=AM.apart (by simp) (by simp;omega)
 simp only[bQ,eZ] at hA
 have r3:=hRl k hk
 by_cases hlt:k<3
 ·obtain⟨pr,hpr⟩: ∃pr,pr=c.cP.getD k default:=⟨_,rfl⟩
  have hpr':c.cP.getD k default=pr:=hpr.symm
  have hpl:=(hC hb).2 k
  rw[hpr'] at hpl
  have hpro: ∀q∈pr,dH q:=fun q hq=>by
   have h5:=hb.2.2.2.2
   rw[cH] at h5
   have h7:mV pr:=Classical.not_not.1 fun hc=>h5 ⟨pr,by rw[hpr];exact cC (by omega),decide_eq_true hc⟩
   exact Classical.not_not.1 fun hc=>h7.2 (cH.2 ⟨q,hq,decide_eq_true hc⟩)
  have hRk:(R k)[k]?=some [.osl 0 0 0 0 0]:=by
   have:k=0∨k=1∨k=2:=by omega
   obtain⟨a,b,d,hP⟩: ∃a b d,c.cP=[a,b,d]:=by
    match hc:c.cP,hp3 with
    | [a,b,d],_=>exact⟨a,b,d,rfl⟩
   rw[hR,hP]
   rcases this with rfl|rfl|rfl<;>rfl
  repeat' (first| (with_reducible first| (refine hK _ _ _ ?_;clear hK K)| (refine hA ?_;clear hA hB A B)|refine Z1 ?_|refine Z2 ?_|refine Z3 fun KB hKB=> ?_|refine Z4 (by omega) ?_)| (first| (with_reducible first|refine Y2 fun K hK=> ?_|refine Y3 fun A B hA hB=> ?_)| (refine aGJ (l:=pr) (by omega) (fun m hm=> ?_)))<;>(simp only[go_sem,Nat.add_assoc,Nat.left_eq_add,Nat.add_eq_left,hp3,hpr',g1,g13,g11,r3,hA,hRk])|refine⟨by omega,?_⟩|fail)
  (have hKY:=hKB;clear hKB)
  obtain⟨aHE,hR2⟩: ∃aHE,aHE=(R k).set k [.osl 7 (nx1+13) 0 pr.length pr.length]:=⟨_,rfl⟩
  have hR2k:aHE[k]?=some [.osl 7 (nx1+13) 0 pr.length pr.length]:=by rw[hR2];exact List.getElem?_set_self (by omega)
  have hR2l:aHE.length=3:=by rw[hR2];simpa using r3
  refine aM.TF fun aHF hG1=> ?_
  have d1:aHF (nx+1)=some ⟨3,1,[[.osl 0 0 0 0 0,.osl 0 0 0 0 0,.osl 0 0 0 0 0]]⟩:=by rw[hG1,aA.aC (by omega),aA.aC (by omega)];exact g1
  have d13:aHF (nx+13)=some ⟨3,1,[[.isl (c.map.map eN),.isl (c.lat.map aJ),.osl 1 (nx+11) 0 3 3]]⟩:=by rw[hG1,aA.aC (by omega),aA.aC (by omega)];exact g13
  have d11:aHF (nx+11)=some ⟨1,3,aHE⟩:=by rw[hG1,hR2];exact aA.bH
  have db:aHF (nx1+13)=some ⟨7,m,pr.map eB⟩:=by rw[hG1,aA.aC (by omega)];exact aA.bH
  have dfr: ∀id,id<nx→aHF id=H id:=fun id hid=>by rw[hG1,aA.aC (by omega),aA.aC (by omega)];exact hfr id hid
  clear hG1 g1 g13 g11 hA
  refine aM.gP (β:=Nat) (fun j=>en [(35,dI j),(34,dI pr.length),(33,dS (pr.map eB)),(22,dI k),(21,dI 3),(20,dS (c.cP.map jR)),(4,dI k),(3,.one (.c (.ptr 3 (nx+13) 0 0))),(2,.one (.c (.ptr 3 (nx+1) 0 0)))])
   (fun j H2 _=>j≤pr.length∧H2 (nx+1)=some ⟨3,1,[[.osl 0 0 0 0 0,.osl 0 0 0 0 0,.osl 0 0 0 0 0]]⟩∧H2 (nx+13)=some ⟨3,1,[[.isl (c.map.map eN),.isl (c.lat.map aJ),.osl 1 (nx+11) 0 3 3]]⟩∧H2 (nx+11)=some ⟨1,3,aHE⟩∧H2 (nx1+13)=some ⟨7,m,pr.map eB⟩∧ ∀id,id<nx→H2 id=H id) (fun j=>pr.length-j) 0
   ⟨noF,_,by repeat' (first| (with_reducible first|exact C1|refine C2 ?_ ?_)| ((with_reducible refine C0 ?_);exact CE (by omega) rfl)| ((with_reducible refine D0 ?_);first|exact CA rfl|refine CJ ?_)|fail),aK,by omega,d1,d13,d11,db,dfr⟩ ?_
  clear d1 d13 d11 db dfr hfr
  rintro j H2 nx2 hnx2 ⟨hj,g1,g13,g11,gb,hfr⟩ KM hKM
  have hA:bQ nx2 [nx+1,nx+13,nx+11,nx1+13]:=AM.apart (by simp;omega) (by simp;omega)
  simp only[bQ,eZ] at hA
  by_cases hjl:j<pr.length
  ·obtain⟨q,hq⟩: ∃q,q=pr.getD j default:=⟨_,rfl⟩
   have hq':pr.getD j default=q:=hq.symm
   have hqo:=hpro q (by rw[hq];exact cC hjl)
   have hql:q.data.length<2^20∧q.lanes.length<2^20:=by
    have h4:=hqo.2.2.2.1
    have h5:=hqo.2.2.2.2.1
    have h6:=hqo.2.2.1.1
    unfold n5 at h4 h5
    split at h4<;>split at h5<;>omega
   repeat' (first| (with_reducible first| (refine hK _ _ _ ?_;clear hK K)| (refine hA ?_;clear hA hB A B)|refine Z1 ?_|refine Z2 ?_|refine Z3 fun KB hKB=> ?_|refine Z4 (by omega) ?_)| (with_reducible first|refine Y2 fun K hK=> ?_|refine Y3 fun A B hA hB=> ?_)<;>(simp only[go_sem,Nat.add_assoc,Nat.left_eq_add,Nat.add_eq_left,hq',g1,g13,g11,gb,hA,hR2k,hR2l])|refine⟨by omega,?_⟩|fail)
   refine aGS hql.1 hql.2 fun H3 nx3 hx3 ffr3=> ?_
   have e1:=(ffr3 (nx+1) (by omega)).trans ((aA.aC (by omega)).trans g1)
   have e13:=(ffr3 (nx+13) (by omega)).trans ((aA.aC (by omega)).trans g13)
   have e11:=(ffr3 (nx+11) (by omega)).trans ((aA.aC (by omega)).trans g11)
   have eb:=(ffr3 (nx1+13) (by omega)).trans ((aA.aC (by omega)).trans gb)
   have ef: ∀id,id<nx→H3 id=H id:=fun id hid=>(ffr3 id (by omega)).trans ((aA.aC (by omega)).trans (hfr id hid))
   have hjT:(pr.map eB)[j]?=some (eB q):=by rw[←hq'];exact atN hjl
   clear ffr3 hA
   simp only[go_sem,e13,e11,eb,hR2k,hjT]
   have hps:pr.set j q=pr:=by
    rw[hq]
    refine List.ext_getElem (by simp) fun i h1 h2=> ?_
    rw[List.getElem_set]
    split
    ·rename_i e;subst e;simp[List.getD,hjl]
    ·rfl
   rw[hps]
   refine⟨by omega,?_⟩
   refine hK _ _ _ ?_
   clear hK K
   repeat' (first| (with_reducible (refine hK _ _ _ ?_;clear hK K))| (with_reducible refine Y2 fun K hK=> ?_)<;>(simp only[go_sem];try simp (disch:=omega) only[Iw])| ((with_reducible refine Y0 ?_);simp only[AQ.then,AQ.blk])| (with_reducible refine hKB _ _ _ ?_)|fail)
   exact hKM _ _ _ (j+1) noF _ (by omega) (by omega) (by repeat' (first| (with_reducible first|exact C1|refine C2 ?_ ?_)| ((with_reducible refine C0 ?_);exact CE (by omega) rfl)| ((with_reducible refine D0 ?_);first|exact CA rfl|refine CJ ?_)|fail)) aK ⟨by omega,by rw[aA.aC (by omega)];exact e1,by rw[aA.aC (by omega)];exact e13,by rw[aA.aC (by omega)];exact e11,aA.bH,fun id hid=>by rw[aA.aC (by omega)];exact ef id hid⟩
  ·repeat' (first| (with_reducible first| (refine hK _ _ _ ?_;clear hK K)| (refine hB ?_;clear hA hB A B)|refine Z1 ?_|refine Z5 (by omega) ?_|refine hKY _ _ _ ?_)| (with_reducible first|refine Y2 fun K hK=> ?_|refine Y3 fun A B hA hB=> ?_)<;>(simp only[go_sem,g1,g13,g11,gb,hA,hR2k,hR2l];try simp (disch:=omega) only[Iw])| ((with_reducible refine Y9 ?_);try simp only[AQ.then,AQ.blk,reduceIte,Nat.reduceEqDiff])| ((with_reducible refine Y0 ?_);simp only[AQ.then,AQ.blk])| (with_reducible refine hKB _ _ _ ?_)|fail)
   have hw: ∀i,i≠nx1+13→without (fun t=>t=nx1+13) H2 i=H2 i:=fun i hi=>iI (F:=fun t=>t=nx1+13) hi
   refine hKL _ _ _ (k+1) (fun t=>t=nx1+13) ((without (fun t=>t=nx1+13) H2).set (nx+11) ⟨1,3,R (k+1)⟩) (by omega) (by omega) (by repeat' (first| (with_reducible first|exact C1|refine C2 ?_ ?_)| ((with_reducible refine C0 ?_);exact CE (by omega) rfl)| ((with_reducible refine D0 ?_);first|exact CA rfl|refine CJ ?_)|fail)) ?_ ⟨by omega,by rw[aA.aC (by omega),hw _ (by omega)];exact g1,by rw[aA.aC (by omega),hw _ (by omega)];exact g13,aA.bH,fun id hid=>by rw[aA.aC (by omega),hw _ (by omega)];exact hfr id hid⟩
   refine apO (t:=nx+11) (o':=⟨1,3,R (k+1)⟩) (fun i hi=> ?_) aA.bH g11 (by omega) (aHB (R:=R (k+1)) (i:=k) (r':=jR pr) rfl ?_ ?_ (hRi (k+1)) rfl (aH (bW rL gb rfl (Nat.le_refl _) rfl) eP)) fun i h1 h2=> ?_
   ·have:i=nx1+13:=hi
    rw[aA.aC (by omega)];exact if_pos hi
   ·rw[hR2,hRs k hlt,List.set_set]
   ·rw[hRs k hlt,hpr'];exact List.getElem?_set_self (by omega)
   ·rw[aA.aC h1,hw i h2]
 ·have hk3:k=3:=by omega
  subst hk3
  repeat' (first| (with_reducible first| (refine hK _ _ _ ?_;clear hK K)| (refine hB ?_;clear hA hB A B)|refine Z1 ?_|refine Z5 (by omega) ?_|refine hKX _ _ _ ?_)| (with_reducible first|refine Y2 fun K hK=> ?_|refine Y3 fun A B hA hB=> ?_)<;>(simp only[go_sem,Nat.add_assoc,Nat.left_eq_add,Nat.add_eq_left,g1,g13,g11])| ((with_reducible first|refine Y8 ?_|refine Y9 ?_);try simp only[AQ.then,AQ.blk,reduceIte,Nat.reduceEqDiff])|fail)
  have hR3:R 3=c.cP.map jR:=by rw[hR];dsimp only;rw[List.take_of_length_le (by omega)];simp
  refine hQ _ _ _ _ _ (.inr rfl) (fZ (m:=1) rfl aA.bH rfl) ⟨.one (.agg [.isl (c.map.map eN),.isl (c.lat.map aJ),.osl 1 (nx+11) 0 3 3]),_,noF,lY (aH (bB rfl) (aH (bB rfl) (aH (.osl _ _ _ _ _ (by omega)) eP))),aK,h _ _ (nx+11) (by omega) (by omega) (by omega) (by rw[aA.aC (by omega),←hR3];exact g11) fun id hid=>by rw[aA.aC (by omega)];exact hfr id hid⟩
end
end Go.Proofs.YtegiblhkjfiooaaGreat
end
