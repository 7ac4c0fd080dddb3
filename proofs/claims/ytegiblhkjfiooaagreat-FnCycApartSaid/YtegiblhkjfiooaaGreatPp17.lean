/- Texts laid together by a program: rules, contracts and the walk that leads to the law. -/
import Derived.Test.YtegiblhkjfiooaaGreatPp13
import Derived.Test.YtegiblhkjfiooaaGreatPp16
import Derived.Test.YtegiblhkjfiooaaGreatPp12
import Derived.Test.YtegiblhkjfiooaaGreatPp3
import Derived.Test.YtegiblhkjfiooaaGreatPp10
import Derived.Test.YtegiblhkjfiooaaGreatPp8
import Derived.Test.YtegiblhkjfiooaaGreatPp6
set_option linter.unusedVariables false
set_option linter.unusedSimpArgs false
set_option linter.unusedSectionVars false
section
namespace Go.AM
def jS (f:Nat→Int):Nat→Int
 |0=>0
 |n+1=>jS f n+f n
theorem KF {f:Nat→Int} {m:Int} (h0:0≤m): ∀n,(∀k,k<n→0≤f k∧f k≤m)→0≤jS f n∧jS f n≤m*n
 |0,_=>by simp[jS]
 |n+1,h=>by
  have h1:=KF h0 n fun k hk=>h k (by omega)
  have h2:=h n (by omega)
  have h3:m*((n+1:Nat):Int)=m*n+m:=by push_cast;rw[Int.mul_add,Int.mul_one]
  simp only[jS]
  omega
def vZ (i:CIn):Prop:=i.ready.length=3∧i.n9.length=4∧i.send.length=3
end Go.AM
namespace Go.Proofs.YtegiblhkjfiooaaGreat
open Go Go.AM
set_option maxRecDepth 100000
set_option maxHeartbeats 8000000
theorem VM:cJ Tryz.prog mW Tryz.f22 AN IC:=cJ.mk Tryz.func22 (by kernel_rfl) UM
section
variable {H : aA} {nx : Nat} {K : D → aA → Nat → Prop}
theorem XI (c:Cfg) (s:CSt) (hb:aQ c) (hcf:jO c) (hs:COk c s):aB Tryz.prog mW [dA (cU c),dA (eI s)] .nil 0 fun r _ _=>r.plain=true∧r=dB true:=by
 have hpl:=hs.pl
 have hsl:=hs.sl
 obtain⟨hwl,_,hhl,_⟩:=hs.atm
 have hat:=decide_eq_true (ZS hs.atm)
 have hbt:=decide_eq_true hb
 refine VM rfl fun Q hQ=> ?_
 unfold AN
 repeat' (first| (with_reducible first| (refine hK _ _ _ ?_;clear hK K)| (refine hB ?_;clear hA hB A B)|refine Z1 ?_|refine Z2 ?_|refine Z3 fun KB hKB=> ?_|refine Z5 (by omega) ?_)| (first| (with_reducible first|refine Y2 fun K hK=> ?_|refine Y3 fun A B hA hB=> ?_|refine Y5 (by omega) ?_)| (refine W6 hcf ?_)| (refine JZ (by omega) (by omega) (aE rfl) ?_))<;>(simp only[go_sem,eq_true hb,hat,hbt,hpl,hsl])|fail)
 (have hKX:=hKB;clear hKB)
 refine aM.abC fun G0 hG0=> ?_
 have c0:G0 0=some ⟨3,1,[cU c]⟩:=by rw[hG0];rfl
 have c1:G0 1=some ⟨5,1,[eI s]⟩:=by rw[hG0];rfl
 clear hG0
 obtain⟨fo,hfo⟩: ∃fo:Nat→Int,fo=fun k=>((aF s k).out.length:Int):=⟨_,rfl⟩
 obtain⟨fh,hfh⟩: ∃fh:Nat→Int,fh=fun k=>(((aL s k).pipe.length:Int)+(aL s k).done.length):=⟨_,rfl⟩
 refine aM.gP (β:=Nat) (fun k=>en [(35,dI k),(34,dI 3),(33,dS (s.bM.map cD)),(6,dI 0),(5,dI (jS fo k)),(3,.one (.c (.ptr 5 1 0 0))),(2,.one (.c (.ptr 3 0 0 0)))])
  (fun k H1 _=>k≤3∧ ∀id,id<30→H1 id=G0 id) (fun k=>3-k) 0 ⟨noF,_,by repeat' (first| (with_reducible first|exact C1|refine C2 ?_ ?_)| ((with_reducible refine C0 ?_);exact CE (by omega) rfl)| ((with_reducible refine D0 ?_);first|exact CA rfl|refine CJ ?_)|fail),aK,by omega,fun _ _=>rfl⟩ ?_
 rintro k H1 nx1 hnx ⟨hk,hfr⟩ KL hKL
 have g0:=(hfr 0 (by omega)).trans c0
 have g1:=(hfr 1 (by omega)).trans c1
 have hA:bQ nx1 [0,1]:=AM.apart (by simp) (by simp;omega)
 simp only[bQ,eZ] at hA
 have hs1:=KF (f:=fo) (m:=4) (by omega) k fun j hj=>by have:=(hs.port j (by omega)).ol;rw[hfo];dsimp only;omega
 by_cases hlt:k<3
 ·obtain⟨p,hpd⟩: ∃p,p=aF s k:=⟨_,rfl⟩
  have hpd':s.bM.getD k default=p:=hpd.symm
  have hpo:=hs.port k hlt
  rw[←hpd] at hpo
  have hol:=hpo.ol
  have hsum:jS fo (k+1)=jS fo k+p.out.length:=by rw[jS,hfo,hpd]
  have hKL1:=hKL
  repeat' (first| (with_reducible first| (refine hK _ _ _ ?_;clear hK K)| (refine hA ?_;clear hA hB A B)| (refine hB ?_;clear hA hB A B)|refine Z1 ?_|refine Z2 ?_|refine Z3 fun KB hKB=> ?_|refine Z4 (by omega) ?_)| (first| (with_reducible first|refine Y2 fun K hK=> ?_|refine Y3 fun A B hA hB=> ?_)| (refine FQ hb hlt hpo ?_))<;>(simp only[go_sem,Nat.add_assoc,Nat.left_eq_add,hpd',g0,g1,hA];try simp (disch:=omega) only[Iw])| ((with_reducible refine Y0 ?_);simp only[AQ.then,AQ.blk])|refine⟨by omega,?_⟩| (with_reducible refine hKB _ _ _ ?_)|fail)
  exact hKL _ _ _ (k+1) noF _ (by omega) (by omega) (by rw[hsum];repeat' (first| (with_reducible first|exact C1|refine C2 ?_ ?_)| ((with_reducible refine C0 ?_);exact CE (by omega) rfl)| ((with_reducible refine D0 ?_);first|exact CA rfl|refine CJ ?_)|fail)) aK ⟨by omega,fun id hid=>by rw[aA.aC (by omega)];exact hfr id hid⟩
 ·repeat' (first| (with_reducible first| (refine hK _ _ _ ?_;clear hK K)| (refine hB ?_;clear hA hB A B)|refine Z1 ?_|refine Z3 fun KB hKB=> ?_|refine Z5 (by omega) ?_|refine hKX _ _ _ ?_)| (with_reducible first|refine Y2 fun K hK=> ?_|refine Y3 fun A B hA hB=> ?_)<;>(simp only[go_sem,g0,g1,hsl])| ((with_reducible refine Y9 ?_);try simp only[AQ.then,AQ.blk,reduceIte,Nat.reduceEqDiff])|fail)
  have hk3:k=3:=by omega
  subst hk3
  (have hKY:=hKB;clear hKB)
  refine aM.gP (β:=Nat) (fun k=>en [(54,dI k),(53,dI 4),(52,dS (s.dD.map gF)),(6,dI (jS fh k)),(5,dI (jS fo 3)),(3,.one (.c (.ptr 5 1 0 0))),(2,.one (.c (.ptr 3 0 0 0)))])
   (fun k H1 _=>k≤4∧ ∀id,id<30→H1 id=G0 id) (fun k=>4-k) 0 ⟨noF,_,by repeat' (first| (with_reducible first|exact C1|refine C2 ?_ ?_)| ((with_reducible refine C0 ?_);exact CE (by omega) rfl)| ((with_reducible refine D0 ?_);first|exact CA rfl|refine CJ ?_)|fail),aK,by omega,hfr⟩ ?_
  clear hfr g0 g1 hA
  rintro k H2 nx2 hnx2 ⟨hk,hfr⟩ KM hKM
  have g0:=(hfr 0 (by omega)).trans c0
  have g1:=(hfr 1 (by omega)).trans c1
  have hA:bQ nx2 [0,1]:=AM.apart (by simp) (by simp;omega)
  simp only[bQ,eZ] at hA
  have hs2:=KF (f:=fh) (m:=4) (by omega) k fun j hj=>by have h1:=(hs.slv j (by omega)).pl;have h2:=(hs.slv j (by omega)).dl;rw[hfh];dsimp only;omega
  by_cases hlt:k<4
  ·obtain⟨v,hvd⟩: ∃v,v=aL s k:=⟨_,rfl⟩
   have hvd':s.dD.getD k default=v:=hvd.symm
   have hv1:=(hs.slv k hlt).pl
   have hv2:=(hs.slv k hlt).dl
   rw[←hvd] at hv1 hv2
   have hsum:jS fh (k+1)=jS fh k+(v.pipe.length+v.done.length):=by rw[jS,hfh,hvd]
   repeat' (first| (with_reducible first| (refine hK _ _ _ ?_;clear hK K)| (refine hA ?_;clear hA hB A B)| (refine hB ?_;clear hA hB A B)|refine Z1 ?_|refine Z2 ?_|refine Z3 fun KB hKB=> ?_|refine Z4 (by omega) ?_)| (first| (with_reducible first|refine Y2 fun K hK=> ?_|refine Y3 fun A B hA hB=> ?_)| (refine EL hb hs hlt ?_))<;>(simp only[go_sem,Nat.add_assoc,Nat.left_eq_add,hvd',g0,g1,hA];try simp (disch:=omega) only[Iw])| ((with_reducible refine Y0 ?_);simp only[AQ.then,AQ.blk])|refine⟨by omega,?_⟩| (with_reducible refine hKB _ _ _ ?_)|fail)
   exact hKM _ _ _ (k+1) noF _ (by omega) (by omega) (by rw[hsum];repeat' (first| (with_reducible first|exact C1|refine C2 ?_ ?_)| ((with_reducible refine C0 ?_);exact CE (by omega) rfl)| ((with_reducible refine D0 ?_);first|exact CA rfl|refine CJ ?_)|fail)) aK ⟨by omega,fun id hid=>by rw[aA.aC (by omega)];exact hfr id hid⟩
  ·have hk4:k=4:=by omega
   subst hk4
   have hct:jS fo 3=jS fh 4:=by
    have:=hs.count
    unfold hU at this
    rw[hfo,hfh]
    simp only[jS]
    omega
   have hct':(jS fo 3=jS fh 4)=True:=eq_true hct
   repeat' (first| (with_reducible first| (refine hK _ _ _ ?_;clear hK K)| (refine hB ?_;clear hA hB A B)|refine Z1 ?_|refine Z5 (by omega) ?_|refine hKY _ _ _ ?_)| (first| (with_reducible first|refine Y2 fun K hK=> ?_|refine Y3 fun A B hA hB=> ?_)| (refine T0 (c:=c) hb hs (fun H' nx' hx' ffr=> ?_)))<;>(simp only[go_sem,Nat.add_assoc,Nat.left_eq_add,g0,g1,hct',hA])| ((with_reducible refine Y9 ?_);try simp only[AQ.then,AQ.blk,reduceIte,Nat.reduceEqDiff])|fail)
   have e0:=(ffr 0 (by omega)).trans g0
   refine⟨fun _=>by rw[e0];rfl,?_⟩
   refine HQ hb hs.st ?_
   simp only[go_sem]
   repeat' (first| (with_reducible (refine hK _ _ _ ?_;clear hK K))| ((with_reducible refine Y8 ?_);try simp only[AQ.then,AQ.blk,reduceIte,Nat.reduceEqDiff])|fail)
   exact hQ _ _ _ _ _ (.inr rfl) rfl ⟨rfl,rfl⟩
theorem C5 {c:Cfg} {s:CSt} (hb:aQ c) (hcf:jO c) (hs:COk c s) (h:K (dB true) H nx):aB Tryz.prog mW [dA (cU c),dA (eI s)] H nx K:=
 (XI c s hb hcf hs).pure rfl (aI ⟨aE rfl,aE rfl,trivial⟩) fun r hr=>hr▸h
theorem YW (i:CIn) (hi:vZ i):aB Tryz.prog uJ [dA (eIn i)] .nil 0 fun rr _ _=>rr.plain=true∧rr=dB true:=by
 refine XL rfl fun Q hQ=> ?_
 unfold CT
 obtain⟨h1,h2,h3⟩:=hi
 have e1:((i.ready.length:Int)=3)=True:=eq_true (by omega)
 have e2:((i.n9.length:Int)=4)=True:=eq_true (by omega)
 have e3:((i.send.length:Int)=3)=True:=eq_true (by omega)
 have e4:decide ((i.send.length:Int)=3)=true:=by simp only[e3,decide_true]
 repeat' (first| (with_reducible first| (refine hK _ _ _ ?_;clear hK K)|refine Z1 ?_)| (with_reducible refine Y2 fun K hK=> ?_)<;>(simp only[go_sem,e1,e2,e3,e4])| ((with_reducible refine Y8 ?_);try simp only[AQ.then,AQ.blk,reduceIte,Nat.reduceEqDiff])|fail)
 all_goals first|with_reducible refine aZ hQ _ rfl rfl ?_|skip
 all_goals first|exact pD (by omega)|exact q9 (by omega)|exact j7 (by omega)|rfl
theorem NV {i:CIn} (hi:vZ i) (h:K (dB true) H nx):aB Tryz.prog uJ [dA (eIn i)] H nx K:=
 (YW i hi).pure rfl (aI ⟨aE rfl,trivial⟩) (fun r hr=>hr▸h)
end
end Go.Proofs.YtegiblhkjfiooaaGreat
end
section
namespace Go.Proofs.YtegiblhkjfiooaaGreat
open Go Go.AM
set_option maxRecDepth 100000
end Go.Proofs.YtegiblhkjfiooaaGreat
end
section
namespace Go.Proofs.YtegiblhkjfiooaaGreat
open Go Go.AM
set_option maxRecDepth 100000
set_option maxHeartbeats 8000000
section
variable {H : aA} {nx : Nat} {K : D → aA → Nat → Prop}
def aaT (n b len cap:Nat):D:=if len=0 then .one (.c .nil) else dO n b len cap
def hpN (b len:Nat) (o:bA):aA:=if len=0 then .nil else hp [(b,o)]
end
end Go.Proofs.YtegiblhkjfiooaaGreat
end
section
namespace Go.Proofs.YtegiblhkjfiooaaGreat
open Go Go.AM
set_option maxRecDepth 100000
set_option maxHeartbeats 8000000
section
variable {H : aA} {nx : Nat} {K : D → aA → Nat → Prop}
theorem QL:aB Tryz.prog oC [] (hp []) 0
 fun r H' n'=>n'=1∧H'=hp [(0,⟨1,64,(List.replicate 64 (0:Int)).map aJ⟩)]∧r=dA [.osl 1 0 0 64 64]:=by
 refine RT rfl fun Q hQ=> ?_
 unfold xL
 repeat' (first| (with_reducible first| (refine hK _ _ _ ?_;clear hK K)|refine Z1 ?_)| (with_reducible refine Y2 fun K hK=> ?_)<;>(simp only[go_sem])| ((with_reducible refine Y8 ?_);try simp only[AQ.then,AQ.blk,reduceIte,Nat.reduceEqDiff])|fail)
 (refine hQ _ _ _ _ _ 1 (dA [.osl 1 0 0 64 64]) (hp [(0,⟨1,64,(List.replicate 64 (0:Int)).map aJ⟩)]) _ _ (.inr rfl) rfl (fU [1] (by omega) (by repeat' (first| ((with_reducible refine C0 ?_);exact CQ (by omega) rfl rfl (by rfl) rfl)| ((with_reducible refine D0 ?_);refine C9 ?_)|exact C3|refine C4 ?_ ?_|fail)) ⟨⟨by simp,by simp[sgL],_,rfl,bP (aG bF _) rfl rfl⟩,trivial⟩ (by simp[sgL])) ?_)
 exact⟨rfl,rfl,rfl⟩
theorem PY (h:K (dA [.osl 1 nx 0 64 64]) (H.set nx ⟨1,64,(List.replicate 64 (0:Int)).map aJ⟩) (nx+1)):aB Tryz.prog oC [] H nx K:=by
 refine QL.AF (l0:=[]) [] rfl trivial trivial (by simp) (by simp) (by simp) fun r H' n' _ ⟨q1,q2,q3⟩=> ?_
 subst q1;subst q2;subst q3
 have e1:back (tau 0 nx (nth [])) (hp [(0,⟨1,64,(List.replicate 64 (0:Int)).map aJ⟩)]) 1 H=H.set nx ⟨1,64,(List.replicate 64 (0:Int)).map aJ⟩:=by
  simp only[back,hp,aA.set,tau,Nat.not_lt_zero,if_true,if_false,Nat.sub_zero,Nat.add_zero,Option.map_some,uB,aA.eL]
 rw[←e1] at h
 exact h
theorem QT:aB Tryz.prog n8 [] (hp []) 0
 fun r H' n'=>n'=2∧H'=hp [(0,⟨1,64,(List.replicate 64 (0:Int)).map aJ⟩),(1,⟨1,6,(List.replicate 6 (-1:Int)).map aJ⟩)]∧r=dA [.osl 1 0 0 64 64,.osl 1 1 0 6 6]:=by
 refine SY rfl fun Q hQ=> ?_
 unfold xV
 generalize hw0:List.replicate 64 (0:Int)=w0 at*
 have hmn: ∀{H:aA} {nx:Nat} {K:D→aA→Nat→Prop},K (dA [.osl 1 nx 0 64 64]) (H.set nx ⟨1,64,w0.map aJ⟩) (nx+1)→aB Tryz.prog oC [] H nx K:=fun h=>by subst hw0;exact PY h
 generalize hw1:List.replicate 6 (-1:Int)=w1 at*
 have hl1:w1.length=6:=by subst hw1;rfl
 have hrp: ∀{H:aA} {nx i0:Nat} {K:D→aA→Nat→Prop},i0<nx→H i0=some ⟨1,1,[[cI (-1)]]⟩→K (dO 1 nx 6 6) ((H.del i0).set nx ⟨1,6,w1.map aJ⟩) (nx+1)→aB Tryz.prog eJ [dO 1 i0 1 1,dI 6] H nx K:=fun h0 o0 h=>by subst hw1;exact zT h0 o0 h
 repeat' (first| (with_reducible first| (refine hK _ _ _ ?_;clear hK K)|refine Z1 ?_)| (first| (with_reducible refine Y2 fun K hK=> ?_)| (refine hmn ?_)| (refine hrp (by omega) rfl ?_))<;>(simp only[go_sem])| ((with_reducible refine Y8 ?_);try simp only[AQ.then,AQ.blk,reduceIte,Nat.reduceEqDiff])|fail)
 (refine hQ _ _ _ _ _ 2 (dA [.osl 1 0 0 64 64,.osl 1 1 0 6 6]) (hp [(0,⟨1,64,w0.map aJ⟩),(1,⟨1,6,w1.map aJ⟩)]) _ _ (.inr rfl) rfl (fU [6,7] (by omega) (by repeat' (first| ((with_reducible refine C0 ?_);exact CQ (by omega) rfl rfl (by rfl) rfl)| ((with_reducible refine D0 ?_);refine C9 ?_)|exact C3|refine C4 ?_ ?_|fail)) ⟨⟨by simp,by simp[sgL],_,rfl,bP (aG bF _) rfl rfl⟩,⟨by simp,by simp[sgL],_,rfl,bP (aG bF _) rfl rfl⟩,trivial⟩ (by simp[sgL])) ?_)
 exact⟨rfl,rfl,rfl⟩
theorem QG (h:K (dA [.osl 1 nx 0 64 64,.osl 1 (nx+1) 0 6 6]) ((H.set nx ⟨1,64,(List.replicate 64 (0:Int)).map aJ⟩).set (nx+1) ⟨1,6,(List.replicate 6 (-1:Int)).map aJ⟩) (nx+2)):aB Tryz.prog n8 [] H nx K:=by
 refine QT.AF (l0:=[]) [] rfl trivial trivial (by simp) (by simp) (by simp) fun r H' n' _ ⟨q1,q2,q3⟩=> ?_
 subst q1;subst q2;subst q3
 generalize List.replicate 64 (0:Int)=w0 at*
 generalize List.replicate 6 (-1:Int)=w1 at*
 have e1:back (tau 0 nx (nth [])) (hp [(0,⟨1,64,w0.map aJ⟩),(1,⟨1,6,w1.map aJ⟩)]) 2 H=(H.set nx ⟨1,64,w0.map aJ⟩).set (nx+1) ⟨1,6,w1.map aJ⟩:=by
  simp only[asR,hp,aA.set,tau,Nat.not_lt_zero,if_true,if_false,Nat.sub_zero,Nat.add_zero,Option.map_some,uB,aA.eL,Nat.zero_ne_one,Nat.one_ne_zero]
 rw[←e1] at h
 exact h
end
end Go.Proofs.YtegiblhkjfiooaaGreat
end
section
namespace Go.AM
theorem abY.frame {H H':aA} {nm:Nat→Nat} {s:CSt} {cells:List D1} (h:abY H nm s cells) (hf: ∀k,k<19→H' (nm k)=H (nm k)):abY H' nm s cells:=by
 obtain⟨⟨wc,hc,pc,vc,tc,q1,q2,q3,q4,q5⟩,⟨m,rows,j1,j2,j3⟩,⟨m',rows',j4,j5,j6⟩⟩:=h
 refine⟨⟨wc,hc,pc,vc,tc,q1,q2.frame (hf _ (by omega)),q3.frame (hf _ (by omega)),q4.frame (hf _ (by omega)),q5⟩,⟨m,rows,by rw[hf 2 (by omega)];exact j1,j2,fun k hk=> ?_⟩,⟨m',rows',by rw[hf 3 (by omega)];exact j4,j5,fun k hk=> ?_⟩⟩
 ·obtain⟨r,k1,k2⟩:=j3 k hk
  exact⟨r,k1,k2.frame (hf _ (by omega)) (hf _ (by omega))⟩
 ·obtain⟨r,k1,k2⟩:=j6 k hk
  exact⟨r,k1,k2.frame (hf _ (by omega)) (hf _ (by omega))⟩
theorem COk.sz {c:Cfg} {s:CSt} (hb:aQ c) (h:COk c s):CSz s:=by
 obtain⟨hwl,_,hhl,_⟩:=h.atm
 have htl:s.told.length≤36:=by have:=h.st.lens hb;simp only[cX] at this;omega
 have hd: ∀j∈s.told,j.rsp.data.length<2^20:=fun j hj=>by
  have:=(h.st.R8 j (List.mem_append_right _ hj)).1
  unfold pA at this;omega
 refine⟨h.pl,h.sl,by omega,by omega,⟨by omega,hd⟩,fun k hk=> ?_,fun k hk=> ?_⟩
 ·have h1:=(h.port k hk).ql;have h2:=(h.port k hk).ol;omega
 ·have h1:=(h.slv k hk).pl;have h2:=(h.slv k hk).dl
  refine⟨by omega,by omega,fun j hj=> ?_⟩
  have:=((h.slv k hk).rsp j hj).1
  unfold pA at this;omega
end Go.AM
namespace Go.Proofs.YtegiblhkjfiooaaGreat
open Go Go.AM
set_option maxRecDepth 100000
set_option maxHeartbeats 8000000
section
variable {H : aA} {nx : Nat} {K : D → aA → Nat → Prop}
end
end Go.Proofs.YtegiblhkjfiooaaGreat
end
section
namespace Go.AM
theorem aB.ao4 {P:Program} {f:FuncId} {args args':List D} {H:aA} {nx:Nat} {K:D→aA→Nat→Prop} (H':aA) (F:Nat→Prop) (hl:args.length=args'.length) (hA: ∀(i:Nat) (d0 d:D),args'[i]?=some d0→args[i]?=some d→CvD H F id nx d0 d) (hH:CvX F nx H H') (h:aB P f args' H' nx K):aB P f args H nx K:=by
 refine⟨h.1,fun c vs hs hN hlen hrel=> ?_⟩
 obtain⟨k1,k2⟩:=YO hs (Step.refl c H) hN hH
 refine(h.2 (c.conv nx nx id (c.frI H F)) vs k1 (fun i hi=> ?_) (by omega) fun i d v h1 h2=> ?_).mono ?_
 ·rcases hi with⟨_,hi⟩|⟨h1,h2,h3⟩
  ·exact hN i hi
  ·omega
 ·have hi:i<args.length:=by have:=(List.getElem?_eq_some_iff.1 h1).1;omega
  exact zD hs (fun b h=>.inl h) (fun id o h1 h2 h3=>.inr ⟨id,o,h1,h2,h3,rfl⟩) (fun _ _=>rfl) (hA i d _ h1 (List.getElem?_eq_getElem hi)) (hrel i _ v (List.getElem?_eq_getElem hi) h2)
 ·rintro x w' ⟨v,c2,r,H2,n2,rfl,rfl,p1,p2,p3,p4,p5,p6⟩
  refine⟨v,c2,r,H2,n2,rfl,rfl,p1,k2.trans p2,fun i hi=> ?_,p4,p5,p6⟩
  rcases p3 i hi with h|h
  ·rcases h with⟨_,hi⟩|⟨h1,h2,h3⟩
   ·exact .inl hi
   ·omega
  ·exact .inr h
open Classical in
noncomputable def without (F:Nat→Prop) (H:aA):aA:=fun j=>if F j then none else H j
theorem iI {F:Nat→Prop} {H:aA} {j:Nat} (h: ¬F j):without F H j=H j:=by unfold without;rw[if_neg h]
theorem kS {F:Nat→Prop} {H:aA} {nx:Nat}:CvX F nx H (without F H):=fun j x hj=>by
 by_cases h:F j
 ·unfold without at hj;rw[if_pos h] at hj;cases hj
 ·rw[iI h] at hj;exact⟨h,x,hj,.inl rfl⟩
end Go.AM
namespace Go.Proofs.YtegiblhkjfiooaaGreat
open Go Go.AM
set_option maxRecDepth 100000
set_option maxHeartbeats 8000000
theorem SZ:cJ Tryz.prog AA Tryz.f17 w7 E6:=cJ.mk Tryz.func17 (by kernel_rfl) R7
section
variable {H : aA} {nx : Nat} {K : D → aA → Nat → Prop}
end
end Go.Proofs.YtegiblhkjfiooaaGreat
end
section
namespace Go.Proofs.YtegiblhkjfiooaaGreat
open Go Go.AM
set_option maxRecDepth 100000
set_option maxHeartbeats 8000000
section
variable {H : aA} {nx : Nat} {K : D → aA → Nat → Prop}
theorem UC (h: ∀H' nx',nx≤nx'→(∀id,id<nx→H' id=H id)→K (dA (eI HY)) H' nx'):aB Tryz.prog AA [] H nx K:=by
 refine aB.tW ?_
 refine SZ rfl fun Q hQ=> ?_
 unfold w7
 have hsz:CSz HY:=⟨rfl,rfl,by simp[HY],by simp[HY],⟨by simp[HY],fun j hj=>by simp[HY] at hj⟩,fun k hk=>by rw[MX hk];simp,fun k hk=>by rw[K4 hk];simp⟩
 generalize hs:HY=s0 at*
 obtain⟨w0,hw0⟩: ∃w0,w0=List.replicate 64 (0:Int):=⟨_,rfl⟩
 obtain⟨w1,hw1⟩: ∃w1,w1=List.replicate 6 (-1:Int):=⟨_,rfl⟩
 have han: ∀{H:aA} {nx:Nat} {K:D→aA→Nat→Prop},K (dA [.osl 1 nx 0 64 64,.osl 1 (nx+1) 0 6 6]) ((H.set nx ⟨1,64,w0.map aJ⟩).set (nx+1) ⟨1,6,w1.map aJ⟩) (nx+2)→aB Tryz.prog n8 [] H nx K:=fun h=>QG (by rw[hw0,hw1] at h;exact h)
 have hl0:w0.length=64:=by rw[hw0];rfl
 have hl1:w1.length=6:=by rw[hw1];rfl
 have e1:s0.words=w0:=by rw[←hs,hw0];rfl
 have e2:s0.holds=w1:=by rw[←hs,hw1];rfl
 obtain⟨p0,hp0⟩: ∃p0:fR,p0=⟨0,[],[],3⟩:=⟨_,rfl⟩
 obtain⟨v0,hv0⟩: ∃v0:nY,v0=⟨[],[],2⟩:=⟨_,rfl⟩
 have e3:s0.bM=List.replicate 3 p0:=by rw[←hs,hp0];rfl
 have e4:s0.dD=List.replicate 4 v0:=by rw[←hs,hv0];rfl
 have e5:s0.told=[]:=by rw[←hs];rfl
 clear hw0 hw1
 repeat' (first| (with_reducible first| (refine hK _ _ _ ?_;clear hK K)|refine Z1 ?_|refine Z3 fun KB hKB=> ?_)| (first| (with_reducible refine Y2 fun K hK=> ?_)| (refine han ?_))<;>(simp only[go_sem,Nat.add_assoc,Nat.left_eq_add,Nat.add_eq_left])|fail)
 (have hKX:=hKB;clear hKB)
 refine aM.EJ 4 ?_
 refine aM.EJ 3 ?_
 refine aM.tW _ _ noF (fun t=>.inl rfl) (KO (i:=nx+3) (o:=⟨5,1,[[.osl 1 (nx+5) 0 64 64,.osl 1 (nx+6) 0 6 6,.osl 0 0 0 0 0,.osl 0 0 0 0 0,.osl 0 0 0 0 0]]⟩) (o':=⟨5,1,[[.osl 1 (nx+5) 0 64 64,.osl 1 (nx+6) 0 6 6,.osl 4 (nx+8) 0 0 0,.osl 3 (nx+9) 0 0 0,.osl 0 0 0 0 0]]⟩) (by simp only[aA.set,Nat.add_assoc,Nat.add_left_cancel_iff,Nat.reduceEqDiff,Nat.reduceAdd,if_false,if_true]) (aP (aH (.osl _ _ _ _ _ (by omega)) (aH (.osl _ _ _ _ _ (by omega)) (aH (.VS ..) (aH (.VS ..) (aH (.VS ..) eP))))))) ?_
 refine aM.TF fun G0 hG0=> ?_
 have c0:G0 nx=some ⟨5,1,[[.osl 0 0 0 0 0,.osl 0 0 0 0 0,.osl 0 0 0 0 0,.osl 0 0 0 0 0,.osl 0 0 0 0 0]]⟩:=by rw[hG0];simp only[aA.set,Nat.add_assoc,Nat.add_left_cancel_iff,Nat.reduceEqDiff,Nat.reduceAdd,Nat.left_eq_add,if_false,if_true]
 have c3:G0 (nx+3)=some ⟨5,1,[[.osl 1 (nx+5) 0 64 64,.osl 1 (nx+6) 0 6 6,.osl 4 (nx+8) 0 0 0,.osl 3 (nx+9) 0 0 0,.osl 0 0 0 0 0]]⟩:=by rw[hG0];exact aA.bH
 have c5:G0 (nx+5)=some ⟨1,64,w0.map aJ⟩:=by rw[hG0];simp only[aA.set,Nat.add_assoc,Nat.add_left_cancel_iff,Nat.reduceEqDiff,Nat.reduceAdd,Nat.left_eq_add,if_false,if_true]
 have c6:G0 (nx+6)=some ⟨1,6,w1.map aJ⟩:=by rw[hG0];simp only[aA.set,Nat.add_assoc,Nat.add_left_cancel_iff,Nat.reduceEqDiff,Nat.reduceAdd,Nat.left_eq_add,if_false,if_true]
 have c8:G0 (nx+8)=some ⟨4,0,[]⟩:=by rw[hG0];simp only[aA.set,Nat.add_assoc,Nat.add_left_cancel_iff,Nat.reduceEqDiff,Nat.reduceAdd,Nat.left_eq_add,if_false,if_true]
 have c9:G0 (nx+9)=some ⟨3,0,[]⟩:=by rw[hG0];simp only[aA.set,Nat.add_assoc,Nat.add_left_cancel_iff,Nat.reduceEqDiff,Nat.reduceAdd,Nat.left_eq_add,if_false,if_true]
 have cfr: ∀id,id<nx→G0 id=H id:=fun id hid=>by
  rw[hG0];simp only[aA.set,Nat.add_assoc,Nat.reduceAdd,show ¬id=nx by omega,show ¬id=nx+3 by omega,show ¬id=nx+5 by omega,show ¬id=nx+6 by omega,show ¬id=nx+8 by omega,show ¬id=nx+9 by omega,if_false]
 clear hG0
 refine aM.gP (β:=Nat×Nat×Nat) (fun u=>en [(4,dI u.1),(1,.one (.c (.ptr 5 (nx+3) 0 0))),(0,.one (.c (.ptr 5 nx 0 0)))])
  (fun u H1 nx1=>u.1≤3∧H1 (nx+3)=some ⟨5,1,[[.osl 1 (nx+5) 0 64 64,.osl 1 (nx+6) 0 6 6,.osl 4 u.2.1 0 u.1 u.2.2,.osl 3 (nx+9) 0 0 0,.osl 0 0 0 0 0]]⟩∧(∃mp,H1 u.2.1=some ⟨4,mp,(List.replicate u.1 p0).map cD⟩∧u.1≤u.2.2∧u.2.2≤mp)∧(nx+8≤u.2.1∧u.2.1<nx1∧u.2.1≠nx+9)∧ ∀id,id<nx+10→id≠nx+3→id≠nx+8→H1 id=G0 id)
  (fun u=>3-u.1) (0,nx+8,0) ⟨noF,_,by repeat' (first| (with_reducible first|exact C1|refine C2 ?_ ?_)| ((with_reducible refine C0 ?_);exact CE (by omega) rfl)| ((with_reducible refine D0 ?_);first|exact CA rfl|refine CJ ?_)|fail),aK,by dsimp only;omega,c3,⟨0,c8,Nat.le_refl _,Nat.le_refl _⟩,by dsimp only;omega,fun _ _ _ _=>rfl⟩ ?_
 rintro⟨k,ip,cp⟩ H1 nx1 hnx ⟨hk,aAD,⟨mp,ap,ap1,ap2⟩,aa,hfr⟩ KL hKL
 dsimp only at hk aAD ap ap1 ap2 aa
 have hA:bQ nx1 [nx,nx+3,nx+9,ip]:=AM.apart (by simp;omega) (by simp;omega)
 simp only[bQ,eZ] at hA
 by_cases hlt:k<3
 ·obtain⟨P,hP⟩: ∃P,P=List.replicate k p0:=⟨_,rfl⟩
  have hPl:P.length=k:=by rw[hP];simp
  rw[←hP] at ap
  rw[←hPl] at aAD
  repeat' (first| (with_reducible first| (refine hK _ _ _ ?_;clear hK K)| (refine hA ?_;clear hA hB A B)|refine Z1 ?_|refine Z2 ?_|refine Z3 fun KB hKB=> ?_|refine Z4 (by omega) ?_|refine fun(cap:Nat) (hcap:_≤cap)=> ?_|refine fun(hcp:_≤cap)=> ?_)| (with_reducible first|refine Y2 fun K hK=> ?_|refine Y3 fun A B hA hB=> ?_)<;>(simp only[go_sem,Nat.add_assoc,Nat.left_eq_add,Nat.add_eq_left,aAD,ap,hA,List.set];try simp (disch:=omega) only[Iw])| ((with_reducible refine Y0 ?_);simp only[AQ.then,AQ.blk])|refine⟨by omega,?_⟩| (with_reducible refine hKB _ _ _ ?_)|fail)
  have hre:List.replicate (k+1) p0=P++[p0]:=by rw[hP,List.replicate_succ']
  refine af0 (K:=KL) fun G hG=> ?_
  refine hKL _ _ _ (k+1,nx1+5,cap) noF _ (by omega) (by dsimp only;omega) (by repeat' (first| (with_reducible first|exact C1|refine C2 ?_ ?_)| ((with_reducible refine C0 ?_);exact CE (by omega) rfl)| ((with_reducible refine D0 ?_);first|exact CA rfl|refine CJ ?_)|fail)) (KO (i:=nx1+5) (o':=⟨4,cap,(P++[p0]).map cD⟩) (by rw[hG,aA.aC (by omega)];exact aA.bH) (uO (R:=P.map cD) (r':=cD p0) (by rw[List.map_append];rfl) rfl (fun r hr=>(aG t7 _ r hr).2) rfl (by rw[hp0];exact aH (bB rfl) (aH (.frz (.nil ..)) (aH (.frz (.nil ..)) (aH (bB rfl) eP)))))) ⟨by dsimp only;omega,?_,⟨cap,by dsimp only;rw[hre];exact aA.bH,by dsimp only;omega,Nat.le_refl _⟩,by dsimp only;omega,fun id f0 f1 f2=> ?_⟩
  ·dsimp only
   rw[aA.aC (by omega),hG,aA.bH,hPl]
  ·rw[aA.aC (by omega),hG,aA.aC f1,aA.aC (by omega),aA.aC (by omega),aA.jG (by omega)]
   exact hfr id f0 f1 f2
 ·repeat' (first| (with_reducible first| (refine hK _ _ _ ?_;clear hK K)| (refine hB ?_;clear hA hB A B)|refine Z1 ?_|refine Z3 fun KB hKB=> ?_|refine Z5 (by omega) ?_|refine hKX _ _ _ ?_)| (with_reducible first|refine Y2 fun K hK=> ?_|refine Y3 fun A B hA hB=> ?_)<;>(simp only[go_sem])| ((with_reducible refine Y9 ?_);try simp only[AQ.then,AQ.blk,reduceIte,Nat.reduceEqDiff])|fail)
  have hk3:k=3:=by omega
  subst hk3
  have b9:=(hfr (nx+9) (by omega) (by omega) (by omega)).trans c9
  clear hA
  (have hKY:=hKB;clear hKB)
  refine aM.gP (β:=Nat×Nat×Nat) (fun u=>en [(13,dI u.1),(1,.one (.c (.ptr 5 (nx+3) 0 0))),(0,.one (.c (.ptr 5 nx 0 0)))])
   (fun u H2 nx2=>u.1≤4∧H2 (nx+3)=some ⟨5,1,[[.osl 1 (nx+5) 0 64 64,.osl 1 (nx+6) 0 6 6,.osl 4 ip 0 3 cp,.osl 3 u.2.1 0 u.1 u.2.2,.osl 0 0 0 0 0]]⟩∧(∃mp,H2 u.2.1=some ⟨3,mp,(List.replicate u.1 v0).map gF⟩∧u.1≤u.2.2∧u.2.2≤mp)∧(nx+8≤u.2.1∧u.2.1<nx2∧u.2.1≠ip)∧H2 ip=some ⟨4,mp,(List.replicate 3 p0).map cD⟩∧ ∀id,id<nx+8→id≠nx+3→H2 id=G0 id)
   (fun u=>4-u.1) (0,nx+9,0) ⟨noF,_,by repeat' (first| (with_reducible first|exact C1|refine C2 ?_ ?_)| ((with_reducible refine C0 ?_);exact CE (by omega) rfl)| ((with_reducible refine D0 ?_);first|exact CA rfl|refine CJ ?_)|fail),aK,by dsimp only;omega,aAD,⟨0,b9,Nat.le_refl _,Nat.le_refl _⟩,by dsimp only;omega,ap,fun id f0 f1=>hfr id (by omega) f1 (by omega)⟩ ?_
  rintro⟨k,iv,cv⟩ H2 nx2 hnx2 ⟨hk,b3,⟨mv,bp,bp1,bp2⟩,ba,bip,hfr2⟩ KM hKM
  dsimp only at hk b3 bp bp1 bp2 ba
  have hA2:bQ nx2 [nx,nx+3,ip,iv]:=AM.apart (by simp;omega) (by simp;omega)
  simp only[bQ,eZ] at hA2
  by_cases hlt:k<4
  ·obtain⟨P,hP⟩: ∃P,P=List.replicate k v0:=⟨_,rfl⟩
   have hPl:P.length=k:=by rw[hP];simp
   rw[←hP] at bp
   rw[←hPl] at b3
   repeat' (first| (with_reducible first| (refine hK _ _ _ ?_;clear hK K)| (refine hA ?_;clear hA hB A B)|refine Z1 ?_|refine Z2 ?_|refine Z3 fun KB hKB=> ?_|refine Z4 (by omega) ?_|refine fun(cap:Nat) (hcap:_≤cap)=> ?_|refine fun(hcp:_≤cap)=> ?_)| (with_reducible first|refine Y2 fun K hK=> ?_|refine Y3 fun A B hA hB=> ?_)<;>(simp only[go_sem,Nat.add_assoc,Nat.left_eq_add,Nat.add_eq_left,b3,bp,hA2,List.set];try simp (disch:=omega) only[Iw])| ((with_reducible refine Y0 ?_);simp only[AQ.then,AQ.blk])|refine⟨by omega,?_⟩| (with_reducible refine hKB _ _ _ ?_)|fail)
   have hre:List.replicate (k+1) v0=P++[v0]:=by rw[hP,List.replicate_succ']
   refine af0 (K:=KM) fun G hG=> ?_
   refine hKM _ _ _ (k+1,nx2+5,cap) noF _ (by omega) (by dsimp only;omega) (by repeat' (first| (with_reducible first|exact C1|refine C2 ?_ ?_)| ((with_reducible refine C0 ?_);exact CE (by omega) rfl)| ((with_reducible refine D0 ?_);first|exact CA rfl|refine CJ ?_)|fail)) (KO (i:=nx2+5) (o':=⟨3,cap,(P++[v0]).map gF⟩) (by rw[hG,aA.aC (by omega)];exact aA.bH) (uO (R:=P.map gF) (r':=gF v0) (by rw[List.map_append];rfl) rfl (fun r hr=>(aG zJ _ r hr).2) rfl (by rw[hv0];exact aH (.frz (.nil ..)) (aH (.frz (.nil ..)) (aH (bB rfl) eP))))) ⟨by dsimp only;omega,?_,⟨cap,by dsimp only;rw[hre];exact aA.bH,by dsimp only;omega,Nat.le_refl _⟩,by dsimp only;omega,?_,fun id f0 f1=> ?_⟩
   ·dsimp only
    rw[aA.aC (by omega),hG,aA.bH,hPl]
   ·rw[aA.aC (by omega),hG,aA.aC (by omega),aA.aC (by omega),aA.aC (by omega),aA.jG (by omega)]
    exact bip
   ·rw[aA.aC (by omega),hG,aA.aC f1,aA.aC (by omega),aA.aC (by omega),aA.jG (by omega)]
    exact hfr2 id f0 f1
  ·have hk4:k=4:=by omega
   subst hk4
   repeat' (first| (with_reducible first| (refine hK _ _ _ ?_;clear hK K)| (refine hB ?_;clear hA hB A B)|refine Z1 ?_|refine Z5 (by omega) ?_|refine hKY _ _ _ ?_)| (with_reducible first|refine Y2 fun K hK=> ?_|refine Y3 fun A B hA hB=> ?_)<;>(simp only[go_sem,b3])| ((with_reducible refine Y9 ?_);try simp only[AQ.then,AQ.blk,reduceIte,Nat.reduceEqDiff])|fail)
   have f5:=(hfr2 (nx+5) (by omega) (by omega)).trans c5
   have f6:=(hfr2 (nx+6) (by omega) (by omega)).trans c6
   have f0:=(hfr2 nx (by omega) (by omega)).trans c0
   refine aB.ao4 (args':=[dA (eI s0)]) (without (fun j=>j=nx+5∨j=nx+6∨j=ip∨j=iv) H2) (fun j=>j=nx+5∨j=nx+6∨j=ip∨j=iv) rfl (fun i d0 d h1 h2=> ?_) kS ?_
   ·match i with
    |0=>
     simp only[List.getElem?_cons_zero,Option.some.injEq] at h1 h2
     subst h1;subst h2
     have heS:eI s0=[.isl (w0.map aJ),.isl (w1.map aJ),.isl ((List.replicate 3 p0).map cD),.isl ((List.replicate 4 v0).map gF),.isl []]:=by
      unfold eI;rw[e1,e2,e3,e4,e5];rfl
     rw[heS]
     exact lY (aH (bW bF f5 hl0.symm (by omega) (.inl rfl)) (aH (bW bF f6 hl1.symm (by omega) (.inr (.inl rfl))) (aH (bW t7 bip (by simp) (by simp;omega) (.inr (.inr (.inl rfl)))) (aH (bW zJ bp (by simp) (by simp;omega) (.inr (.inr (.inr rfl)))) (aH (.frz (.nil ..)) eP)))))
    |i+1=>simp at h1
   refine fJ hsz fun H3 nx3 nm3 cells3 hx3 hR3 hP3 ffr3=> ?_
   have hcl3:cells3.length=5:=by obtain⟨_,_,_,_,_,rfl,_⟩:=hR3.ex;rfl
   have hrow3:cells3++List.drop cells3.length [D1.osl 0 0 0 0 0,.osl 0 0 0 0 0,.osl 0 0 0 0 0,.osl 0 0 0 0 0,.osl 0 0 0 0 0]=cells3:=by rw[hcl3];simp
   have g0:H3 nx=some ⟨5,1,[[.osl 0 0 0 0 0,.osl 0 0 0 0 0,.osl 0 0 0 0 0,.osl 0 0 0 0 0,.osl 0 0 0 0 0]]⟩:=by
    rw[ffr3 _ (by omega),iI (by omega)];exact f0
   simp only[go_sem,g0]
   refine⟨hcl3,by omega,?_⟩
   rw[hrow3]
   refine hK _ _ _ ?_
   clear hK K
   repeat' (first| ((with_reducible refine Y8 ?_);try simp only[AQ.then,AQ.blk,reduceIte,Nat.reduceEqDiff])|fail)
   refine hQ _ _ _ _ _ (.inr rfl) (fZ rfl aA.bH hcl3) ⟨dA (eI s0),_,fun j=>∃k,k<19∧j=nm3 k,?_,kS,h _ _ (by omega) fun id hid=> ?_⟩
   ·exact lY (A8 ((hR3.frame fun k hk=>aA.aC (by have:=hP3.rng k hk;omega)).VI (fun k hk=>⟨k,hk,rfl⟩) hsz.pl hsz.sl))
   ·rw[iI (fun⟨k,hk,he⟩=>by have:=hP3.rng k hk;omega),aA.aC (by omega),ffr3 _ (by omega),iI (by omega),hfr2 id (by omega) (by omega)]
    exact cfr id hid
end
end Go.Proofs.YtegiblhkjfiooaaGreat
end
section
namespace Go.Proofs.YtegiblhkjfiooaaGreat
open Go Go.AM
set_option maxRecDepth 100000
set_option maxHeartbeats 8000000
section
variable {H : aA} {nx : Nat} {K : D → aA → Nat → Prop}
theorem U9 (a b:List fC) (ha:a.length<2^40) (hb:b.length<2^40):aB Tryz.prog oJ [dS (a.map eCJ),dS (b.map eCJ)] .nil 0 fun rr _ _=>rr.plain=true∧rr=dB (decide (a=b)):=by
 refine R4 rfl fun Q hQ=> ?_
 unfold xH
 by_cases hl:a.length=b.length
 ·repeat' (first| (with_reducible first| (refine hK _ _ _ ?_;clear hK K)| (refine hB ?_;clear hA hB A B)|refine Z1 ?_|refine Z2 ?_|refine Z3 fun KB hKB=> ?_|refine Z5 (by omega) ?_)| (with_reducible first|refine Y2 fun K hK=> ?_|refine Y3 fun A B hA hB=> ?_)<;>(simp only[go_sem])|fail)
  (have hKX:=hKB;clear hKB);(refine aM.loop (α:={k:Nat//k≤a.length∧(∀i,i<k→a.getD i default=b.getD i default)}) (fun u=>en [(5,dI u.1),(1,dS (b.map eCJ)),(0,dS (a.map eCJ))]) (fun _=>.nil) _ (fun u=>a.length-u.1) ⟨0,by omega,(by intros;first|trivial|omega)⟩ (bU (Nat.le_refl _) (by repeat' (first| (with_reducible first|exact C1|refine C2 ?_ ?_)| ((with_reducible refine D0 ?_);exact CA rfl)|fail))) ?_);(rintro⟨k,hk,hinv⟩ KL hKL)
  by_cases hlt:k<a.length
  ·have h1:xY (eCJ (a.getD k default))=some [(a.getD k default).who,(a.getD k default).n,(a.getD k default).left]:=rfl
   have h2:xY (eCJ (b.getD k default))=some [(b.getD k default).who,(b.getD k default).n,(b.getD k default).left]:=rfl
   have hne: ¬a.getD k default=b.getD k default→¬a=b:=fun h1 h2=>h1 (by rw[h2])
   have heq:[(a.getD k default).who,(a.getD k default).n,(a.getD k default).left]=[(b.getD k default).who,(b.getD k default).n,(b.getD k default).left]↔a.getD k default=b.getD k default:=by
    generalize a.getD k default=x
    generalize b.getD k default=y
    obtain⟨x1,x2,x3⟩:=x;obtain⟨y1,aHC,aHD⟩:=y
    simp
   generalize hX:[(a.getD k default).who,(a.getD k default).n,(a.getD k default).left]=X at*
   generalize hY:[(b.getD k default).who,(b.getD k default).n,(b.getD k default).left]=Y at*
   by_cases hXY:X=Y
   ·have hf:(¬X=Y)=False:=eq_false (Classical.not_not.2 hXY)
    repeat' (first| (with_reducible first| (refine hK _ _ _ ?_;clear hK K)| (refine hA ?_;clear hA hB A B)| (refine hB ?_;clear hA hB A B)|refine Z1 ?_|refine Z2 ?_|refine Z3 fun KB hKB=> ?_|refine Z4 (by omega) ?_)| (with_reducible first|refine Y2 fun K hK=> ?_|refine Y3 fun A B hA hB=> ?_)<;>(simp only[go_sem,h1,h2,hXY];try simp (disch:=omega) only[Iw])| ((with_reducible refine Y0 ?_);simp only[AQ.then,AQ.blk])|refine⟨by omega,?_⟩| (with_reducible refine hKB _ _ _ ?_)|fail)
    (refine hKL _ _ _ ⟨k+1,by omega,iS hinv (heq.1 hXY)⟩ (by omega) (by(try dsimp only);omega) (bU (Nat.le_refl _) (by repeat' (first| (with_reducible first|exact C1|refine C2 ?_ ?_)| ((with_reducible refine D0 ?_);exact CA rfl)|fail))))
   ·have hf:(X=Y)=False:=eq_false hXY
    repeat' (first| (with_reducible first| (refine hK _ _ _ ?_;clear hK K)| (refine hA ?_;clear hA hB A B)|refine Z1 ?_|refine Z2 ?_|refine Z3 fun KB hKB=> ?_|refine Z4 (by omega) ?_)| (with_reducible first|refine Y2 fun K hK=> ?_|refine Y3 fun A B hA hB=> ?_)<;>(simp only[go_sem,h1,h2,hf])| ((with_reducible refine Y8 ?_);try simp only[AQ.then,AQ.blk,reduceIte,Nat.reduceEqDiff])|refine⟨by omega,?_⟩|fail)
    refine aZ hQ _ rfl rfl (j7 (hne fun he=>hXY (heq.2 he)))
  ·repeat' (first| (with_reducible first| (refine hK _ _ _ ?_;clear hK K)| (refine hB ?_;clear hA hB A B)|refine Z1 ?_|refine Z5 (by omega) ?_|refine hKX _ _ _ ?_)| (with_reducible first|refine Y2 fun K hK=> ?_|refine Y3 fun A B hA hB=> ?_)<;>(simp only[go_sem])| ((with_reducible first|refine Y8 ?_|refine Y9 ?_);try simp only[AQ.then,AQ.blk,reduceIte,Nat.reduceEqDiff])|fail)
   refine aZ hQ _ rfl rfl (q9 (yO hl fun i hi=>hinv i (by omega)))
 ·repeat' (first| (with_reducible first| (refine hK _ _ _ ?_;clear hK K)| (refine hA ?_;clear hA hB A B)|refine Z1 ?_|refine Z4 (by omega) ?_)| (with_reducible first|refine Y2 fun K hK=> ?_|refine Y3 fun A B hA hB=> ?_)<;>(simp only[go_sem])| ((with_reducible refine Y8 ?_);try simp only[AQ.then,AQ.blk,reduceIte,Nat.reduceEqDiff])|fail)
  refine aZ hQ _ rfl rfl (j7 fun he=>hl (by rw[he]))
theorem IH {a:List fC} {b:List fC} (ha:a.length<2^40) (hb:b.length<2^40) (h:K (dB (decide (a=b))) H nx):aB Tryz.prog oJ [dS (a.map eCJ),dS (b.map eCJ)] H nx K:=
 (U9 a b ha hb).pure rfl (aI ⟨aE rfl,aE rfl,trivial⟩) (fun r hr=>hr▸h)
end
end Go.Proofs.YtegiblhkjfiooaaGreat
end
section
namespace Go.Proofs.YtegiblhkjfiooaaGreat
open Go Go.AM
set_option maxRecDepth 100000
set_option maxHeartbeats 8000000
theorem PB:cJ Tryz.prog FO Tryz.f23 vJ DL:=cJ.mk Tryz.func23 (by kernel_rfl) O7
section
variable {H : aA} {nx : Nat} {K : D → aA → Nat → Prop}
theorem ajU {c:Cfg} {s:CSt} {i:CIn} (hb:aQ c) (hcf:jO c) (hs:COk c s) (hi:vZ i)
 (h: ∀H' nx',nx≤nx'→(∀id,id<nx→H' id=H id)→K (dA (eI (vF c i s))) H' nx'):aB Tryz.prog FO [dA (cU c),dA (eI s),dA (eIn i)] H nx K:=by
 refine aB.tW ?_
 refine PB rfl fun Q hQ=> ?_
 unfold vJ
 repeat' (first| (with_reducible first| (refine hK _ _ _ ?_;clear hK K)| (refine hB ?_;clear hA hB A B)|refine Z1 ?_|refine Z2 ?_)| (first| (with_reducible first|refine Y2 fun K hK=> ?_|refine Y3 fun A B hA hB=> ?_)| (refine C5 hb hcf hs ?_)| (refine NV hi ?_)| (refine fJ (hs.sz hb) (fun H' nx' nm cells hx hR hP ffr=> ?_)))<;>(simp only[go_sem,Nat.add_assoc,Nat.left_eq_add,Nat.add_eq_left])|fail)
 have hcl:cells.length=5:=by obtain⟨_,_,_,_,_,rfl,_⟩:=hR.ex;rfl
 have hrow:cells++List.drop cells.length [D1.osl 0 0 0 0 0,.osl 0 0 0 0 0,.osl 0 0 0 0 0,.osl 0 0 0 0 0,.osl 0 0 0 0 0]=cells:=by rw[hcl];simp
 refine⟨hcl,by omega,?_⟩
 rw[hrow]
 refine hK _ _ _ ?_
 clear hK K
 refine aM.TF fun G0 hG0=> ?_
 have gfr: ∀id,id<nx+4→G0 id=H' id:=fun id hid=>by
  rw[hG0,aA.aC (by omega)]
 have c0:G0 nx=some ⟨3,1,[cU c]⟩:=by rw[gfr _ (by omega),ffr _ (by omega)];simp only[aA.set,Nat.left_eq_add,Nat.reduceEqDiff,if_false,if_true,Nat.one_ne_zero,reduceIte]
 have c2:G0 (nx+2)=some ⟨3,1,[eIn i]⟩:=by rw[gfr _ (by omega),ffr _ (by omega)];simp only[aA.set,Nat.add_left_cancel_iff,Nat.reduceEqDiff,Nat.add_eq_left,if_false,if_true,reduceIte]
 have c3:G0 (nx+3)=some ⟨5,1,[[.osl 0 0 0 0 0,.osl 0 0 0 0 0,.osl 0 0 0 0 0,.osl 0 0 0 0 0,.osl 0 0 0 0 0]]⟩:=by rw[gfr _ (by omega),ffr _ (by omega)];simp only[aA.set,Nat.add_left_cancel_iff,Nat.reduceEqDiff,Nat.add_eq_left,if_false,if_true,reduceIte]
 have glo: ∀id,id<nx→G0 id=H id:=fun id hid=>by
  rw[gfr _ (by omega),ffr _ (by omega)];simp only[aA.set,show ¬id=nx by omega,show ¬id=nx+1 by omega,show ¬id=nx+2 by omega,show ¬id=nx+3 by omega,if_false]
 have gR:Rep (fun id=>id<nx+4) G0 nx' (nx+15) nm s:=by
  have hlo:=fun k hk=>hP.rng k hk
  refine⟨⟨cells,by rw[hG0];exact aA.bH,hR.frame fun k hk=>by have:=hlo k hk;rw[hG0,aA.aC (by omega)]⟩,⟨hP.inj,fun k hk=>by have:=hlo k hk;omega,fun k hk hn=>by have:=hlo k hk;omega⟩,fun k hk=>by have:=hlo k hk;omega,⟨by omega,by omega⟩,fun id hid=>by omega⟩
 clear hG0 hR hP ffr gfr
 have hA:bQ nx' [nx,nx+2]:=AM.apart (by simp) (by simp;omega)
 simp only[bQ,eZ] at hA
 repeat' (first| (with_reducible refine Z1 ?_)| (with_reducible refine Y2 fun K hK=> ?_)<;>(simp only[go_sem,Nat.add_assoc,Nat.left_eq_add,c0,c2,hA])|fail)
 refine tX (X:=fun id=>id<nx+4) hb hs hi (gR.frame (by omega) rfl (fun _ _=>rfl) fun id hid2=>⟨by omega,by omega,fun k hk he=>gR.names.av k hk (he▸hid2)⟩) fun H2 nx2 nm2 a b d e hx2 hR2 hX2=> ?_
 have hS:COk c (vF c i s):=PN hb hs
 generalize vF c i s=S at*
 obtain⟨cells2,hst,hRL⟩:=hR2.st
 obtain⟨wc,hc,pc,vc,tc,hce,_⟩:=hRL.ex
 have hst2:=hst
 rw[hce] at hst2
 unfold U2 at hst2
 simp only[go_sem]
 repeat' (first| (with_reducible first| (refine hK _ _ _ ?_;clear hK K)|refine Z1 ?_)| (with_reducible refine Y2 fun K hK=> ?_)<;>(simp only[go_sem,hst2])|fail)
 have hn1:=hR2.names.lt
 refine aB.ao4 (args':=[dA (eI S)]) (without (fun j=>∃k,k<19∧j=nm2 k) H2) (fun j=>∃k,k<19∧j=nm2 k) rfl (fun i d0 d h1 h2=> ?_) kS ?_
 ·match i with
  |0=>
   simp only[List.getElem?_cons_zero,Option.some.injEq] at h1 h2
   subst h1;subst h2
   have:=A8 (σ:=id) (nh:=nx2+3) (hRL.VI (F:=fun j=>∃k,k<19∧j=nm2 k) (fun k hk=>⟨k,hk,rfl⟩) hS.pl hS.sl)
   rw[hce] at this
   exact lY this
  |i+1=>simp at h1
 refine fJ (hS.sz hb) fun H3 nx3 nm3 cells3 hx3 hR3 hP3 ffr3=> ?_
 have hcl3:cells3.length=5:=by obtain⟨_,_,_,_,_,rfl,_⟩:=hR3.ex;rfl
 have hrow3:cells3++List.drop cells3.length [D1.osl 0 0 0 0 0,.osl 0 0 0 0 0,.osl 0 0 0 0 0,.osl 0 0 0 0 0,.osl 0 0 0 0 0]=cells3:=by rw[hcl3];simp
 have e3:H3 (nx+3)=some ⟨5,1,[[.osl 0 0 0 0 0,.osl 0 0 0 0 0,.osl 0 0 0 0 0,.osl 0 0 0 0 0,.osl 0 0 0 0 0]]⟩:=by
  rw[ffr3 _ (by omega),iI (fun⟨k,hk,he⟩=>hR2.names.av k hk (show nm2 k<nx+4 by omega)),hX2 _ (show nx+3<nx+4 by omega)];exact c3
 simp only[go_sem,e3]
 refine⟨hcl3,by omega,?_⟩
 rw[hrow3]
 refine hK _ _ _ ?_
 clear hK K
 repeat' (first| ((with_reducible refine Y8 ?_);try simp only[AQ.then,AQ.blk,reduceIte,Nat.reduceEqDiff])|fail)
 refine hQ _ _ _ _ _ (.inr rfl) (fZ rfl aA.bH hcl3) ⟨dA (eI S),_,fun j=>∃k,k<19∧j=nm3 k,?_,kS,h _ _ (by omega) fun id hid=> ?_⟩
 ·exact lY (A8 ((hR3.frame fun k hk=>aA.aC (by have:=hP3.rng k hk;omega)).VI (fun k hk=>⟨k,hk,rfl⟩) hS.pl hS.sl))
 ·rw[iI (fun⟨k,hk,he⟩=>by have:=hP3.rng k hk;omega),aA.aC (by omega),ffr3 _ (by omega),iI (fun⟨k,hk,he⟩=>hR2.names.av k hk (show nm2 k<nx+4 by omega)),hX2 _ (show id<nx+4 by omega)]
  exact glo id hid
end
end Go.Proofs.YtegiblhkjfiooaaGreat
end
section
namespace Go.Proofs.YtegiblhkjfiooaaGreat
open Go Go.AM
set_option maxRecDepth 100000
def aFY:AC:=
 (.seq (.region [rq 0 2 (.box true (.tm 0)),
 rq 1 4 (.alloc [OZ,OZ,OZ])] 2 [1,2,4])
 (.seq (.seq (.region [rq 0 7 (.load 3 true (.tm 2)),
 rq 1 8 (.call wF [(.tm 7)]),
 rq 2 9 (.un .not (.tm 8)),
 RM 3 10 9,
 GQ 4 11 (.move (.tm 1)) 10 false,
 GQ 5 12 (.call jA [(.tm 11)]) 10 false,
 GQ 6 13 (.un .not (.tm 12)) 10 false,
 rq 7 14 (.pick (.tm 10) (.kv (.bool true)) (.tm 13))] 8 [1,2,4,14])
 (.cond (.tm 14)
 (.seq (.region [rq 0 15 (.build [OZ,OZ,OZ] []),
 rn 1 (.store 3 true (.tm 4) (.tm 15))] 2 [4])
 .ret)
 .skip))
 (.seq (.region [rq 0 16 (.load 3 true (.tm 2)),
 rq 1 17 (.call aFG [(.tm 16)]),
 rq 2 5 (.alloc [OZ,OZ,OZ]),
 rn 3 (.store 3 true (.tm 5) (.tm 17))] 4 [1,4,5])
 (.seq (.seq (.region [RF 0 18 2 5,
 RL 1 19 18,
 rq 2 20 (.len false (.tm 19)),
 rq 3 21 (.move (ki 0))] 4 [1,4,5,20,21])
 (.block 0
 (.loop
 (.seq (.region [rq 0 22 (.bin .lss (.tm 21) (.tm 20))] 1 [1,4,5,20,21,22])
 (.seq (.cond (.tm 22)
 .skip
 (.exit 0))
 (.seq (.block 1
 (.seq (.region [RM 0 23 21,
 RM 1 6 23] 2 [1,4,5,6,20,21])
 (.seq (.region [RM 0 24 6,
 RM 1 25 1,
 rq 2 26 (.bin .neq (.tm 24) (.tm 25))] 3 [1,4,5,6,20,21,26])
 (.cond (.tm 26)
 (.region [RF 0 27 2 5,
 RL 1 28 27,
 RM 2 29 6,
 rq 3 30 (.idx 1 (.tm 28) (.tm 29)),
 rn 4 (.store 1 false (.tm 30) (.kv (.slice none 0 0)))] 5 [1,4,5,20,21])
 .skip))))
 (.region [rq 0 31 (.bin .add (.tm 21) (ki 1)),
 RM 1 21 31] 2 [1,4,5,20,21])))))))
 (.seq (.region [rq 0 32 (.load 3 true (.tm 5)),
 rn 1 (.store 3 true (.tm 4) (.tm 32))] 2 [4])
 .ret)))))
def aGZ:List Cert:=[⟨[],[1,2,4]⟩,⟨[],[1,2,4,14]⟩,⟨[],[4]⟩,⟨[],[1,4,5]⟩,⟨[],[1,4,5,20,21]⟩,⟨[],[1,4,5,20,21,22]⟩,⟨[],[1,4,5,6,20,21]⟩,⟨[],[1,4,5,6,20,21,26]⟩,⟨[],[1,4,5,20,21]⟩,⟨[],[1,4,5,20,21]⟩,⟨[],[4]⟩]
def aGL:List aW:=[.cell 4 3 true]
theorem aGY:aO Tryz.prog Tryz.f15 aGZ=some (aFY,aGL):=by kernel_rfl
def aAU:AC:=
 (.seq (.region [rq 0 2 (.alloc [OZ,OZ,OZ]),
 rq 1 3 (.move (.kv (.slice none 0 0)))] 2 [0,2])
 (.seq (.region [RM 0 6 0,
 rq 1 7 (.call kN [(.tm 6)]),
 RM 2 4 7] 3 [2,4])
 (.seq (.region [RM 0 8 4,
 rq 1 9 (.call aBE [(.tm 8)]),
 rq 2 5 (.alloc [OZ,OZ,OZ]),
 rn 3 (.store 3 true (.tm 5) (.tm 9))] 4 [2,4,5])
 (.seq (.region [⟨0,(some 10),.load 3 true (.tm 5),none,[],[],true⟩,
 RM 1 11 4,
 ⟨2,(some 12),.call AE [(.tm 11),(ki 50)],none,[],[0],false⟩,
 rn 3 (.store 3 true (.tm 2) (.tm 10)),
 RM 4 3 12] 5 [2,3])
 .ret))))
def aCH:List Cert:=[⟨[],[0,2]⟩,⟨[],[2,4]⟩,⟨[],[2,4,5]⟩,⟨[(0,[],[],true),cz 1,(2,[],[0],false),cz 3,cz 4],[2,3]⟩]
def aA5:List aW:=[.cell 2 3 true,.tm 3]
theorem aCB:aO Tryz.prog Tryz.f27 aCH=some (aAU,aA5):=by kernel_rfl
theorem aCE:aN Tryz.prog aAT Tryz.f27 aAU aA5:=
 aN.mk Tryz.func27 (by kernel_rfl) aCB
def aA9:AC:=
 (.seq (.region [rq 0 2 (.box true (.tm 0)),
 rq 1 4 (.move (.kv (.bool false)))] 2 [1,2])
 (.seq (.seq (.region [rq 0 10 (.load 3 true (.tm 2)),
 rq 1 11 (.call wF [(.tm 10)]),
 rq 2 12 (.un .not (.tm 11)),
 RM 3 13 12,
 GQ 4 14 (.move (.tm 1)) 13 false,
 GQ 5 15 (.call jA [(.tm 14)]) 13 false,
 GQ 6 16 (.un .not (.tm 15)) 13 false,
 rq 7 17 (.pick (.tm 13) (.kv (.bool true)) (.tm 16))] 8 [1,2,17])
 (.cond (.tm 17)
 (.seq (.region [rq 0 4 (.move (.kv (.bool false)))] 1 [4])
 .ret)
 .skip))
 (.seq (.region [rq 0 5 (.alloc [(.v (.bool false)),(.v (.bool false)),(.v (.bool false)),(.v (.bool false))])] 1 [1,2,5])
 (.seq (.seq (.region [RF 0 18 2 2,
 RL 1 19 18,
 RM 2 20 1,
 rq 3 21 (.idx 1 (.tm 19) (.tm 20)),
 RL 4 22 21,
 rq 5 23 (.len false (.tm 22)),
 rq 6 24 (.move (ki 0))] 7 [1,2,5,22,23,24])
 (.block 0
 (.loop
 (.seq (.region [rq 0 25 (.bin .lss (.tm 24) (.tm 23))] 1 [1,2,5,22,23,24,25])
 (.seq (.cond (.tm 25)
 .skip
 (.exit 0))
 (.seq (.block 1
 (.seq (.region [rq 0 26 (.idx 7 (.tm 22) (.tm 24)),
 rq 1 27 (.load 7 true (.tm 26)),
 rq 2 7 (.alloc [VZ,VZ,VZ,VZ,(.v (.bool false)),OZ,OZ]),
 rn 3 (.store 7 true (.tm 7) (.tm 27))] 4 [1,2,5,7,22,23,24])
 (.region [RF 0 28 0 2,
 RL 1 29 28,
 rq 2 30 (.load 7 true (.tm 7)),
 rq 3 31 (.call rN [(.tm 29),(.tm 30)]),
 rq 4 32 (.TL 1 4 (.tm 5) (.tm 31)),
 rn 5 (.store 1 false (.tm 32) (.kv (.bool true)))] 6 [1,2,5,22,23,24])))
 (.region [rq 0 33 (.bin .add (.tm 24) (ki 1)),
 RM 1 24 33] 2 [1,2,5,22,23,24])))))))
 (.seq (.seq (.region [RF 0 34 2 2,
 RL 1 35 34,
 rq 2 36 (.len false (.tm 35)),
 rq 3 37 (.move (ki 0))] 4 [1,2,5,35,36,37])
 (.block 2
 (.loop
 (.seq (.region [rq 0 38 (.bin .lss (.tm 37) (.tm 36))] 1 [1,2,5,35,36,37,38])
 (.seq (.cond (.tm 38)
 .skip
 (.exit 2))
 (.seq (.block 3
 (.seq (.region [RM 0 39 37,
 rq 1 40 (.idx 1 (.tm 35) (.tm 37)),
 RL 2 41 40,
 RM 3 8 39,
 RM 4 9 41] 5 [1,2,5,8,9,35,36,37])
 (.seq (.region [RM 0 42 8,
 RM 1 43 1,
 rq 2 44 (.bin .neq (.tm 42) (.tm 43)),
 RM 3 45 44,
 GQ 4 46 (.move (.tm 9)) 45 true,
 GQ 5 47 (.xop (.zI aAV) [(.tm 5),(.tm 2)]) 45 true,
 GQ 6 48 (.call cN [(.tm 46),(.tm 47)]) 45 true,
 rq 7 49 (.pick (.tm 45) (.tm 48) (.kv (.bool false)))] 8 [1,2,5,35,36,37,49])
 (.cond (.tm 49)
 (.seq (.region [rq 0 4 (.move (.kv (.bool false)))] 1 [4])
 .ret)
 .skip))))
 (.region [rq 0 50 (.bin .add (.tm 37) (ki 1)),
 RM 1 37 50] 2 [1,2,5,35,36,37])))))))
 (.seq (.region [rq 0 4 (.move (.kv (.bool true)))] 1 [4])
 .ret))))))
def aCJ:List Cert:=[⟨[],[1,2]⟩,⟨[],[1,2,17]⟩,⟨[],[4]⟩,⟨[],[1,2,5]⟩,⟨[],[1,2,5,22,23,24]⟩,⟨[],[1,2,5,22,23,24,25]⟩,⟨[],[1,2,5,7,22,23,24]⟩,⟨[],[1,2,5,22,23,24]⟩,⟨[],[1,2,5,22,23,24]⟩,⟨[],[1,2,5,35,36,37]⟩,⟨[],[1,2,5,35,36,37,38]⟩,⟨[],[1,2,5,8,9,35,36,37]⟩,⟨[],[1,2,5,35,36,37,49]⟩,⟨[],[4]⟩,⟨[],[1,2,5,35,36,37]⟩,⟨[],[4]⟩]
def aBT:List aW:=[.tm 4]
theorem aCN:aO Tryz.prog Tryz.f28 aCJ=some (aA9,aBT):=by kernel_rfl
def aA8:AC:=
 (.seq (.region [rq 0 2 (.alloc [OZ,OZ,OZ])] 1 [0,2])
 (.seq (.region [RM 0 8 0,
 rq 1 9 (.call lJ [(.tm 8),(ki 6)]),
 rq 2 3 (.alloc [OZ,OZ,OZ]),
 rn 3 (.store 3 true (.tm 3) (.tm 9))] 4 [0,2,3])
 (.seq (.region [rq 0 10 (.build [VZ,VZ,VZ,(.v (.bool false))] [(0,1,(ki 0)),(1,1,(ki 15))]),
 rq 1 11 (.build [VZ,VZ,VZ,(.v (.bool false))] [(0,1,(ki 16)),(1,1,(ki 31)),(2,1,(ki 1))]),
 rq 2 12 (.build [VZ,VZ,VZ,(.v (.bool false))] [(0,1,(ki 32)),(1,1,(ki 47)),(2,1,(ki 2))]),
 rq 3 13 (.bC 4 3 [VZ,VZ,VZ,(.v (.bool false))] [(0,4,(.tm 10)),(4,4,(.tm 11)),(8,4,(.tm 12))]),
 RF 4 14 0 3,
 rn 5 (.store 1 false (.tm 14) (.tm 13))] 6 [0,2,3])
 (.seq (.seq (.region [rq 0 4 (.move (ki 0))] 1 [0,2,3,4])
 (.block 0
 (.loop
 (.seq (.seq (.region [RM 0 15 4,
 rq 1 16 (.bin .lss (.tm 15) (ki 3))] 2 [0,2,3,4,16])
 (.cond (.tm 16)
 .skip
 (.exit 0)))
 (.seq (.block 1
 (.seq (.region [rq 0 19 (.bC 7 0 [VZ,VZ,VZ,VZ,(.v (.bool false)),OZ,OZ] []),
 RM 1 5 19] 2 [0,2,3,4,5])
 (.seq (.seq (.region [rq 0 6 (.move (ki 0))] 1 [0,2,3,4,5,6])
 (.block 2
 (.loop
 (.seq (.seq (.region [RM 0 20 6,
 RF 1 21 2 3,
 RL 2 22 21,
 RM 3 23 4,
 rq 4 24 (.idx 1 (.tm 22) (.tm 23)),
 RL 5 25 24,
 rq 6 26 (.len false (.tm 25)),
 rq 7 27 (.bin .lss (.tm 20) (.tm 26))] 8 [0,2,3,4,5,6,27])
 (.cond (.tm 27)
 .skip
 (.exit 2)))
 (.seq (.block 3
 (.seq (.region [RF 0 30 2 3,
 RL 1 31 30,
 RM 2 32 4,
 rq 3 33 (.idx 1 (.tm 31) (.tm 32)),
 RL 4 34 33,
 RM 5 35 6,
 rq 6 36 (.idx 7 (.tm 34) (.tm 35)),
 rq 7 37 (.load 7 true (.tm 36)),
 rq 8 7 (.alloc [VZ,VZ,VZ,VZ,(.v (.bool false)),OZ,OZ]),
 rn 9 (.store 7 true (.tm 7) (.tm 37))] 10 [0,2,3,4,5,6,7])
 (.seq (.region [RF 0 38 0 3,
 RL 1 39 38,
 rq 2 40 (.load 7 true (.tm 7)),
 rq 3 41 (.call y3 [(.tm 39),(.tm 40)]),
 rq 4 42 (.bin .eql (.tm 41) (ki 0)),
 RM 5 43 4,
 rq 6 44 (.bin .eql (.tm 43) (ki 0)),
 rq 7 45 (.beq false (.tm 42) (.tm 44)),
 RM 8 46 45,
 GQ 9 47 (.fld 0 (.tm 3)) 46 true,
 GQ 10 48 (.load 1 false (.tm 47)) 46 true,
 GQ 11 49 (.load 7 true (.tm 7)) 46 true,
 GQ 12 50 (.call y3 [(.tm 48),(.tm 49)]) 46 true,
 GQ 13 51 (.bin .neq (.tm 50) (ki 3)) 46 true,
 rq 14 52 (.pick (.tm 46) (.tm 51) (.kv (.bool false)))] 15 [0,2,3,4,5,6,7,52])
 (.cond (.tm 52)
 (.region [RM 0 53 5,
 rq 1 54 (.load 7 true (.tm 7)),
 rq 2 55 (.bC 7 1 [VZ,VZ,VZ,VZ,(.v (.bool false)),OZ,OZ] [(0,7,(.tm 54))]),
 rq 3 56 (.append 7 (.tm 53) (.tm 55)),
 RM 4 5 56] 5 [0,2,3,4,5,6])
 .skip))))
 (.region [RM 0 28 6,
 rq 1 29 (.bin .add (.tm 28) (ki 1)),
 RM 2 6 29] 3 [0,2,3,4,5,6]))))))
 (.seq (.seq (.region [RM 0 57 4,
 rq 1 58 (.bin .eql (.tm 57) (ki 0))] 2 [0,2,3,4,5,58])
 (.cond (.tm 58)
 (.region [RM 0 59 5,
 RM 1 60 0,
 rq 2 61 (.call aD [(.tm 60),(ki 12)]),
 rq 3 62 (.build [VZ,VZ,VZ,VZ,(.v (.bool false)),OZ,OZ] [(1,1,(ki 1)),(2,1,(.tm 61)),(3,1,(ki 4))]),
 rq 4 63 (.bC 7 1 [VZ,VZ,VZ,VZ,(.v (.bool false)),OZ,OZ] [(0,7,(.tm 62))]),
 rq 5 64 (.append 7 (.tm 59) (.tm 63)),
 RM 6 5 64] 7 [0,2,3,4,5])
 .skip))
 (.region [RF 0 65 2 3,
 RL 1 66 65,
 RM 2 67 4,
 RM 3 68 5,
 RM 4 69 5,
 rq 5 70 (.len false (.tm 69)),
 rq 6 71 (.mmx true (.tm 70) (ki 12)),
 rq 7 72 (.slc 7 (.tm 68) none (some (.tm 71)) none),
 rq 8 73 (.idx 1 (.tm 66) (.tm 67)),
 rn 9 (.store 1 false (.tm 73) (.tm 72))] 10 [0,2,3,4])))))
 (.region [RM 0 17 4,
 rq 1 18 (.bin .add (.tm 17) (ki 1)),
 RM 2 4 18] 3 [0,2,3,4]))))))
 (.seq (.region [rq 0 74 (.load 3 true (.tm 3)),
 rn 1 (.store 3 true (.tm 2) (.tm 74))] 2 [2])
 .ret)))))
def aCZ:List Cert:=[⟨[],[0,2]⟩,⟨[],[0,2,3]⟩,⟨[],[0,2,3]⟩,⟨[],[0,2,3,4]⟩,⟨[],[0,2,3,4,16]⟩,⟨[],[0,2,3,4,5]⟩,⟨[],[0,2,3,4,5,6]⟩,⟨[],[0,2,3,4,5,6,27]⟩,⟨[],[0,2,3,4,5,6,7]⟩,⟨[],[0,2,3,4,5,6,7,52]⟩,⟨[],[0,2,3,4,5,6]⟩,⟨[],[0,2,3,4,5,6]⟩,⟨[],[0,2,3,4,5,58]⟩,⟨[],[0,2,3,4,5]⟩,⟨[cz 0,cz 1,cz 2,cz 3,cz 4,cz 5,cz 6,cz 7,cz 8,cz 9],[0,2,3,4]⟩,⟨[],[0,2,3,4]⟩,⟨[],[2]⟩]
def aBQ:List aW:=[.cell 2 3 true]
theorem aCL:aO Tryz.prog Tryz.f72 aCZ=some (aA8,aBQ):=by kernel_rfl
def aA2:AC:=
 (.seq (.region [rq 0 3 (.box true (.tm 0)),
 rq 1 4 (.move (.kv (.bool false)))] 2 [1,2,3])
 (.seq (.region [RF 0 5 0 2,
 RL 1 6 5,
 rq 2 7 (.load 7 true (.tm 3)),
 rq 3 8 (.call rN [(.tm 6),(.tm 7)]),
 rq 4 9 (.TL 1 4 (.tm 1) (.tm 8)),
 RL 5 10 9,
 RM 6 4 10] 7 [4])
 .ret))
def aB8:List Cert:=[⟨[],[1,2,3]⟩,⟨[],[4]⟩]
def aBI:List aW:=[.tm 4]
theorem aCA:aO Tryz.prog Tryz.f75 aB8=some (aA2,aBI):=by kernel_rfl
def aA7:AC:=
 (.seq (.region [rq 0 3 (.box true (.tm 1)),
 rq 1 4 (.move (ki 0))] 2 [0,3])
 (.seq (.seq (.region [RM 0 6 0,
 rq 1 7 (.call aBG [(.tm 6)]),
 rq 2 8 (.un .not (.tm 7)),
 RM 3 9 8,
 GQ 4 10 (.load 7 true (.tm 3)) 9 false,
 GQ 5 11 (.call aBF [(.tm 10)]) 9 false,
 GQ 6 12 (.un .not (.tm 11)) 9 false,
 rq 7 13 (.pick (.tm 9) (.kv (.bool true)) (.tm 12))] 8 [0,3,13])
 (.cond (.tm 13)
 (.seq (.region [rq 0 4 (.move (.kv (.int .i64 (-1))))] 1 [4])
 .ret)
 .skip))
 (.seq (.region [RM 0 14 0,
 RF 1 15 2 3,
 RL 2 16 15,
 RF 3 17 3 3,
 RL 4 18 17,
 RF 5 19 4 3,
 RL 6 20 19,
 rq 7 21 (.call aAY [(.tm 16),(.tm 18),(.tm 20)]),
 rq 8 22 (.call aA4 [(.tm 14),(.tm 21)]),
 RM 9 5 22] 10 [0,5])
 (.seq (.seq (.region [RM 0 23 5,
 rq 1 24 (.bin .lss (.tm 23) (ki 0))] 2 [0,5,24])
 (.cond (.tm 24)
 (.seq (.region [rq 0 4 (.move (ki 3))] 1 [4])
 .ret)
 .skip))
 (.seq (.region [RM 0 25 0,
 RM 1 26 5,
 rq 2 27 (.idx 4 (.tm 25) (.tm 26)),
 RF 3 28 2 27,
 RL 4 29 28,
 RM 5 4 29] 6 [4])
 .ret)))))
def aCK:List Cert:=[⟨[],[0,3]⟩,⟨[],[0,3,13]⟩,⟨[],[4]⟩,⟨[],[0,5]⟩,⟨[],[0,5,24]⟩,⟨[],[4]⟩,⟨[],[4]⟩]
def aBU:List aW:=[.tm 4]
theorem aCT:aO Tryz.prog Tryz.f78 aCK=some (aA7,aBU):=by kernel_rfl
theorem aCQ:aN Tryz.prog y3 Tryz.f78 aA7 aBU:=
 aN.mk Tryz.func78 (by kernel_rfl) aCT
end Go.Proofs.YtegiblhkjfiooaaGreat
end
section
namespace Go.Proofs.YtegiblhkjfiooaaGreat
open Go Go.AM
set_option maxRecDepth 100000
def yD:AC:=
 (.seq (.region [rq 0 4 (.move (.kv (.slice none 0 0)))] 1 [0,1])
 (.seq (.region [rq 0 8 (.bC 3 0 [OZ,OZ,OZ] []),
 RM 1 5 8] 2 [0,1,5])
 (.seq (.region [rq 0 9 (.bC 1 4 [VZ] [(0,1,(ki 2)),(1,1,(ki 3)),(2,1,(ki 5)),(3,1,(ki 20))]),
 RM 1 10 0,
 rq 2 11 (.call aD [(.tm 10),(ki 4)]),
 rq 3 12 (.idx 1 (.tm 9) (.tm 11)),
 RL 4 13 12,
 RM 5 6 13] 6 [0,1,5,6])
 (.seq (.seq (.region [RM 0 14 0,
 RM 1 15 1,
 rq 2 16 (.call aD [(.tm 14),(.tm 15)]),
 RM 3 7 16] 4 [0,5,6,7])
 (.block 0
 (.loop
 (.seq (.seq (.region [RM 0 17 7,
 rq 1 18 (.bin .gtr (.tm 17) (ki 0))] 2 [0,5,6,7,18])
 (.cond (.tm 18)
 .skip
 (.exit 0)))
 (.seq (.block 1
 (.region [RM 0 21 5,
 RM 1 22 0,
 RM 2 23 6,
 rq 3 24 (.call B9 [(.tm 22),(.tm 23)]),
 rq 4 25 (.bC 3 1 [OZ,OZ,OZ] [(0,3,(.tm 24))]),
 rq 5 26 (.append 3 (.tm 21) (.tm 25)),
 RM 6 5 26] 7 [0,5,6,7]))
 (.region [RM 0 19 7,
 rq 1 20 (.bin .sub (.tm 19) (ki 1)),
 RM 2 7 20] 3 [0,5,6,7]))))))
 (.seq (.region [RM 0 27 5,
 RM 1 4 27] 2 [4])
 .ret)))))
def R9:List Cert:=[⟨[],[0,1]⟩,⟨[],[0,1,5]⟩,⟨[],[0,1,5,6]⟩,⟨[],[0,5,6,7]⟩,⟨[],[0,5,6,7,18]⟩,⟨[],[0,5,6,7]⟩,⟨[],[0,5,6,7]⟩,⟨[],[4]⟩]
def FE:List aW:=[.tm 4]
theorem R1:aO Tryz.prog Tryz.f57 R9=some (yD,FE):=by kernel_rfl
def z9:AC:=
 (.seq (.region [rq 0 4 (.alloc [OZ,OZ,OZ])] 1 [0,1,4])
 (.seq (.region [rq 0 8 (.call CS []),
 rq 1 5 (.alloc [OZ,OZ,OZ]),
 rn 2 (.store 3 true (.tm 5) (.tm 8))] 3 [0,1,4,5])
 (.seq (.seq (.region [rq 0 6 (.move (ki 0))] 1 [0,1,4,5,6])
 (.block 0
 (.loop
 (.seq (.seq (.region [RM 0 9 6,
 rq 1 10 (.bin .lss (.tm 9) (ki 3))] 2 [0,1,4,5,6,10])
 (.cond (.tm 10)
 .skip
 (.exit 0)))
 (.seq (.block 1
 (.seq (.region [RF 0 13 0 5,
 ⟨1,(some 14),.load 1 false (.tm 13),none,[],[],true⟩,
 RM 2 15 6,
 RM 3 16 0,
 RM 4 17 1,
 ⟨5,(some 18),.call aD [(.tm 16),(.tm 17)],none,[],[1],false⟩,
 rq 6 19 (.bin .gtr (.tm 18) (ki 0)),
 rq 7 20 (.idx 1 (.tm 14) (.tm 15)),
 rn 8 (.store 1 false (.tm 20) (.tm 19))] 9 [0,1,4,5,6])
 (.region [RF 0 21 2 5,
 ⟨1,(some 22),.load 1 false (.tm 21),none,[],[],true⟩,
 RM 2 23 6,
 RM 3 24 0,
 RM 4 25 1,
 ⟨5,(some 26),.call aD [(.tm 24),(.tm 25)],none,[],[1],false⟩,
 rq 6 27 (.bin .gtr (.tm 26) (ki 0)),
 rq 7 28 (.idx 1 (.tm 22) (.tm 23)),
 rn 8 (.store 1 false (.tm 28) (.tm 27))] 9 [0,1,4,5,6])))
 (.region [RM 0 11 6,
 rq 1 12 (.bin .add (.tm 11) (ki 1)),
 RM 2 6 12] 3 [0,1,4,5,6]))))))
 (.seq (.seq (.region [rq 0 7 (.move (ki 0))] 1 [0,1,4,5,7])
 (.block 2
 (.loop
 (.seq (.seq (.region [RM 0 29 7,
 rq 1 30 (.bin .leq (.tm 29) (ki 3))] 2 [0,1,4,5,7,30])
 (.cond (.tm 30)
 .skip
 (.exit 2)))
 (.seq (.block 3
 (.region [RF 0 33 1 5,
 ⟨1,(some 34),.load 1 false (.tm 33),none,[],[],true⟩,
 RM 2 35 7,
 RM 3 36 0,
 RM 4 37 1,
 ⟨5,(some 38),.call aD [(.tm 36),(.tm 37)],none,[],[1],false⟩,
 rq 6 39 (.bin .eql (.tm 38) (ki 0)),
 rq 7 40 (.idx 1 (.tm 34) (.tm 35)),
 rn 8 (.store 1 false (.tm 40) (.tm 39))] 9 [0,1,4,5,7]))
 (.region [RM 0 31 7,
 rq 1 32 (.bin .add (.tm 31) (ki 1)),
 RM 2 7 32] 3 [0,1,4,5,7]))))))
 (.seq (.region [rq 0 41 (.load 3 true (.tm 5)),
 rn 1 (.store 3 true (.tm 4) (.tm 41))] 2 [4])
 .ret)))))
def VG:List Cert:=[⟨[],[0,1,4]⟩,⟨[],[0,1,4,5]⟩,⟨[],[0,1,4,5,6]⟩,⟨[],[0,1,4,5,6,10]⟩,⟨[cz 0,(1,[],[],true),cz 2,cz 3,cz 4,(5,[],[1],false),cz 6,cz 7,cz 8],[0,1,4,5,6]⟩,⟨[cz 0,(1,[],[],true),cz 2,cz 3,cz 4,(5,[],[1],false),cz 6,cz 7,cz 8],[0,1,4,5,6]⟩,⟨[],[0,1,4,5,6]⟩,⟨[],[0,1,4,5,7]⟩,⟨[],[0,1,4,5,7,30]⟩,⟨[cz 0,(1,[],[],true),cz 2,cz 3,cz 4,(5,[],[1],false),cz 6,cz 7,cz 8],[0,1,4,5,7]⟩,⟨[],[0,1,4,5,7]⟩,⟨[],[4]⟩]
def I6:List aW:=[.cell 4 3 true]
theorem U3:aO Tryz.prog Tryz.f109 VG=some (z9,I6):=by kernel_rfl
def zW:AC:=
 (.seq (.region [rq 0 0 (.alloc [OZ,OZ,OZ])] 1 [0])
 (.seq (.region [rq 0 1 (.bC 1 3 [(.v (.bool false))] [(0,1,(.kv (.bool true))),(1,1,(.kv (.bool true))),(2,1,(.kv (.bool true)))]),
 rq 1 2 (.bC 1 4 [(.v (.bool false))] [(0,1,(.kv (.bool false))),(1,1,(.kv (.bool false))),(2,1,(.kv (.bool false))),(3,1,(.kv (.bool false)))]),
 rq 2 3 (.bC 1 3 [(.v (.bool false))] [(0,1,(.kv (.bool true))),(1,1,(.kv (.bool true))),(2,1,(.kv (.bool true)))]),
 rq 3 4 (.build [OZ,OZ,OZ] [(0,1,(.tm 1)),(1,1,(.tm 2)),(2,1,(.tm 3))]),
 rn 4 (.store 3 true (.tm 0) (.tm 4))] 5 [0])
 .ret))
def TO:List Cert:=[⟨[],[0]⟩,⟨[],[0]⟩]
def IZ:List aW:=[.cell 0 3 true]
theorem UW:aO Tryz.prog Tryz.f178 TO=some (zW,IZ):=by kernel_rfl
end Go.Proofs.YtegiblhkjfiooaaGreat
end
section
namespace Go.Proofs.YtegiblhkjfiooaaGreat
open Go Go.AM
set_option maxRecDepth 100000
set_option maxHeartbeats 4000000
section
variable {H : aA} {nx : Nat} {K : D → aA → Nat → Prop}
theorem K1 (l:List Int) (p:Nat) (n:Int) (hl:kZ l) (hp50:p<2^50) (hn: -2^31<n∧n<2^31):aB Tryz.prog aD [dP 2 0,dI n] (hp [(0,rdO l p)]) 1
 fun r H' n'=>n'=1∧ ∃o',H'=hp [(0,o')]∧C7 o'∧o'=rdO l (p+1)∧ ∃x:Int,r=dI x∧0≤x∧(x<n∨x=0):=by
 have hl2:=hl.len
 refine JN rfl fun Q hQ=> ?_
 unfold pG
 simp only[rdO]
 repeat' (first| (with_reducible first| (refine hK _ _ _ ?_;clear hK K)| (refine hA ?_;clear hA hB A B)| (refine hB ?_;clear hA hB A B)|refine Z1 ?_|refine Z2 ?_|refine Z6 (fun h=> ?_) fun h=> ?_)| (with_reducible first|refine Y2 fun K hK=> ?_|refine Y3 fun A B hA hB=> ?_|refine Y6 (fun h=> ?_) fun h=> ?_)<;>(simp only[go_sem];try simp (disch:=omega) only[Iw])| ((with_reducible refine Y8 ?_);try simp only[AQ.then,AQ.blk,reduceIte,Nat.reduceEqDiff])|refine⟨by omega,?_⟩|fail)
 ·exact lA hQ (dI 0) _ _ rfl (aE rfl) rfl (aV l (p+1)) ⟨rfl,0,rfl,by omega,by omega⟩
 ·exact lA hQ (dI 0) _ _ rfl (aE rfl) rfl (aV l (p+1)) ⟨rfl,0,rfl,by omega,by omega⟩
 ·have b1:=hl.at (p+1-1:Int).toNat
  rw[IntWalk.i64_in (l.getD _ _) (by omega)]
  exact lA hQ (dI _) _ _ rfl (aE rfl) rfl (aV l (p+1)) ⟨rfl,_,rfl,Int.tmod_nonneg _ (by omega),.inl (Int.tmod_lt_of_pos _ (by omega))⟩
 ·have e1:(p:Int)+1-1=p:=by omega
  rw[e1] at*
  have hl3:(0:Int)<l.length:=by omega
  have t1:=Int.tmod_nonneg (l.length:Int) (show (0:Int)≤p by omega)
  have t2:=Int.tmod_lt_of_pos (p:Int) hl3
  have t3:=Int.tmod_nonneg (l.length:Int) (show (0:Int)≤p*7+3 by omega)
  have t4:=Int.tmod_lt_of_pos ((p:Int)*7+3) hl3
  refine⟨⟨t1,t2⟩,by omega,⟨t3,t4⟩,by omega,hK _ _ _ ?_⟩
  clear hK K
  have b1:=hl.at ((p:Int).tmod l.length).toNat
  have b2:=hl.at ((p*7+3:Int).tmod l.length).toNat
  generalize l.getD ((p:Int).tmod l.length).toNat default=x1 at*
  generalize l.getD ((p*7+3:Int).tmod l.length).toNat default=x2 at*
  have d1:0≤(p:Int).tdiv l.length:=Int.tdiv_nonneg (by omega) (by omega)
  have d2:(p:Int).tdiv l.length≤p:=Int.tdiv_le_self _ (by omega)
  generalize (p:Int).tdiv l.length=q at*
  simp (disch:=omega) only[IntWalk.i64_in]
  have hx:0≤(x1:Int)*131+x2*1117+p*29+q*53∧(x1:Int)*131+x2*1117+p*29+q*53<2^60:=by omega
  generalize (x1:Int)*131+x2*1117+p*29+q*53=X at*
  have d3:0≤X.tdiv 64:=Int.tdiv_nonneg (by omega) (by omega)
  have d4:X.tdiv 64≤X:=Int.tdiv_le_self _ (by omega)
  have hy:=aq7 (a:=X) (b:=X.tdiv 64) (by omega) (by omega)
  repeat' (first| (with_reducible first| (refine hK _ _ _ ?_;clear hK K)|refine Z1 ?_)| (with_reducible refine Y2 fun K hK=> ?_)<;>(simp only[go_sem];try simp (disch:=omega) only[Iw])| ((with_reducible refine Y8 ?_);try simp only[AQ.then,AQ.blk,reduceIte,Nat.reduceEqDiff])|refine⟨by omega,?_⟩|fail)
  exact lA hQ (dI _) _ _ rfl (aE rfl) rfl (aV l (p+1)) ⟨rfl,_,rfl,Int.tmod_nonneg _ hy,.inl (Int.tmod_lt_of_pos _ (by omega))⟩
theorem aX {l:List Int} {p i:Nat} {n:Int} (hl:kZ l) (hp50:p<2^50) (hn: -2^31<n∧n<2^31) (hi:i<nx) (ho:H i=some (rdO l p)) (h: ∀x:Int,0≤x→(x<n∨x=0)→K (dI x) (H.set i (rdO l (p+1))) nx):
 aB Tryz.prog aD [dP 2 i,dI n] H nx K:=
 (K1 l p n hl hp50 hn).OU i rfl (gW ⟨DG (by omega) rfl,aE rfl,trivial⟩) hi ho (aV l p) fun r o' ⟨h1,x,h2,h3,h4⟩=>by
  subst h1;subst h2;exact h x h3 h4
theorem FJ (l:List Int) (p:Nat):aB Tryz.prog kE [dP 2 0,dI 99999] (hp [(0,rdO l p)]) 1
 fun r H' n'=>n'=1∧ ∃o',H'=hp [(0,o')]∧C7 o'∧o'=rdO l p∧r=dB false:=by
 refine LF rfl fun Q hQ=> ?_
 unfold rH
 repeat' (first| (with_reducible first| (refine hK _ _ _ ?_;clear hK K)|refine Z1 ?_)| (with_reducible refine Y2 fun K hK=> ?_)<;>(simp only[go_sem])| ((with_reducible refine Y8 ?_);try simp only[AQ.then,AQ.blk,reduceIte,Nat.reduceEqDiff])|fail)
 exact lA hQ (dB false) _ _ rfl (aE rfl) rfl (aV l p) ⟨rfl,rfl⟩
theorem uA {l:List Int} {p i:Nat} (hi:i<nx) (ho:H i=some (rdO l p)) (h:K (dB false) (H.set i (rdO l p)) nx):aB Tryz.prog kE [dP 2 i,dI 99999] H nx K:=
 (FJ l p).OU i rfl (gW ⟨DG (by omega) rfl,aE rfl,trivial⟩) hi ho (aV l p) fun r o' ⟨h1,h2⟩=>by
  subst h1;subst h2;exact h
end
end Go.Proofs.YtegiblhkjfiooaaGreat
end
